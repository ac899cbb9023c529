import Derived.Test.YtijbnjaackhlcaaGreatDoorPart1
import Derived.Test.YtijbnjaackhlcaaGreatDoorKit
/- Lemmas and walks for the claims of this seat (own work): Sx1 Sx2 Sx3 Sx4 Sx5 Ge1 Ct0 Sx6. -/
namespace Go.Vc
open Sim
def emptyN (k num : Int) (a m p q : Nat) : Bool := decide (k = 0) && decide (num = 0) && decide (a = 0) && decide (m = 0) && decide (p = 0) && decide (q = 0)
theorem emptyE_N (k num : Int) (name meth : ByteArray) (args or : List PE) : emptyE (.mk k num name meth args or) = emptyN k num name.size meth.size args.length or.length := rfl
def formN (r : RuleT) (num : Int) (a m : Nat) (b : Bool) (p q : Nat) : Bool :=
  if (!r.num && decide (num ≠ 0)) || (!r.name && !decide (a = 0)) || (!r.meth && !r.sign && !decide (m = 0)) then false
  else if r.sign && !b then false
  else if decide ((p : Int) < r.least) || decide (r.most < (p : Int)) then false
  else decide (q = 0) || (r.or && decide (q = 1))
theorem formE_N (r : RuleT) (k num : Int) (name meth : ByteArray) (args or : List PE) : formE r (.mk k num name meth args or) = formN r num name.size meth.size (inS sgL meth) args.length or.length := rfl
def rL (r : RuleT) : List Value := [.bool (decide (r.num = true)), .bool (decide (r.name = true)), .bool (decide (r.meth = true)), .bool (decide (r.sign = true)), .bool (decide (r.or = true)), .int .i64 r.top, .int .i64 r.least, .int .i64 r.most]
def rV (r : RuleT) : Value := .agg (List.toArray (rL r))
def rulesL : List Value := rL (ruleT 0) ++ (rL (ruleT 1) ++ (rL (ruleT 2) ++ (rL (ruleT 3) ++ (rL (ruleT 4) ++ (rL (ruleT 5) ++ (rL (ruleT 6) ++ rL (ruleT 7)))))))
theorem FnE.dec {P : Program} {w0 : World} {sh : Shared} {f : FuncId} {args : List Value} {Γ Γ' : List Asn} {b : Bool} (h : FnE P w0 sh f args Γ (.bool b) Γ') : FnE P w0 sh f args Γ (.bool (decide (b = true))) Γ' := by
  rw [Bool.decide_eq_true]; exact h
theorem kind8 {k : Int} (h : 0 ≤ k ∧ k ≤ 7) : k = 0 ∨ k = 1 ∨ k = 2 ∨ k = 3 ∨ k = 4 ∨ k = 5 ∨ k = 6 ∨ k = 7 := by omega
theorem rulesL_rd {k : Int} (h : 0 ≤ k ∧ k ≤ 7) : rd true 8 rulesL (k.toNat * 8) = some (rV (ruleT k)) := by
  rcases kind8 h with rfl | rfl | rfl | rfl | rfl | rfl | rfl | rfl <;> rfl
end Go.Vc
namespace Go.Proofs.YtijbnjaackhlcaaGreatDoor
open Go.Vc Sim
theorem rules_spec (w0 : World) : FnE PP w0 [] 94 [] [] (.agg (List.toArray rulesL)) [] := by
  refine fn_of_run en94 fn94 rfl rfl rfl ?_
  repeat' (first | refine zck ?_ | refine zcp (by kernel_rfl) ?_ | (refine zap rfl ?_; first | refine zae 0 rfl rfl rfl rfl rfl rfl rfl ?_ | refine zar (fun nb => ?_) | refine zcb rfl ?_ | refine reg_buildA rfl ?_) | refine zch ?_)
  exact run_ret (leaves_nil (ends_take [] rfl (ends_one rfl (resOk_pt 0 rfl rfl rfl) ⟨rfl, rfl, rfl⟩)))
theorem binaries_spec (w0 : World) : Vc.Fn PP w0 [] 229 [] [] (fun v Γ => Γ = [Rds fun bl => RdSl w0 bl encY 1 v sgL]) := by
  refine fn_of_run en229 fn229 rfl rfl rfl ?_
  repeat' (first | refine zck ?_ | refine zcp (by kernel_rfl) ?_ | (refine zap rfl ?_; first | refine reg_buildSlice rfl rfl rfl rfl rfl rfl (fun nb => ?_) | refine zan rfl ?_) | refine zch ?_)
  refine run_exch 0 (Rds fun bl => RdSl w0 bl encY 1 (.slice (some ⟨nb, 0, none⟩) 13 13) sgL) rfl (fun g hg => Rds.mono (fun _ hb => RdSl.flat (encE := encY) (q := 1) (w0 := w0) (b := nb) (l := sgL) (fun _ _ => rfl) hb) g (Rds.of_pt g hg)) rfl ?_
  exact ret_tmp1 rfl rfl
theorem hasName_spec (w0 : World) (k : Int) : FnE PP w0 [] 82 [.int .i64 k] [] (.bool (hasNm k)) [] := by
  refine fn_of_run en82 fn82 rfl rfl rfl ?_
  repeat' (first | refine zck ?_ | refine zcp (by kernel_rfl) ?_ | (refine zap rfl ?_; first | refine zaj rfl ?_ | refine zak rfl ?_ | refine zam rfl rfl (fun _ => ?_) (fun _ => ?_) | refine zan rfl ?_ | refine zan rfl ?_ | refine zbo rfl rfl ?_ | refine zbu rfl ?_ | refine zbv rfl ?_) | refine zch ?_)
  all_goals exact ret_tmp1 rfl ⟨bool_eq (by simp [hasNm, *]), rfl⟩
theorem hasNum_spec (w0 : World) (k : Int) : FnE PP w0 [] 92 [.int .i64 k] [] (.bool (hasNu k)) [] := by
  refine fn_of_run en92 fn92 rfl rfl rfl ?_
  repeat' (first | refine zck ?_ | refine zcp (by kernel_rfl) ?_ | (refine zap rfl ?_; first | refine zaj rfl ?_ | refine zak rfl ?_ | refine zam rfl rfl (fun _ => ?_) (fun _ => ?_) | refine zan rfl ?_ | refine zan rfl ?_ | refine zbo rfl rfl ?_ | refine zbu rfl ?_ | refine zbv rfl ?_) | refine zch ?_)
  all_goals exact ret_tmp1 rfl ⟨bool_eq (by simp [hasNu, *]), rfl⟩
theorem hasExpr_spec (w0 : World) (k : Int) : FnE PP w0 [] 83 [.int .i64 k] [] (.bool (hasEx k)) [] := by
  refine fn_of_run en83 fn83 rfl rfl rfl ?_
  repeat' (first | refine zck ?_ | refine zcp (by kernel_rfl) ?_ | (refine zap rfl ?_; first | refine zaj rfl ?_ | refine zak rfl ?_ | refine zam rfl rfl (fun _ => ?_) (fun _ => ?_) | refine zan rfl ?_ | refine zan rfl ?_ | refine zbp rfl rfl ?_ | refine zbu rfl ?_ | refine zbv rfl ?_) | refine zch ?_)
  all_goals exact ret_tmp1 rfl ⟨bool_eq (by simp [hasEx, *]), rfl⟩
theorem empty_spec (w0 : World) (sh : Shared) (e : PE) (va vo : Value) (ha : RdEl w0 sh va e.args) (ho : RdEl w0 sh vo e.or) :
    FnE PP w0 [] 93 [.agg (List.toArray (peC e.kind e.num e.name e.meth va vo))] [] (.bool (emptyE e)) [] := by
  obtain ⟨a1, c1, rfl, _⟩ := ha.len
  obtain ⟨a2, c2, rfl, _⟩ := ho.len
  clear ha ho
  obtain ⟨kind, num, name, meth, args, or⟩ := e
  dsimp only [PE.kind, PE.num, PE.name, PE.meth, PE.args, PE.or] at *
  refine fn_of_run en93 fn93 rfl rfl rfl ?_
  repeat' (first | refine zck ?_ | refine zcp (by kernel_rfl) ?_ | (refine zap rfl ?_; first | refine reg_eqS0 rfl rfl ?_ | refine zaj rfl ?_ | refine zak rfl ?_ | refine zam rfl rfl (fun _ => ?_) (fun _ => ?_) | refine zan rfl ?_ | refine zan rfl ?_ | refine zab 0 rfl rfl rfl ?_ | refine zce rfl ?_ | refine zao rfl ?_ | refine zbo rfl rfl ?_ | refine zbu rfl ?_ | refine zbv rfl ?_ | refine zaq (cs := [_, _, _, _, _, _]) rfl (fun nb => ?_)) | refine zch ?_)
  all_goals refine run_take [] rfl ?_
  all_goals refine ret_tmp1 rfl ⟨bool_eq ?_, rfl⟩
  all_goals rw [emptyE_N]
  all_goals generalize name.size = a at *
  all_goals generalize meth.size = m at *
  all_goals generalize args.length = p at *
  all_goals generalize or.length = q at *
  all_goals first | (simp_all [emptyN]; done) | (simp_all [emptyN]; omega)
set_option maxHeartbeats 4000000 in
theorem form_spec (w0 : World) (sh : Shared) (e : PE) (va vo : Value) (ha : RdEl w0 sh va e.args) (ho : RdEl w0 sh vo e.or) (hk : 0 ≤ e.kind ∧ e.kind ≤ 7) :
    FnE PP w0 [] 95 [rV (ruleT e.kind), .agg (List.toArray (peC e.kind e.num e.name e.meth va vo))] [] (.bool (formE (ruleT e.kind) e)) [] := by
  obtain ⟨a1, c1, rfl, _⟩ := ha.len
  obtain ⟨a2, c2, rfl, _⟩ := ho.len
  clear ha ho
  obtain ⟨kind, num, name, meth, args, or⟩ := e
  dsimp only [PE.kind, PE.num, PE.name, PE.meth, PE.args, PE.or] at *
  rcases kind8 hk with rfl | rfl | rfl | rfl | rfl | rfl | rfl | rfl
  all_goals clear hk
  case' inl => rw [show rV (ruleT 0) = .agg (List.toArray [.bool true, .bool false, .bool false, .bool false, .bool false, .int .i64 9223372036854775807, .int .i64 0, .int .i64 0]) from rfl]
  case' inr.inl => rw [show rV (ruleT 1) = .agg (List.toArray [.bool true, .bool false, .bool false, .bool false, .bool false, .int .i64 1, .int .i64 0, .int .i64 0]) from rfl]
  case' inr.inr.inl => rw [show rV (ruleT 2) = .agg (List.toArray [.bool false, .bool true, .bool false, .bool false, .bool false, .int .i64 0, .int .i64 0, .int .i64 0]) from rfl]
  case' inr.inr.inr.inl => rw [show rV (ruleT 3) = .agg (List.toArray [.bool false, .bool false, .bool false, .bool false, .bool false, .int .i64 0, .int .i64 1, .int .i64 1]) from rfl]
  case' inr.inr.inr.inr.inl => rw [show rV (ruleT 4) = .agg (List.toArray [.bool false, .bool false, .bool false, .bool false, .bool false, .int .i64 0, .int .i64 1, .int .i64 1]) from rfl]
  case' inr.inr.inr.inr.inr.inl => rw [show rV (ruleT 5) = .agg (List.toArray [.bool false, .bool false, .bool false, .bool true, .bool false, .int .i64 0, .int .i64 2, .int .i64 2]) from rfl]
  case' inr.inr.inr.inr.inr.inr.inl => rw [show rV (ruleT 6) = .agg (List.toArray [.bool false, .bool true, .bool true, .bool false, .bool true, .int .i64 0, .int .i64 0, .int .i64 4]) from rfl]
  case' inr.inr.inr.inr.inr.inr.inr => rw [show rV (ruleT 7) = .agg (List.toArray [.bool false, .bool true, .bool false, .bool false, .bool false, .int .i64 0, .int .i64 0, .int .i64 4]) from rfl]
  all_goals
    refine fn_of_run en95 fn95 rfl rfl rfl ?_
  all_goals
    repeat (first | refine zck ?_ | refine zcl ?_ | refine zcm ?_ | refine zcn ?_)
    first | refine zcp (by kernel_rfl) ?_ | refine zcq PP_mixed (by kernel_rfl) (by kernel_rfl) ?_
    repeat' (refine zap rfl ?_; first | refine zan rfl ?_ | refine zaq (cs := [_, _, _, _, _, _]) rfl (fun nb => ?_) | refine zaq (cs := [_, _, _, _, _, _, _, _]) rfl (fun nb => ?_))
    all_goals refine zch ?_
    all_goals repeat (first | refine zck ?_ | refine zcl ?_ | refine zcm ?_ | refine zcn ?_)
  all_goals refine run_share [0] rfl ?_
  all_goals refine run_share [0] rfl ?_
  all_goals
    repeat' (first | refine zck ?_ | refine zcp (by kernel_rfl) ?_ | refine zcq PP_mixed (by kernel_rfl) (by kernel_rfl) ?_ | refine zcm ?_ | refine zcn ?_ | (refine zap rfl ?_; first | refine reg_neS0 rfl rfl ?_ | refine zaj rfl ?_ | refine zak rfl ?_ | refine zal rfl ?_ | refine zam rfl rfl (fun _ => ?_) (fun _ => ?_) | refine zan rfl ?_ | refine zan rfl ?_ | refine zaa 0 rfl rfl rfl ?_ | refine zaa 1 rfl rfl rfl ?_ | refine zce rfl ?_ | (refine zai [] (binaries_spec w0) rfl rfl rfl sub_nil ?_; rintro v Γ rfl) | (refine zai [0] (Fn.lendR en63 (fun sh' bl h1 h2 h3 => (contains_v w0 sh' _ sgL _ (h3.mono h2) (by decide)).dec)) rfl rfl rfl sub_nil ?_; rintro v Γ ⟨_, ⟨rfl, rfl⟩, rfl⟩) | refine zao rfl ?_ | refine zbg rfl rfl (by omega) ?_ | refine zbh rfl rfl (by omega) ?_ | refine zbo rfl rfl ?_ | refine zbp rfl rfl ?_ | refine zbq rfl rfl ?_ | refine zbs rfl rfl ?_ | refine zby rfl ?_ | refine zbx rfl ?_ | refine zbu rfl ?_ | refine zbv rfl ?_) | refine zch ?_ | refine zci rfl ?_ | refine zcj rfl ?_ | refine run_cond rfl (fun _ => ?_) (fun _ => ?_))
  all_goals refine run_take [] rfl ?_
  all_goals refine ret_tmp1 rfl ⟨bool_eq ?_, rfl⟩
  all_goals rw [formE_N]
  all_goals generalize name.size = a at *
  all_goals generalize inS sgL meth = b at *
  all_goals generalize meth.size = m at *
  all_goals generalize args.length = p at *
  all_goals generalize or.length = q at *
  all_goals cases b
  all_goals first | (simp_all [formN, ruleT]; done) | (simp_all [formN, ruleT]; omega) | (rw [Bool.eq_iff_iff]; simp_all [formN, ruleT]; omega)
end Go.Proofs.YtijbnjaackhlcaaGreatDoor

namespace Sim
theorem PE.sizeL_len : ∀ l : List PE, l.length ≤ PE.sizeL l
  | [] => Nat.zero_le _
  | x :: l => by have := PE.sizeL_len l; have := x.size_pos; unfold PE.sizeL; simp only [List.length_cons]; omega
theorem wrongEs_drop {l : List PE} {j : Nat} {x : PE} {d : Int} (h : l[j]? = some x) : wrongEs (l.drop j) d = if wrongE x d ≠ 0 then wrongE x d else wrongEs (l.drop (j + 1)) d := by
  have hj := (List.getElem?_eq_some_iff.1 h).1
  rw [List.drop_eq_getElem_cons hj, (List.getElem?_eq_some_iff.1 h).2, wrongEs]
end Sim
namespace Go.Proofs.YtijbnjaackhlcaaGreatDoor
open Go.Vc Sim
set_option maxHeartbeats 8000000 in
theorem wrongE_spec (w0 : World) (hk : KwOk w0) : ∀ (n : Nat) (sh : Shared) (e : PE) (va vo : Value) (d : Int), e.size ≤ n → n ≤ 1000000 → RdEl w0 sh va e.args → RdEl w0 sh vo e.or → 0 ≤ d →
    FnE PP w0 sh 84 [.agg (List.toArray (peC e.kind e.num e.name e.meth va vo)), .int .i64 d] [] (.int .i64 (wrongE e d)) [] := by
  intro n
  induction n with
  | zero => intro sh e va vo d h; have := e.size_pos; omega
  | succ n ih =>
  intro sh e va vo d hs hn ha ho hd0
  obtain ⟨r, hr⟩ : ∃ r, ruleT e.kind = r := ⟨_, rfl⟩
  have hE : ∀ c, wrongE0 e d = c → c ≠ 0 → wrongE e d = c := fun c h1 h2 => by rw [wrongE_eq, h1, if_pos h2]
  obtain ⟨a1, c1, hva, _⟩ := id ha.len
  obtain ⟨a2, c2, hvo, _⟩ := id ho.len
  subst hva
  subst hvo
  refine fn_of_run en84 fn84 rfl rfl rfl ?_
  repeat (first | refine zck ?_ | refine zcl ?_ | refine zcm ?_ | refine zcn ?_)
  first | refine zcp (by kernel_rfl) ?_ | refine zcq PP_mixed (by kernel_rfl) (by kernel_rfl) ?_
  repeat' (refine zap rfl ?_; first | refine zan rfl ?_ | refine zaq (cs := [_, _, _, _, _, _]) rfl (fun nb => ?_))
  all_goals refine zch ?_
  all_goals repeat (first | refine zck ?_ | refine zcl ?_ | refine zcm ?_ | refine zcn ?_)
  refine run_share [0] rfl ?_
  obtain ⟨be, hbe⟩ : ∃ b, b = nb := ⟨_, rfl⟩
  subst hbe
  by_cases hd : 12 < d
  · have h1 := hE 18 (by unfold wrongE0; rw [if_pos hd]) (by decide)
    rw [h1]
    repeat' (first | refine zck ?_ | refine zcp (by kernel_rfl) ?_ | (refine zap rfl ?_; first | refine zan rfl ?_ | refine zan rfl ?_ | refine zbk rfl rfl (by omega) ?_) | refine zch ?_ | refine zci rfl ?_)
    refine run_take [] rfl ?_
    exact ret_tmp1 rfl ⟨rfl, rfl⟩
  by_cases hk0 : e.kind < 0
  · have h1 := hE 2 (by unfold wrongE0; rw [if_neg hd, if_pos (.inl hk0)]) (by decide)
    rw [h1]
    repeat' (first | refine zck ?_ | refine zcp (by kernel_rfl) ?_ | (refine zap rfl ?_; first | refine zak rfl ?_ | refine zan rfl ?_ | refine zan rfl ?_ | refine zaa 0 rfl rfl rfl ?_ | refine zao rfl ?_ | refine zbg rfl rfl (by omega) ?_ | refine zbl rfl rfl (by omega) ?_ | refine zbu rfl ?_) | refine zch ?_ | refine zci rfl ?_ | refine zcj rfl ?_)
    refine run_take [] rfl ?_
    exact ret_tmp1 rfl ⟨rfl, rfl⟩
  by_cases hk7 : 7 < e.kind
  · have h1 := hE 2 (by unfold wrongE0; rw [if_neg hd, if_pos (.inr hk7)]) (by decide)
    rw [h1]
    repeat' (first | refine zck ?_ | refine zcp (by kernel_rfl) ?_ | (refine zap rfl ?_; first | refine zaj rfl ?_ | refine zan rfl ?_ | refine zan rfl ?_ | refine zaa 0 rfl rfl rfl ?_ | refine zao rfl ?_ | refine zbh rfl rfl (by omega) ?_ | refine zbk rfl rfl (by omega) ?_ | refine zbl rfl rfl (by omega) ?_ | refine zbv rfl ?_) | refine zch ?_ | refine zci rfl ?_ | refine zcj rfl ?_)
    refine run_take [] rfl ?_
    exact ret_tmp1 rfl ⟨rfl, rfl⟩
  have hk8 : 0 ≤ e.kind ∧ e.kind ≤ 7 := by omega
  have hrd := rulesL_rd hk8
  have hform := form_spec w0 sh e _ _ ha ho hk8
  have hw : wrongE0 e d = if formE r e = false then 5 else if (r.name && !nameB e.name) || (r.meth && !nameB e.meth) then 16 else if r.num && (decide (e.num < 0) || decide (r.top < e.num)) then 3 else 0 := by
    unfold wrongE0; rw [if_neg hd, if_neg (by omega), hr]
  rw [hr] at hrd hform
  obtain ⟨B, hB⟩ : ∃ B, formE r e = B := ⟨_, rfl⟩
  rw [hB] at hform hw
  cases B with
  | false =>
    rw [if_pos rfl] at hw
    rw [hE 5 hw (by decide)]
    repeat' (first | refine zck ?_ | refine zcp (by kernel_rfl) ?_ | refine zcq PP_mixed (by kernel_rfl) (by kernel_rfl) ?_ | refine zcm ?_ | refine zcl ?_ | refine zcn ?_ | (refine zap rfl ?_; first | refine reg_indexA rfl rfl (by omega) hrd ?_ | refine zaj rfl ?_ | refine zan rfl ?_ | refine zan rfl ?_ | refine zaa 0 rfl rfl rfl ?_ | refine zab 0 rfl rfl rfl ?_ | refine zah [] (rules_spec w0) rfl rfl rfl sub_nil rfl ?_ | refine zah [] hform rfl rfl rfl sub_nil rfl ?_ | refine zao rfl ?_ | refine zbh rfl rfl (by omega) ?_ | refine zbl rfl rfl (by omega) ?_ | refine zbx rfl ?_ | refine zbv rfl ?_ | refine zae 0 rfl rfl rfl rfl rfl rfl rfl ?_ | refine zar (fun nb => ?_)) | refine zch ?_ | refine zci rfl ?_ | refine zcj rfl ?_)
    refine run_take [] rfl ?_
    exact ret_tmp1 rfl ⟨rfl, rfl⟩
  | true =>
  rw [if_neg (by decide)] at hw
  repeat (first | refine zck ?_ | refine zcl ?_ | refine zcm ?_ | refine zcn ?_)
  first | refine zcp (by kernel_rfl) ?_ | refine zcq PP_mixed (by kernel_rfl) (by kernel_rfl) ?_
  repeat' (refine zap rfl ?_; first | refine zan rfl ?_ | refine zan rfl ?_ | refine zbl rfl rfl (by omega) ?_)
  all_goals refine zch ?_
  all_goals repeat (refine zck ?_)
  refine zcj rfl ?_
  repeat (first | refine zck ?_ | refine zcl ?_ | refine zcm ?_ | refine zcn ?_)
  first | refine zcp (by kernel_rfl) ?_ | refine zcq PP_mixed (by kernel_rfl) (by kernel_rfl) ?_
  repeat' (refine zap rfl ?_; first | refine zaj rfl ?_ | refine zan rfl ?_ | refine zan rfl ?_ | refine zaa 0 rfl rfl rfl ?_ | refine zao rfl ?_ | refine zbh rfl rfl (by omega) ?_ | refine zbl rfl rfl (by omega) ?_ | refine zbv rfl ?_)
  all_goals refine zch ?_
  all_goals repeat (refine zck ?_)
  refine zcj rfl ?_
  repeat (first | refine zck ?_ | refine zcl ?_ | refine zcm ?_ | refine zcn ?_)
  first | refine zcp (by kernel_rfl) ?_ | refine zcq PP_mixed (by kernel_rfl) (by kernel_rfl) ?_
  repeat' (refine zap rfl ?_; first | refine reg_indexA rfl rfl (by omega) hrd ?_ | refine zaa 0 rfl rfl rfl ?_ | refine zah [] (rules_spec w0) rfl rfl rfl sub_nil rfl ?_ | refine zao rfl ?_ | refine zae 0 rfl rfl rfl rfl rfl rfl rfl ?_ | refine zar (fun nb => ?_))
  all_goals refine zch ?_
  all_goals repeat (refine zck ?_)
  refine run_bind_eq2 (σ := { _u : Unit // wrongE0 e d = 0 }) (l' := fun _ => [(1, .int .i64 d), (2, .pointer (some ⟨be, 0, none⟩))]) (Γ' := fun _ => []) ?_ ?_
  · repeat' (first | refine zck ?_ | refine zcp (by kernel_rfl) ?_ | refine zcm ?_ | refine zcl ?_ | refine zcn ?_ | (refine zap rfl ?_; first | refine zaj rfl ?_ | refine zak rfl ?_ | refine zal rfl ?_ | refine zam rfl rfl (fun _ => ?_) (fun _ => ?_) | refine zan rfl ?_ | refine zan rfl ?_ | refine zaa 0 rfl rfl rfl ?_ | refine zab 0 rfl rfl rfl ?_ | refine zah [] hform rfl rfl rfl sub_nil rfl ?_ | refine zah [] (isName_spec w0 hk _).dec rfl rfl rfl sub_nil rfl ?_ | refine zao rfl ?_ | refine zbq rfl rfl ?_ | refine zbs rfl rfl ?_ | refine zby rfl ?_ | refine zbx rfl ?_ | refine zbu rfl ?_ | refine zbv rfl ?_) | refine zch ?_ | refine zci rfl ?_ | refine zcj rfl ?_ | refine run_cond rfl (fun _ => ?_) (fun _ => ?_))
    all_goals refine run_take [] rfl ?_
    all_goals first | exact qret1 (fun _ _ h => h) rfl ⟨int_eq (hE _ (by rw [hw]; clear hE ih hform hrd ha ho hw; simp_all) (by decide)).symm, rfl⟩ | exact cut_end ⟨rfl, ⟨(), by rw [hw]; clear hE ih hform hrd ha ho hw; simp_all⟩, ⟨rfl, rfl, trivial⟩, rfl⟩
  · rintro ⟨_, hw0⟩ junk
    repeat' (first | refine zck ?_ | refine zcp (by kernel_rfl) ?_ | refine zcl ?_ | (refine zap rfl ?_; first | refine reg_buildSlice rfl rfl rfl rfl rfl rfl (fun nb2 => ?_) | refine zan rfl ?_ | refine zaa 0 rfl rfl rfl ?_ | refine zce rfl ?_ | refine zao rfl ?_) | refine zch ?_)
    refine run_share [0] rfl ?_
    have hget : ∀ i, i < 2 → ∃ (a : Option Addr) (c : Nat) (L : List PE), (∀ o, o = 0 + i * 1 → rd false 1 [Value.slice a1 e.args.length c1, Value.slice a2 e.or.length c2] o = some (.slice a L.length c)) ∧ RdEl w0 sh (.slice a L.length c) L ∧ (∀ x ∈ L, x.size ≤ n) ∧ L.length ≤ 1000000 ∧
        (i = 0 → L = e.args) ∧ (i = 1 → L = e.or) := by
      intro i hi
      have h1 := e.size_eq
      have h2 := fun (x : PE) (h : x ∈ e.args) => PE.size_args h
      have h3 := fun (x : PE) (h : x ∈ e.or) => PE.size_or h
      have h4 := PE.sizeL_len e.args
      have h5 := PE.sizeL_len e.or
      rcases (by omega : i = 0 ∨ i = 1) with rfl | rfl
      · exact ⟨a1, c1, e.args, fun o ho => by subst ho; rfl, ha, fun x hx => by have := h2 x hx; omega, by omega, fun _ => rfl, fun h => by omega⟩
      · exact ⟨a2, c2, e.or, fun o ho => by subst ho; rfl, ho, fun x hx => by have := h3 x hx; omega, by omega, fun h => by omega, fun _ => rfl⟩
    have hwe := wrongE_eq e d
    rw [hw0, if_neg (by decide)] at hwe
    refine run_loop (S := Nat) (fun i => [(1, .int .i64 d), (68, .slice (some ⟨nb2, 0, none⟩) 2 2), (69, .int .i64 2), (70, .int .i64 i)])
      (fun i Γ => Γ = [] ∧ i ≤ 2 ∧ (1 ≤ i → wrongEs e.args (d + 1) = 0) ∧ (2 ≤ i → wrongEs e.or (d + 1) = 0)) (fun i => 2 - i) 0 ⟨rfl, rfl, rfl, rfl, trivial⟩ ⟨rfl, by omega, fun h => by omega, fun h => by omega⟩ ?_
    rintro i Γ junk ⟨rfl, g1, g2, g3⟩
    by_cases hi : i < 2
    · obtain ⟨a, c, L, l1, l2, l3, l4, l5, l6⟩ := hget i hi
      have hwL : wrongEs L (d + 1) ≠ 0 → wrongE e d = wrongEs L (d + 1) := fun h => by
        rcases (by omega : i = 0 ∨ i = 1) with h0 | h0
        · rw [hwe, ← l5 h0, if_pos h]
        · rw [hwe, g2 (by omega), if_neg (by decide), ← l6 h0]
      repeat' (first | refine zck ?_ | refine zcp (by kernel_rfl) ?_ | refine zcm ?_ | refine zcl ?_ | (refine zap rfl ?_; first | refine zaa 0 rfl rfl (l1 _ (by omega)) ?_ | refine zan rfl ?_ | refine zan rfl ?_ | refine zce rfl ?_ | refine zbg rfl rfl (by omega) ?_ | refine zas rfl rfl (by omega) ?_) | refine zch ?_ | refine zci rfl ?_)
      refine run_loop (S := Nat) (fun j => [(1, .int .i64 d), (68, .slice (some ⟨nb2, 0, none⟩) 2 2), (69, .int .i64 2), (70, .int .i64 i), (74, .slice a L.length c), (75, .int .i64 L.length), (76, .int .i64 j)])
        (fun j Γ => Γ = [] ∧ j ≤ L.length ∧ wrongEs (L.drop j) (d + 1) = wrongEs L (d + 1)) (fun j => L.length - j) 0 ⟨rfl, rfl, rfl, rfl, rfl, rfl, rfl, trivial⟩ ⟨rfl, by omega, rfl⟩ ?_
      rintro j Γ junk ⟨rfl, q1, q2⟩
      by_cases hj : j < L.length
      · obtain ⟨x, hx⟩ : ∃ x, L[j]? = some x := ⟨_, List.getElem?_eq_getElem hj⟩
        obtain ⟨b, off, cc, T, fr, cs, rfl, e2, e3, e4, _⟩ := l2.at hx
        obtain ⟨va, vo, rfl, r1, r2⟩ := e4.cs
        have hxn := l3 x (List.mem_iff_getElem?.2 ⟨_, hx⟩)
        obtain ⟨a3, c3, hv3, _⟩ := id r1.len
        obtain ⟨a4, c4, hv4, _⟩ := id r2.len
        subst hv3
        subst hv4
        have hcall := ih _ x _ _ (d + 1) hxn (by omega) r1 r2 (by omega)
        rw [wrongEs_drop hx] at q2
        by_cases h0 : wrongE x (d + 1) = 0
        · rw [if_neg (by omega)] at q2
          rw [h0] at hcall
          repeat' (first | refine zck ?_ | refine zcp (by kernel_rfl) ?_ | refine zcm ?_ | refine zcl ?_ | refine zcn ?_ | (refine zap rfl ?_; first | refine zad rfl (fun hF Γ w h1 h2 => e2 hF Γ w (fun p hp => h1 p (by simp [hp])) h2) (e3 _ (by omega)) ?_ | refine zan rfl ?_ | refine zan rfl ?_ | refine zab 0 rfl rfl rfl ?_ | refine zce rfl ?_ | refine zah [] hcall rfl rfl rfl (fun p hp => by simp [hp]) rfl ?_ | refine zce rfl ?_ | refine zbf rfl rfl (by omega) ?_ | refine zbg rfl rfl (by omega) ?_ | refine zau rfl rfl (by omega) ?_ | refine zae 0 rfl rfl rfl rfl rfl rfl rfl ?_ | refine zas rfl rfl (by omega) ?_ | refine zar (fun nb => ?_)) | refine zch ?_ | refine zci rfl ?_ | refine zcj rfl ?_)
          refine run_take [] rfl ?_
          exact cut_end ⟨rfl, j + 1, ⟨rfl, rfl, rfl, rfl, rfl, rfl, int_eq (by omega), trivial⟩, ⟨rfl, by omega, q2⟩, by omega⟩
        · rw [if_pos h0] at q2
          have hq : wrongE e d = wrongE x (d + 1) := by rw [q2]; exact hwL (by rw [← q2]; exact h0)
          repeat' (first | refine zck ?_ | refine zcp (by kernel_rfl) ?_ | refine zcm ?_ | refine zcl ?_ | (refine zap rfl ?_; first | refine zad rfl (fun hF Γ w h1 h2 => e2 hF Γ w (fun p hp => h1 p (by simp [hp])) h2) (e3 _ (by omega)) ?_ | refine zan rfl ?_ | refine zan rfl ?_ | refine zab 0 rfl rfl rfl ?_ | refine zce rfl ?_ | refine zah [] hcall rfl rfl rfl (fun p hp => by simp [hp]) rfl ?_ | refine zce rfl ?_ | refine zbe rfl rfl (by omega) ?_ | refine zbg rfl rfl (by omega) ?_ | refine zau rfl rfl (by omega) ?_ | refine zae 0 rfl rfl rfl rfl rfl rfl rfl ?_ | refine zas rfl rfl (by omega) ?_ | refine zar (fun nb => ?_)) | refine zch ?_ | refine zci rfl ?_)
          refine run_take [] rfl ?_
          exact qret1 (fun _ _ h => h) rfl ⟨int_eq hq.symm, rfl⟩
      · have hLw : wrongEs L (d + 1) = 0 := by rw [← q2, List.drop_of_length_le (by omega)]; rfl
        repeat' (first | refine zck ?_ | refine zcp (by kernel_rfl) ?_ | (refine zap rfl ?_; first | refine zbh rfl rfl (by omega) ?_) | refine zch ?_ | refine zcj rfl ?_)
        refine cut_exit rfl rfl ?_
        repeat' (first | refine zcp (by kernel_rfl) ?_ | refine zcn ?_ | (refine zap rfl ?_; first | refine zan rfl ?_ | refine zau rfl rfl (by omega) ?_) | refine zch ?_)
        exact cut_end ⟨rfl, i + 1, ⟨rfl, rfl, rfl, int_eq (by omega), trivial⟩, ⟨rfl, by omega, fun h => by
          by_cases h0 : i = 0
          · rw [← l5 h0]; exact hLw
          · exact g2 (by omega), fun h => by rw [← l6 (by omega)]; exact hLw⟩, by omega⟩
    · repeat' (first | refine zck ?_ | refine zcp (by kernel_rfl) ?_ | (refine zap rfl ?_; first | refine zbh rfl rfl (by omega) ?_) | refine zch ?_ | refine zcj rfl ?_)
      refine cut_exit rfl rfl ?_
      repeat' (first | refine zck ?_ | refine zcp (by kernel_rfl) ?_ | (refine zap rfl ?_; first | refine zan rfl ?_) | refine zch ?_)
      refine ret_tmp1 rfl ⟨int_eq ?_, rfl⟩
      rw [hwe, g2 (by omega), if_neg (by decide), g3 (by omega)]
end Go.Proofs.YtijbnjaackhlcaaGreatDoor

namespace Sim
theorem PS.sizeL_len : ∀ l : List PS, l.length ≤ PS.sizeL l
  | [] => Nat.zero_le _
  | x :: l => by have := PS.sizeL_len l; have := x.size_pos; unfold PS.sizeL; simp only [List.length_cons]; omega
theorem wrongSs_drop {l : List PS} {j : Nat} {x : PS} {d : Int} (h : l[j]? = some x) : wrongSs (l.drop j) d = if wrongS x d ≠ 0 then wrongS x d else wrongSs (l.drop (j + 1)) d := by
  have hj := (List.getElem?_eq_some_iff.1 h).1
  rw [List.drop_eq_getElem_cons hj, (List.getElem?_eq_some_iff.1 h).2, wrongSs]
def formSN (k : Int) (a : Nat) (num : Int) (emp : Bool) (els body : Nat) (ek : Int) : Bool :=
  if (!hasNm k && !decide (a = 0)) || (!hasNu k && decide (num ≠ 0)) || (!hasEx k && !emp) then false
  else if (decide (k ≠ 3) && decide (0 < els)) || (decide (k ≠ 3) && decide (k ≠ 4) && decide (0 < body)) then false
  else decide (k ≠ 2) || decide (ek = 6) || decide (ek = 7)
theorem formS_N (k num : Int) (name : ByteArray) (e : PE) (body els : List PS) : formS (.mk k name num e body els) = formSN k name.size num (emptyE e) els.length body.length e.kind := rfl
end Sim
namespace Go.Vc
open Sim
abbrev psC (s : PS) (va vo vb ve : Value) : List Value := [.int .i64 s.kind, .string s.name, .int .i64 s.num, .int .i64 s.expr.kind, .int .i64 s.expr.num, .string s.expr.name, .string s.expr.meth, va, vo, vb, ve]
theorem kind7 {k : Int} (h : 0 ≤ k ∧ k ≤ 6) : k = 0 ∨ k = 1 ∨ k = 2 ∨ k = 3 ∨ k = 4 ∨ k = 5 ∨ k = 6 := by omega
structure RdSp (w0 : World) (sh : Shared) (s : PS) (va vo vb ve : Value) : Prop where
  a : RdEl w0 sh va s.expr.args
  o : RdEl w0 sh vo s.expr.or
  b : RdSt w0 sh vb s.body
  e : RdSt w0 sh ve s.els
theorem RdS.sp {w0 : World} {sh : Shared} {s : PS} {cs : List Value} (h : RdS w0 sh s cs) : ∃ va vo vb ve, cs = psC s va vo vb ve ∧ RdSp w0 sh s va vo vb ve := by
  obtain ⟨va, vo, vb, ve, h1, h2, h3, h4⟩ := h.cs
  obtain ⟨va', vo', e, h5, h6⟩ := h2.cs
  simp only [peC, List.cons.injEq, and_true, true_and] at e
  obtain ⟨rfl, rfl⟩ := e
  exact ⟨va, vo, vb, ve, h1, ⟨h5, h6, h3, h4⟩⟩
end Go.Vc
namespace Go.Proofs.YtijbnjaackhlcaaGreatDoor
open Go.Vc Sim
set_option maxHeartbeats 4000000 in
theorem formS_spec (w0 : World) (sh : Shared) (s : PS) (va vo vb ve : Value) (hr : RdSp w0 sh s va vo vb ve) (hk : 0 ≤ s.kind ∧ s.kind ≤ 6) :
    FnE PP w0 [] 81 [.agg (List.toArray (psC s va vo vb ve))] [] (.bool (formS s)) [] := by
  obtain ⟨ha, ho, hb, he⟩ := hr
  have hemp := (empty_spec w0 sh s.expr va vo ha ho).dec
  obtain ⟨a1, c1, hva, _⟩ := ha.len
  obtain ⟨a2, c2, hvo, _⟩ := ho.len
  obtain ⟨a3, c3, hvb, _⟩ := hb.len
  obtain ⟨a4, c4, hve, _⟩ := he.len
  subst hva; subst hvo; subst hvb; subst hve
  clear ha ho hb he
  obtain ⟨kind, name, num, expr, body, els⟩ := s
  dsimp only [psC, PS.kind, PS.num, PS.name, PS.expr, PS.body, PS.els] at *
  rcases kind7 hk with rfl | rfl | rfl | rfl | rfl | rfl | rfl
  all_goals clear hk
  all_goals
    refine fn_of_run en81 fn81 rfl rfl rfl ?_
  all_goals
    repeat' (first | refine zck ?_ | refine zcp (by kernel_rfl) ?_ | refine zcm ?_ | refine zcl ?_ | refine zcn ?_ | (refine zap rfl ?_; first | refine reg_neS0 rfl rfl ?_ | refine zaj rfl ?_ | refine zak rfl ?_ | refine zam rfl rfl (fun _ => ?_) (fun _ => ?_) | refine zan rfl ?_ | refine zan rfl ?_ | refine zab 0 rfl rfl rfl ?_ | refine zce rfl ?_ | refine zah [] (hasName_spec w0 _) rfl rfl rfl sub_nil rfl ?_ | refine zah [] (hasNum_spec w0 _) rfl rfl rfl sub_nil rfl ?_ | refine zah [] (hasExpr_spec w0 _) rfl rfl rfl sub_nil rfl ?_ | refine zah [] hemp rfl rfl rfl sub_nil rfl ?_ | refine zao rfl ?_ | refine zbe rfl rfl (by omega) ?_ | refine zbf rfl rfl (by omega) ?_ | refine zbk rfl rfl (by omega) ?_ | refine zbo rfl rfl ?_ | refine zbp rfl rfl ?_ | refine zbs rfl rfl ?_ | refine zby rfl ?_ | refine zbx rfl ?_ | refine zbu rfl ?_ | refine zbv rfl ?_ | refine zaq (cs := [_, _, _, _, _, _, _, _, _, _, _]) rfl (fun nb => ?_)) | refine zch ?_ | refine zci rfl ?_ | refine zcj rfl ?_ | refine run_cond rfl (fun _ => ?_) (fun _ => ?_))
  all_goals refine run_take [] rfl ?_
  all_goals refine ret_tmp1 rfl ⟨bool_eq ?_, rfl⟩
  all_goals clear hemp
  all_goals rw [formS_N]
  all_goals generalize name.size = a at *
  all_goals generalize emptyE expr = b at *
  all_goals generalize body.length = p at *
  all_goals generalize els.length = q at *
  all_goals generalize expr.kind = ek at *
  all_goals cases b
  all_goals first | (simp_all [formSN, hasNm, hasNu, hasEx]; done) | (simp_all [formSN, hasNm, hasNu, hasEx]; omega) | (rw [Bool.eq_iff_iff]; simp_all [formSN, hasNm, hasNu, hasEx]; omega)
def SSpec (w0 : World) (n : Nat) : Prop := ∀ (sh : Shared) (s : PS) (va vo vb ve : Value) (d : Int), s.size ≤ n → RdSp w0 sh s va vo vb ve → 0 ≤ d → d ≤ 1000 →
  FnE PP w0 sh 66 [.agg (List.toArray (psC s va vo vb ve)), .int .i64 d] [] (.int .i64 (wrongS s d)) []
def LSpec (w0 : World) (n : Nat) : Prop := ∀ (sh : Shared) (v : Value) (l : List PS) (d : Int), PS.sizeL l ≤ n → RdSt w0 sh v l → 0 ≤ d → d ≤ 1000 →
  FnE PP w0 sh 48 [v, .int .i64 d] [] (.int .i64 (wrongSs l d)) []
theorem wrongs_of (w0 : World) (n : Nat) (hn : n ≤ 1000000) (hS : SSpec w0 n) : LSpec w0 n := by
  intro sh v l d hl hr hd0 hd1
  obtain ⟨a, c, hv, _⟩ := hr.len
  subst hv
  have hlen := PS.sizeL_len l
  refine fn_of_run en48 fn48 rfl rfl rfl ?_
  repeat' (first | refine zck ?_ | refine zcp (by kernel_rfl) ?_ | refine zcl ?_ | (refine zap rfl ?_; first | refine zan rfl ?_ | refine zan rfl ?_ | refine zce rfl ?_) | refine zch ?_)
  refine run_loop (S := Nat) (fun j => [(1, .int .i64 d), (8, .slice a l.length c), (9, .int .i64 l.length), (10, .int .i64 j)])
    (fun j Γ => Γ = [] ∧ j ≤ l.length ∧ wrongSs (l.drop j) d = wrongSs l d) (fun j => l.length - j) 0 ⟨rfl, rfl, rfl, rfl, trivial⟩ ⟨rfl, by omega, rfl⟩ ?_
  rintro j Γ junk ⟨rfl, q1, q2⟩
  by_cases hj : j < l.length
  · obtain ⟨x, hx⟩ : ∃ x, l[j]? = some x := ⟨_, List.getElem?_eq_getElem hj⟩
    obtain ⟨b, off, cc, T, fr, cs, rfl, e2, e3, e4, _⟩ := hr.at hx
    obtain ⟨va, vo, vb, ve, rfl, hsp⟩ := e4.sp
    have hxn := PS.sizeL_mem (List.mem_iff_getElem?.2 ⟨_, hx⟩)
    obtain ⟨a1, c1, hva, _⟩ := hsp.a.len
    obtain ⟨a2, c2, hvo, _⟩ := hsp.o.len
    obtain ⟨a3, c3, hvb, _⟩ := hsp.b.len
    obtain ⟨a4, c4, hve, _⟩ := hsp.e.len
    subst hva; subst hvo; subst hvb; subst hve
    have hcall := hS sh x _ _ _ _ d (by omega) hsp hd0 hd1
    rw [wrongSs_drop hx] at q2
    by_cases h0 : wrongS x d = 0
    · rw [if_neg (by omega)] at q2
      rw [h0] at hcall
      repeat' (first | refine zck ?_ | refine zcp (by kernel_rfl) ?_ | refine zcm ?_ | refine zcl ?_ | refine zcn ?_ | (refine zap rfl ?_; first | refine zad rfl e2 (e3 _ (by omega)) ?_ | refine zan rfl ?_ | refine zan rfl ?_ | refine zab 0 rfl rfl rfl ?_ | refine zah [] hcall rfl rfl rfl (fun _ h => h) rfl ?_ | refine zbf rfl rfl (by omega) ?_ | refine zbg rfl rfl (by omega) ?_ | refine zau rfl rfl (by omega) ?_ | refine zae 0 rfl rfl rfl rfl rfl rfl rfl ?_ | refine zas rfl rfl (by omega) ?_ | refine zar (fun nb => ?_)) | refine zch ?_ | refine zci rfl ?_ | refine zcj rfl ?_)
      refine run_take [] rfl ?_
      exact cut_end ⟨rfl, j + 1, ⟨rfl, rfl, rfl, int_eq (by omega), trivial⟩, ⟨rfl, by omega, q2⟩, by omega⟩
    · rw [if_pos h0] at q2
      repeat' (first | refine zck ?_ | refine zcp (by kernel_rfl) ?_ | refine zcm ?_ | refine zcl ?_ | (refine zap rfl ?_; first | refine zad rfl e2 (e3 _ (by omega)) ?_ | refine zan rfl ?_ | refine zan rfl ?_ | refine zab 0 rfl rfl rfl ?_ | refine zah [] hcall rfl rfl rfl (fun _ h => h) rfl ?_ | refine zbe rfl rfl (by omega) ?_ | refine zbg rfl rfl (by omega) ?_ | refine zae 0 rfl rfl rfl rfl rfl rfl rfl ?_ | refine zas rfl rfl (by omega) ?_ | refine zar (fun nb => ?_)) | refine zch ?_ | refine zci rfl ?_)
      refine run_take [] rfl ?_
      exact qret1 (fun _ _ h => h) rfl ⟨int_eq q2, rfl⟩
  · repeat' (first | refine zck ?_ | refine zcp (by kernel_rfl) ?_ | (refine zap rfl ?_; first | refine zbh rfl rfl (by omega) ?_) | refine zch ?_ | refine zcj rfl ?_)
    refine cut_exit rfl rfl ?_
    repeat' (first | refine zck ?_ | refine zcp (by kernel_rfl) ?_ | (refine zap rfl ?_; first | refine zan rfl ?_) | refine zch ?_)
    rw [List.drop_of_length_le (by omega)] at q2
    exact ret_tmp1 rfl ⟨int_eq q2, rfl⟩
end Go.Proofs.YtijbnjaackhlcaaGreatDoor

namespace Go.Proofs.YtijbnjaackhlcaaGreatDoor
open Go.Vc Sim
set_option maxHeartbeats 8000000 in
theorem wrongS_step (w0 : World) (hk : KwOk w0) (n : Nat) (hn : n + 1 ≤ 1000000) (hL : LSpec w0 n) : SSpec w0 (n + 1) := by
  intro sh s va vo vb ve d hs hsp hd0 hd1
  have hE : ∀ c, wrongS0 s d = c → c ≠ 0 → wrongS s d = c := fun c h1 h2 => by rw [wrongS_eq, h1, if_pos h2]
  obtain ⟨a1, c1, hva, _⟩ := hsp.a.len
  obtain ⟨a2, c2, hvo, _⟩ := hsp.o.len
  obtain ⟨a3, c3, hvb, _⟩ := hsp.b.len
  obtain ⟨a4, c4, hve, _⟩ := hsp.e.len
  subst hva; subst hvo; subst hvb; subst hve
  refine fn_of_run en66 fn66 rfl rfl rfl ?_
  repeat (first | refine zck ?_ | refine zcl ?_ | refine zcm ?_ | refine zcn ?_)
  first | refine zcp (by kernel_rfl) ?_ | refine zcq PP_mixed (by kernel_rfl) (by kernel_rfl) ?_
  repeat' (refine zap rfl ?_; first | refine zan rfl ?_ | refine zaq (cs := [_, _, _, _, _, _, _, _, _, _, _]) rfl (fun nb => ?_))
  all_goals refine zch ?_
  all_goals repeat (refine zck ?_)
  refine run_share [0] rfl ?_
  obtain ⟨be, hbe⟩ : ∃ b, b = nb := ⟨_, rfl⟩
  subst hbe
  by_cases hd : 12 < d
  · have h1 := hE 18 (by unfold wrongS0; rw [if_pos hd]) (by decide)
    rw [h1]
    repeat' (first | refine zck ?_ | refine zcp (by kernel_rfl) ?_ | refine zcl ?_ | (refine zap rfl ?_; first | refine zan rfl ?_ | refine zan rfl ?_ | refine zbk rfl rfl (by omega) ?_) | refine zch ?_ | refine zci rfl ?_)
    exact ret_tmp1 rfl ⟨rfl, rfl⟩
  by_cases hk0 : s.kind < 0
  · have h1 := hE 2 (by unfold wrongS0; rw [if_neg hd, if_pos (.inl hk0)]) (by decide)
    rw [h1]
    repeat' (first | refine zck ?_ | refine zcp (by kernel_rfl) ?_ | refine zcl ?_ | (refine zap rfl ?_; first | refine zak rfl ?_ | refine zan rfl ?_ | refine zan rfl ?_ | refine zaa 0 rfl rfl rfl ?_ | refine zao rfl ?_ | refine zbg rfl rfl (by omega) ?_ | refine zbl rfl rfl (by omega) ?_ | refine zbu rfl ?_) | refine zch ?_ | refine zci rfl ?_ | refine zcj rfl ?_)
    exact ret_tmp1 rfl ⟨rfl, rfl⟩
  by_cases hk7 : 6 < s.kind
  · have h1 := hE 2 (by unfold wrongS0; rw [if_neg hd, if_pos (.inr hk7)]) (by decide)
    rw [h1]
    repeat' (first | refine zck ?_ | refine zcp (by kernel_rfl) ?_ | refine zcl ?_ | (refine zap rfl ?_; first | refine zaj rfl ?_ | refine zan rfl ?_ | refine zan rfl ?_ | refine zaa 0 rfl rfl rfl ?_ | refine zao rfl ?_ | refine zbh rfl rfl (by omega) ?_ | refine zbk rfl rfl (by omega) ?_ | refine zbl rfl rfl (by omega) ?_ | refine zbv rfl ?_) | refine zch ?_ | refine zci rfl ?_ | refine zcj rfl ?_)
    exact ret_tmp1 rfl ⟨rfl, rfl⟩
  have hk8 : 0 ≤ s.kind ∧ s.kind ≤ 6 := by omega
  have hform := (formS_spec w0 sh s _ _ _ _ hsp hk8).dec
  have hw : wrongS0 s d = if formS s = false then 5 else if hasNm s.kind && !nameB s.name then 16 else if decide (s.num < 0) || (decide (s.kind = 4) && decide (64 < s.num)) then 3 else if hasEx s.kind = true then wrongE s.expr 1 else 0 := by
    unfold wrongS0; rw [if_neg hd, if_neg (by omega)]
  refine run_bind_eq2 (σ := { _u : Unit // wrongS0 s d = if hasEx s.kind = true then wrongE s.expr 1 else 0 }) (l' := fun _ => [(1, .int .i64 d), (2, .pointer (some ⟨be, 0, none⟩))]) (Γ' := fun _ => []) ?_ ?_
  · repeat' (first | refine zck ?_ | refine zcp (by kernel_rfl) ?_ | refine zcm ?_ | refine zcl ?_ | refine zcn ?_ | (refine zap rfl ?_; first | refine zaj rfl ?_ | refine zak rfl ?_ | refine zal rfl ?_ | refine zam rfl rfl (fun _ => ?_) (fun _ => ?_) | refine zan rfl ?_ | refine zan rfl ?_ | refine zaa 0 rfl rfl rfl ?_ | refine zah [] hform rfl rfl rfl sub_nil rfl ?_ | refine zah [] (isName_spec w0 hk _).dec rfl rfl rfl sub_nil rfl ?_ | refine zah [] (hasName_spec w0 _).dec rfl rfl rfl sub_nil rfl ?_ | refine zao rfl ?_ | refine zbh rfl rfl (by omega) ?_ | refine zbl rfl rfl (by omega) ?_ | refine zbo rfl rfl ?_ | refine zbq rfl rfl ?_ | refine zbs rfl rfl ?_ | refine zby rfl ?_ | refine zbu rfl ?_ | refine zbv rfl ?_) | refine zch ?_ | refine zci rfl ?_ | refine zcj rfl ?_ | refine run_cond rfl (fun _ => ?_) (fun _ => ?_))
    all_goals refine run_take [] rfl ?_
    all_goals first | exact qret1 (fun _ _ h => h) rfl ⟨int_eq (hE _ (by rw [hw]; clear hE hform hw hsp hL hs; first | (simp_all; done) | (simp_all; intros; omega)) (by decide)).symm, rfl⟩ | exact cut_end ⟨rfl, ⟨(), by rw [hw]; clear hE hform hw hsp hL hs; first | (simp_all; done) | (simp_all; intros; omega)⟩, ⟨rfl, rfl, trivial⟩, rfl⟩
  · rintro ⟨_, hw0⟩ junk
    repeat (first | refine zck ?_ | refine zcl ?_ | refine zcm ?_ | refine zcn ?_)
    first | refine zcp (by kernel_rfl) ?_ | refine zcq PP_mixed (by kernel_rfl) (by kernel_rfl) ?_
    repeat' (refine zap rfl ?_; first | refine zaa 0 rfl rfl rfl ?_ | refine zah [] (hasExpr_spec w0 _).dec rfl rfl rfl sub_nil rfl ?_ | refine zao rfl ?_)
    all_goals refine zch ?_
    all_goals repeat (refine zck ?_)
    refine run_bind_eq2 (σ := { _u : Unit // wrongS0 s d = 0 }) (l' := fun _ => [(1, .int .i64 d), (2, .pointer (some ⟨be, 0, none⟩))]) (Γ' := fun _ => []) ?_ ?_
    · refine run_cond rfl (fun hX => ?_) (fun hX => ?_)
      · rw [if_pos hX] at hw0
        have hsz : s.expr.size ≤ 1000000 := by have := s.size_expr; omega
        have hcall := wrongE_spec w0 hk 1000000 sh s.expr _ _ 1 hsz (by omega) hsp.a hsp.o (by omega)
        by_cases h0 : wrongE s.expr 1 = 0
        · rw [h0] at hw0 hcall
          repeat' (first | refine zck ?_ | refine zcp (by kernel_rfl) ?_ | refine zcm ?_ | (refine zap rfl ?_; first | refine zan rfl ?_ | refine zan rfl ?_ | refine zaa 0 rfl rfl rfl ?_ | refine zah [] hcall rfl rfl rfl (fun p hp => by simp [hp]) rfl ?_ | refine zce rfl ?_ | refine zao rfl ?_ | refine zbf rfl rfl (by omega) ?_) | refine zch ?_ | refine zcj rfl ?_)
          exact cut_end ⟨rfl, ⟨(), hw0⟩, ⟨rfl, rfl, trivial⟩, rfl⟩
        · repeat' (first | refine zck ?_ | refine zcp (by kernel_rfl) ?_ | (refine zap rfl ?_; first | refine zan rfl ?_ | refine zan rfl ?_ | refine zaa 0 rfl rfl rfl ?_ | refine zah [] hcall rfl rfl rfl (fun p hp => by simp [hp]) rfl ?_ | refine zce rfl ?_ | refine zao rfl ?_ | refine zbe rfl rfl (by omega) ?_) | refine zch ?_ | refine zci rfl ?_)
          exact qret1 (fun _ _ h => h) rfl ⟨int_eq (hE _ hw0 h0).symm, rfl⟩
      · rw [if_neg hX] at hw0
        repeat' (first | refine zcm ?_ | (refine zap rfl ?_; first | refine zaj rfl ?_ | refine zak rfl ?_ | refine zal rfl ?_ | refine zam rfl rfl (fun _ => ?_) (fun _ => ?_)) | refine zch ?_)
        exact cut_end ⟨rfl, ⟨(), hw0⟩, ⟨rfl, rfl, trivial⟩, rfl⟩
    · rintro ⟨_, hw1⟩ junk
      repeat' (first | refine zck ?_ | refine zcp (by kernel_rfl) ?_ | refine zcl ?_ | (refine zap rfl ?_; first | refine reg_buildSlice rfl rfl rfl rfl rfl rfl (fun nb2 => ?_) | refine zan rfl ?_ | refine zaa 0 rfl rfl rfl ?_ | refine zce rfl ?_ | refine zao rfl ?_) | refine zch ?_)
      refine run_share [0] rfl ?_
      have hget : ∀ i, i < 2 → ∃ (a : Option Addr) (c : Nat) (L : List PS), (∀ o, o = 0 + i * 1 → rd false 1 [Value.slice a3 s.body.length c3, Value.slice a4 s.els.length c4] o = some (.slice a L.length c)) ∧ RdSt w0 sh (.slice a L.length c) L ∧ PS.sizeL L ≤ n ∧
          (i = 0 → L = s.body) ∧ (i = 1 → L = s.els) := by
        intro i hi
        have h2 := PS.size_body s
        have h3 := PS.size_els s
        rcases (by omega : i = 0 ∨ i = 1) with rfl | rfl
        · exact ⟨a3, c3, s.body, fun o ho => by subst ho; rfl, hsp.b, by omega, fun _ => rfl, fun h => by omega⟩
        · exact ⟨a4, c4, s.els, fun o ho => by subst ho; rfl, hsp.e, by omega, fun h => by omega, fun _ => rfl⟩
      have hwe := wrongS_eq s d
      rw [hw1, if_neg (by decide)] at hwe
      refine run_loop (S := Nat) (fun i => [(1, .int .i64 d), (62, .slice (some ⟨nb2, 0, none⟩) 2 2), (63, .int .i64 2), (64, .int .i64 i)])
        (fun i Γ => Γ = [] ∧ i ≤ 2 ∧ (1 ≤ i → wrongSs s.body (d + 1) = 0) ∧ (2 ≤ i → wrongSs s.els (d + 1) = 0)) (fun i => 2 - i) 0 ⟨rfl, rfl, rfl, rfl, trivial⟩ ⟨rfl, by omega, fun h => by omega, fun h => by omega⟩ ?_
      rintro i Γ junk ⟨rfl, g1, g2, g3⟩
      by_cases hi : i < 2
      · obtain ⟨a, c, L, l1, l2, l3, l5, l6⟩ := hget i hi
        have hwL : wrongSs L (d + 1) ≠ 0 → wrongS s d = wrongSs L (d + 1) := fun h => by
          rcases (by omega : i = 0 ∨ i = 1) with h0 | h0
          · rw [hwe, ← l5 h0, if_pos h]
          · rw [hwe, g2 (by omega), if_neg (by decide), ← l6 h0]
        have hcall := hL sh _ L (d + 1) l3 l2 (by omega) (by omega)
        by_cases h0 : wrongSs L (d + 1) = 0
        · rw [h0] at hcall
          repeat' (first | refine zck ?_ | refine zcp (by kernel_rfl) ?_ | refine zcm ?_ | refine zcl ?_ | refine zcn ?_ | (refine zap rfl ?_; first | refine zaa 0 rfl rfl (l1 _ (by omega)) ?_ | refine zan rfl ?_ | refine zan rfl ?_ | refine zce rfl ?_ | refine zah [] hcall rfl rfl rfl (fun p hp => by simp [hp]) rfl ?_ | refine zce rfl ?_ | refine zbf rfl rfl (by omega) ?_ | refine zbg rfl rfl (by omega) ?_ | refine zau rfl rfl (by omega) ?_ | refine zas rfl rfl (by omega) ?_) | refine zch ?_ | refine zci rfl ?_ | refine zcj rfl ?_)
          exact cut_end ⟨rfl, i + 1, ⟨rfl, rfl, rfl, int_eq (by omega), trivial⟩, ⟨rfl, by omega, fun h => by
            by_cases hz : i = 0
            · rw [← l5 hz]; exact h0
            · exact g2 (by omega), fun h => by rw [← l6 (by omega)]; exact h0⟩, by omega⟩
        · repeat' (first | refine zck ?_ | refine zcp (by kernel_rfl) ?_ | refine zcm ?_ | refine zcl ?_ | (refine zap rfl ?_; first | refine zaa 0 rfl rfl (l1 _ (by omega)) ?_ | refine zan rfl ?_ | refine zan rfl ?_ | refine zce rfl ?_ | refine zah [] hcall rfl rfl rfl (fun p hp => by simp [hp]) rfl ?_ | refine zce rfl ?_ | refine zbe rfl rfl (by omega) ?_ | refine zbg rfl rfl (by omega) ?_ | refine zau rfl rfl (by omega) ?_ | refine zas rfl rfl (by omega) ?_) | refine zch ?_ | refine zci rfl ?_)
          exact qret1 (fun _ _ h => h) rfl ⟨int_eq (hwL h0).symm, rfl⟩
      · repeat' (first | refine zck ?_ | refine zcp (by kernel_rfl) ?_ | (refine zap rfl ?_; first | refine zbh rfl rfl (by omega) ?_) | refine zch ?_ | refine zcj rfl ?_)
        refine cut_exit rfl rfl ?_
        repeat' (first | refine zck ?_ | refine zcp (by kernel_rfl) ?_ | (refine zap rfl ?_; first | refine zan rfl ?_) | refine zch ?_)
        refine ret_tmp1 rfl ⟨int_eq ?_, rfl⟩
        rw [hwe, g2 (by omega), if_neg (by decide), g3 (by omega)]
theorem wrongS_spec (w0 : World) (hk : KwOk w0) : ∀ n, n ≤ 1000000 → SSpec w0 n
  | 0, _ => fun sh s va vo vb ve d h => by have := s.size_pos; omega
  | n + 1, hn => wrongS_step w0 hk n hn (wrongs_of w0 n (by omega) (wrongS_spec w0 hk n (by omega)))
theorem wrongs_spec (w0 : World) (hk : KwOk w0) : LSpec w0 1000000 := wrongs_of w0 1000000 (by omega) (wrongS_spec w0 hk 1000000 (by omega))
end Go.Proofs.YtijbnjaackhlcaaGreatDoor

namespace Sim
open Go Go.Vc
def idxP {α : Type} (p : α → Bool) : List α → Int → Int
  | [], _ => -1
  | x :: l, k => if p x = true then k else idxP p l (k + 1)
theorem idxP_any {α : Type} (p : α → Bool) : ∀ (l : List α) (k : Int), 0 ≤ k → decide (0 ≤ idxP p l k) = l.any p
  | [], k, _ => rfl
  | x :: l, k, h => by
    have ih := idxP_any p l (k + 1) (by omega)
    by_cases e : p x = true
    · have e1 : idxP p (x :: l) k = k := by rw [idxP, if_pos e]
      rw [e1, List.any_cons, e, decide_eq_true h]; rfl
    · have e1 : idxP p (x :: l) k = idxP p l (k + 1) := by rw [idxP, if_neg e]
      rw [e1, ih, List.any_cons, Bool.eq_false_iff.2 e, Bool.false_or]
def metM (l : List ByteArray) : SM := l.map fun s => (s, .bool true)
theorem metM_look (x : ByteArray) : ∀ l : List ByteArray, lookS (metM l) x = if inS l x = true then some (.bool true) else none
  | [] => rfl
  | s :: l => by
    have ih := metM_look x l
    simp only [metM, List.map_cons, lookS] at ih ⊢
    rw [ih]
    by_cases e : s = x
    · subst e; simp [inS]
    · have h1 : inS (s :: l) x = inS l x := by simp only [inS, List.any_cons]; rw [decide_eq_false e, Bool.false_or]
      rw [if_neg e, h1]
theorem metM_ins {l : List ByteArray} {x : ByteArray} (h : inS l x = false) : insS (metM l) x (.bool true) = metM (l ++ [x]) := by
  rw [insS_none _ _ _ (by rw [metM_look, h]; rfl)]
  simp [metM]
end Sim
namespace Go.Proofs.YtijbnjaackhlcaaGreatDoor
open Go.Vc Sim
theorem idxS_spec (w0 : World) (sh : Shared) (v : Value) (l : List ByteArray) (p : ByteArray → Bool) (f : FuncId) (caps : Array Value) (hl : RdSl w0 sh encY 1 v l) (hb : l.length ≤ 1099511627776)
    (hf : ∀ x, FnE PP w0 sh f (.string x :: caps.toList) [] (.bool (p x)) []) :
    FnE PP w0 sh 65 [v, .func (.func f) #[] caps] [] (.int .i64 (idxP p l 0)) [] := by
  obtain ⟨a, cap, hv, _⟩ := id hl
  subst hv
  refine fn_of_run en65 fn65 rfl rfl rfl ?_
  repeat' (first | refine zck ?_ | refine zcp (by kernel_rfl) ?_ | refine zcl ?_ | (refine zap rfl ?_; first | refine zan rfl ?_ | refine zan rfl ?_ | refine zce rfl ?_) | refine zch ?_)
  refine run_loop (S := Nat) (fun j => [(0, .slice a l.length cap), (1, .func (.func f) #[] caps), (7, .int .i64 l.length), (8, .int .i64 j)])
    (fun j Γ => Γ = [] ∧ j ≤ l.length ∧ idxP p (l.drop j) j = idxP p l 0) (fun j => l.length - j) 0 ⟨rfl, rfl, rfl, rfl, trivial⟩ ⟨rfl, by omega, rfl⟩ ?_
  rintro j Γ junk ⟨rfl, g1, g2⟩
  by_cases hj : j < l.length
  · obtain ⟨x, hx⟩ : ∃ x, l[j]? = some x := ⟨_, List.getElem?_eq_getElem hj⟩
    obtain ⟨b, off, c, T, fr, rfl, e2, _, e3⟩ := hl.cells hx
    have hd : l.drop j = x :: l.drop (j + 1) := by
      rw [List.drop_eq_getElem_cons hj]
      congr 1
      exact (List.getElem?_eq_some_iff.1 hx).2
    have hc := hf x
    rw [hd, idxP] at g2
    by_cases hs : p x = true
    · rw [if_pos hs] at g2
      rw [hs] at hc
      repeat' (first | refine zck ?_ | refine zcp (by kernel_rfl) ?_ | refine zcm ?_ | refine zcl ?_ | (refine zap rfl ?_; first | refine zad rfl e2 (e3 0 _ rfl _ (by omega)) ?_ | refine zan rfl ?_ | refine zan rfl ?_ | refine zah [] hc rfl rfl rfl (fun _ h => h) rfl ?_ | refine zbg rfl rfl (by omega) ?_ | refine zas rfl rfl (by omega) ?_) | refine zch ?_ | refine zci rfl ?_)
      exact qret1 (fun _ _ h => h) rfl ⟨by rw [← g2]; rfl, rfl⟩
    · rw [if_neg hs] at g2
      rw [Bool.eq_false_iff.2 hs] at hc
      repeat' (first | refine zck ?_ | refine zcp (by kernel_rfl) ?_ | refine zcm ?_ | refine zcl ?_ | refine zcn ?_ | (refine zap rfl ?_; first | refine zad rfl e2 (e3 0 _ rfl _ (by omega)) ?_ | refine zan rfl ?_ | refine zan rfl ?_ | refine zah [] hc rfl rfl rfl (fun _ h => h) rfl ?_ | refine zbg rfl rfl (by omega) ?_ | refine zau rfl rfl (by omega) ?_ | refine zas rfl rfl (by omega) ?_) | refine zch ?_ | refine zci rfl ?_ | refine zcj rfl ?_)
      exact cut_end ⟨rfl, j + 1, ⟨rfl, rfl, rfl, int_eq (by omega), trivial⟩, ⟨rfl, by omega, by rw [← g2]; rfl⟩, by omega⟩
  · repeat' (first | refine zck ?_ | refine zcp (by kernel_rfl) ?_ | (refine zap rfl ?_; first | refine zbh rfl rfl (by omega) ?_) | refine zch ?_ | refine zcj rfl ?_)
    refine cut_exit rfl rfl ?_
    repeat' (first | refine zck ?_ | refine zcp (by kernel_rfl) ?_ | (refine zap rfl ?_; first | refine zan rfl ?_) | refine zch ?_)
    rw [List.drop_of_length_le (by omega)] at g2
    exact ret_tmp1 rfl ⟨by rw [← g2]; rfl, rfl⟩
theorem conF_spec (w0 : World) (sh : Shared) (v : Value) (l : List ByteArray) (p : ByteArray → Bool) (f : FuncId) (caps : Array Value) (hl : RdSl w0 sh encY 1 v l) (hb : l.length ≤ 1099511627776)
    (hf : ∀ x, FnE PP w0 sh f (.string x :: caps.toList) [] (.bool (p x)) []) :
    FnE PP w0 sh 46 [v, .func (.func f) #[] caps] [] (.bool (l.any p)) [] := by
  refine fn_of_run en46 fn46 rfl rfl rfl ?_
  repeat' (first | refine zck ?_ | refine zcp (by kernel_rfl) ?_ | (refine zap rfl ?_; first | refine zan rfl ?_ | refine zan rfl ?_ | refine zah [] (idxS_spec w0 sh v l p f caps hl hb hf) rfl rfl rfl (fun _ h => h) rfl ?_ | refine zbt rfl rfl ?_) | refine zch ?_)
  exact ret_tmp1 rfl ⟨bool_eq (idxP_any p l 0 (Int.le_refl _)), rfl⟩
theorem fresh1_spec (w0 : World) (hk : KwOk w0) (x : ByteArray) : FnE PP w0 [] 47 [.string x] [] (.bool (!nameB x)) [] := by
  refine fn_of_run en47 fn47 rfl rfl rfl ?_
  repeat' (first | refine zck ?_ | refine zcp (by kernel_rfl) ?_ | (refine zap rfl ?_; first | refine zan rfl ?_ | refine zan rfl ?_ | refine zah [] (isName_spec w0 hk x) rfl rfl rfl sub_nil rfl ?_ | refine zbx rfl ?_) | refine zch ?_)
  exact ret_tmp1 rfl ⟨rfl, rfl⟩
theorem fresh_spec (w0 : World) (hk : KwOk w0) (sh : Shared) (r : Nat) (met : List ByteArray) (name : ByteArray) (vm : Value) (more : List ByteArray) (hm : RdSl w0 sh encY 1 vm more) (hb : more.length ≤ 1000) :
    FnE PP w0 sh 25 [.map (some r), .string name, vm] [MapS r (metM met)] (.int .i64 (freshN met name more)) [MapS r (metM (if freshN met name more = 0 then met ++ [name] else met))] := by
  have hcf := (conF_spec w0 sh vm more (fun s => !nameB s) 47 #[] hm (by omega) (fun x => (fresh1_spec w0 hk x).share sub_nil)).dec
  have hin := (isName_spec w0 hk name).dec
  have hlk := metM_look name met
  have key : freshN met name more = if nameB name = true ∧ ¬ (more.any (fun s => !nameB s) = true) then (if inS met name = true then 11 else 0) else 16 := by
    unfold freshN
    cases nameB name <;> cases more.any (fun s => !nameB s) <;> cases inS met name <;> rfl
  by_cases h1 : nameB name = true ∧ ¬ (more.any (fun s => !nameB s) = true)
  · rw [if_pos h1] at key
    obtain ⟨h1, h2⟩ := h1
    rw [decide_eq_true h1] at hin
    rw [decide_eq_false h2] at hcf
    by_cases h3 : inS met name = true
    · rw [if_pos h3] at key hlk
      rw [key, if_neg (by decide)]
      refine fn_of_run en25 fn25 rfl rfl rfl ?_
      repeat' (first | refine zck ?_ | refine zcp (by kernel_rfl) ?_ | refine zcm ?_ | (refine zap rfl ?_; first | refine reg_lookupS 0 (v := .bool true) rfl rfl rfl (by rw [hlk]; rfl) ?_ | refine zaj rfl ?_ | refine zan rfl ?_ | refine zan rfl ?_ | refine zah [] hin rfl rfl rfl sub_nil rfl ?_ | refine zah [] hcf rfl rfl rfl (fun _ h => h) rfl ?_ | refine zbx rfl ?_ | refine zbv rfl ?_) | refine zch ?_ | refine zci rfl ?_ | refine zcj rfl ?_)
      exact ret_tmp1 rfl ⟨rfl, rfl⟩
    · rw [if_neg h3] at key hlk
      rw [key, if_pos rfl]
      have h4 := metM_ins (Bool.eq_false_iff.2 h3)
      refine fn_of_run en25 fn25 rfl rfl rfl ?_
      repeat' (first | refine zck ?_ | refine zcp (by kernel_rfl) ?_ | refine zcm ?_ | (refine zap rfl ?_; first | refine reg_lookupS 0 (v := .bool false) rfl rfl rfl (by rw [hlk]; rfl) ?_ | refine reg_mapUpdateS 0 (u := .bool true) (Γ' := [MapS r (metM (met ++ [name]))]) rfl rfl rfl rfl (by rw [h4]; rfl) ?_ | refine zaj rfl ?_ | refine zan rfl ?_ | refine zan rfl ?_ | refine zah [] hin rfl rfl rfl sub_nil rfl ?_ | refine zah [] hcf rfl rfl rfl (fun _ h => h) rfl ?_ | refine zbx rfl ?_ | refine zbv rfl ?_) | refine zch ?_ | refine zcj rfl ?_)
      exact ret_tmp1 rfl ⟨rfl, rfl⟩
  · rw [if_neg h1] at key
    rw [key, if_neg (by decide)]
    by_cases h2 : nameB name = true
    · have h3 : more.any (fun s => !nameB s) = true := Classical.byContradiction fun h => h1 ⟨h2, h⟩
      rw [decide_eq_true h2] at hin
      rw [decide_eq_true h3] at hcf
      refine fn_of_run en25 fn25 rfl rfl rfl ?_
      repeat' (first | refine zck ?_ | refine zcp (by kernel_rfl) ?_ | (refine zap rfl ?_; first | refine zaj rfl ?_ | refine zan rfl ?_ | refine zan rfl ?_ | refine zah [] hin rfl rfl rfl sub_nil rfl ?_ | refine zah [] hcf rfl rfl rfl (fun _ h => h) rfl ?_ | refine zbx rfl ?_ | refine zbv rfl ?_) | refine zch ?_ | refine zci rfl ?_)
      exact ret_tmp1 rfl ⟨rfl, rfl⟩
    · rw [decide_eq_false h2] at hin
      refine fn_of_run en25 fn25 rfl rfl rfl ?_
      repeat' (first | refine zck ?_ | refine zcp (by kernel_rfl) ?_ | (refine zap rfl ?_; first | refine zak rfl ?_ | refine zan rfl ?_ | refine zan rfl ?_ | refine zah [] hin rfl rfl rfl sub_nil rfl ?_ | refine zbx rfl ?_ | refine zbu rfl ?_) | refine zch ?_ | refine zci rfl ?_)
      exact ret_tmp1 rfl ⟨rfl, rfl⟩
end Go.Proofs.YtijbnjaackhlcaaGreatDoor

namespace Sim
def Ef.sm (e : Ef) (n : Nat) : Prop := e.reads.length ≤ n ∧ e.writes.length ≤ n ∧ e.hosts.length ≤ n
end Sim
namespace Go.Vc
open Sim
def RdEfV (w0 : World) (sh : Shared) (v : Value) (e : Ef) : Prop := ∃ c, v = .agg (List.toArray c) ∧ RdEf w0 sh c e
theorem RdEfV.mono {w0 : World} {sh sh' : Shared} {v : Value} {e : Ef} (h : RdEfV w0 sh v e) (hs : ∀ p ∈ sh, p ∈ sh') : RdEfV w0 sh' v e := let ⟨c, h1, h2⟩ := h; ⟨c, h1, h2.mono hs⟩
theorem RdEfV.zero {w0 : World} {sh : Shared} : RdEfV w0 sh (.agg (List.toArray [.slice none 0 0, .slice none 0 0, .slice none 0 0, .int .i64 0])) zeroE := ⟨_, rfl, _, _, _, rfl, RdSl.nil, RdSl.nil, RdSl.nil⟩
theorem RdSl.val {w0 : World} {sh : Shared} {v : Value} {l : List ByteArray} (h : RdSl w0 sh encY 1 v l) : ∃ a c, v = .slice a l.length c := let ⟨a, c, h1, _⟩ := h; ⟨a, c, h1⟩
abbrev efA (x1 : Option Addr) (n1 y1 : Nat) (x2 : Option Addr) (n2 y2 : Nat) (x3 : Option Addr) (n3 y3 : Nat) (c : Int) : Value := .agg (List.toArray [.slice x1 n1 y1, .slice x2 n2 y2, .slice x3 n3 y3, .int .i64 c])
theorem RdEfV.calls {w0 : World} {sh : Shared} {x1 : Option Addr} {n1 y1 : Nat} {x2 : Option Addr} {n2 y2 : Nat} {x3 : Option Addr} {n3 y3 : Nat} {c : Int} {e : Ef} (h : RdEfV w0 sh (efA x1 n1 y1 x2 n2 y2 x3 n3 y3 c) e) (c' : Int) : RdEfV w0 sh (efA x1 n1 y1 x2 n2 y2 x3 n3 y3 c') { e with calls := c' } := by
  obtain ⟨_, e1, v1, v2, v3, rfl, h1, h2, h3⟩ := h
  simp at e1
  obtain ⟨rfl, rfl, rfl, _⟩ := e1
  exact ⟨_, rfl, _, _, _, rfl, h1, h2, h3⟩
end Go.Vc
namespace Go.Proofs.YtijbnjaackhlcaaGreatDoor
open Go.Vc Sim
end Go.Proofs.YtijbnjaackhlcaaGreatDoor

namespace Go.Vc
open Sim
abbrev MRow : Type := (ByteArray × Int × Bool) × Nat
abbrev encM (r : MRow) : List Value := [.string r.1.1, .int .i64 r.1.2.1, .bool r.1.2.2, .func (.func r.2) #[] #[]]
end Go.Vc
namespace Go.Proofs.YtijbnjaackhlcaaGreatDoor
open Go.Vc Sim
def ms0 : List MRow := [((bs [103, 101, 116], 0, false), 96), ((bs [97, 100, 100], 1, true), 99), ((bs [115, 101, 116], 1, true), 101)]
def ms1 : List MRow := [((bs [112, 117, 115, 104], 1, true), 103), ((bs [112, 111, 112], 0, true), 106), ((bs [116, 111, 112], 0, false), 108), ((bs [108, 101, 110], 0, false), 110)]
def ms2 : List MRow := [((bs [112, 117, 116], 1, true), 112), ((bs [116, 97, 107, 101], 0, true), 114), ((bs [102, 105, 114, 115, 116], 0, false), 116), ((bs [108, 101, 110], 0, false), 118)]
def ms3 : List MRow := [((bs [112, 117, 115, 104, 95, 108, 101, 102, 116], 1, true), 120), ((bs [112, 117, 115, 104, 95, 114, 105, 103, 104, 116], 1, true), 122), ((bs [112, 111, 112, 95, 108, 101, 102, 116], 0, true), 123), ((bs [112, 111, 112, 95, 114, 105, 103, 104, 116], 0, true), 125), ((bs [108, 101, 102, 116], 0, false), 126), ((bs [114, 105, 103, 104, 116], 0, false), 128), ((bs [108, 101, 110], 0, false), 129)]
def ms4 : List MRow := [((bs [112, 117, 116], 2, true), 144), ((bs [103, 101, 116], 1, false), 147), ((bs [104, 97, 115], 1, false), 150), ((bs [100, 114, 111, 112], 1, true), 152), ((bs [108, 101, 110], 0, false), 155)]
def ms5 : List MRow := [((bs [112, 117, 116], 2, true), 157), ((bs [103, 101, 116], 1, false), 160), ((bs [104, 97, 115], 1, false), 162), ((bs [100, 114, 111, 112], 1, true), 163), ((bs [115, 117, 109], 2, false), 165), ((bs [99, 111, 117, 110, 116], 2, false), 167), ((bs [110, 101, 120, 116], 1, false), 169), ((bs [110, 116, 104], 1, false), 171), ((bs [108, 101, 110], 0, false), 173)]
def ms6 : List MRow := [((bs [112, 117, 115, 104], 2, true), 175), ((bs [112, 111, 112], 0, true), 178), ((bs [109, 105, 110], 0, false), 180), ((bs [108, 101, 97, 115, 116], 0, false), 182), ((bs [108, 111, 119, 101, 114], 2, true), 183), ((bs [100, 114, 111, 112], 1, true), 185), ((bs [108, 101, 110], 0, false), 187)]
def ms7 : List MRow := [((bs [112, 117, 115, 104], 1, true), 131), ((bs [112, 111, 112], 0, true), 134), ((bs [103, 101, 116], 1, false), 136), ((bs [115, 101, 116], 2, true), 138), ((bs [115, 119, 97, 112], 2, true), 140), ((bs [108, 101, 110], 0, false), 142)]
def ms8 : List MRow := [((bs [97, 100, 100], 1, true), 189), ((bs [108, 105, 110, 107], 3, true), 192), ((bs [99, 117, 116], 1, true), 194), ((bs [100, 114, 111, 112], 1, true), 196), ((bs [119, 101, 105, 103, 104, 116], 2, false), 198), ((bs [108, 97, 98, 101, 108], 1, false), 200), ((bs [111, 117, 116, 115], 1, false), 202), ((bs [105, 110, 115], 1, false), 205), ((bs [118, 101, 114, 116, 105, 99, 101, 115], 0, false), 207), ((bs [101, 100, 103, 101, 115], 0, false), 209)]
def ms9 : List MRow := [((bs [109, 97, 107, 101], 0, true), 211), ((bs [102, 105, 110, 100], 1, false), 214), ((bs [117, 110, 105, 111, 110], 2, true), 216), ((bs [117, 110, 100, 111], 0, true), 218), ((bs [115, 97, 109, 101], 2, false), 220), ((bs [115, 105, 122, 101], 1, false), 222), ((bs [115, 101, 116, 115], 0, false), 224)]
def msK (k : Int) : List MRow := if k = 0 then ms0 else if k = 1 then ms1 else if k = 2 then ms2 else if k = 3 then ms3 else if k = 4 then ms4 else if k = 5 then ms5 else if k = 6 then ms6 else if k = 7 then ms7 else if k = 8 then ms8 else if k = 9 then ms9 else []
theorem msK_rows (k : Int) : (msK k).map (·.1) = ctMeths k := by
  unfold msK ctMeths
  by_cases h : 0 ≤ k ∧ k ≤ 9
  · rcases (by omega : k = 0 ∨ k = 1 ∨ k = 2 ∨ k = 3 ∨ k = 4 ∨ k = 5 ∨ k = 6 ∨ k = 7 ∨ k = 8 ∨ k = 9) with rfl | rfl | rfl | rfl | rfl | rfl | rfl | rfl | rfl | rfl <;> rfl
  · rw [if_neg h, if_neg (by omega), if_neg (by omega), if_neg (by omega), if_neg (by omega), if_neg (by omega), if_neg (by omega), if_neg (by omega), if_neg (by omega), if_neg (by omega), if_neg (by omega)]; rfl
abbrev mSl (s n : Nat) : Value := .slice (some ⟨s, 0, none⟩) n n
abbrev mPt (s : Nat) (l : List MRow) : Asn := pt s (.cells (List.toArray (l.flatMap encM)) 142 (0, 0))
theorem names_own (w0 : World) : Vc.Fn PP w0 [] 42 [] [] (fun v Γ => ∃ nb, v = .slice (some ⟨nb, 0, none⟩) 10 10 ∧ Γ = [pt nb (.cells (List.toArray (ctNames.flatMap encY)) 9 (0, 0))]) := by
  refine fn_of_run en42 fn42 rfl rfl rfl ?_
  repeat' (first | refine zck ?_ | refine zcp (by kernel_rfl) ?_ | (refine zap rfl ?_; first | refine reg_buildSlice rfl rfl rfl rfl rfl rfl (fun nb => ?_) | refine zan rfl ?_) | refine zch ?_)
  exact ret_tmp1 rfl ⟨_, rfl, rfl⟩
theorem names_spec (w0 : World) : Vc.Fn PP w0 [] 42 [] [] (fun v Γ => ∃ nb, v = .slice (some ⟨nb, 0, none⟩) 10 10 ∧ Γ = [Rds fun bl => RdSl w0 bl encY 1 v ctNames]) := by
  refine fn_of_run en42 fn42 rfl rfl rfl ?_
  repeat' (first | refine zck ?_ | refine zcp (by kernel_rfl) ?_ | (refine zap rfl ?_; first | refine reg_buildSlice rfl rfl rfl rfl rfl rfl (fun nb => ?_) | refine zan rfl ?_) | refine zch ?_)
  refine run_exch 0 (Rds fun bl => RdSl w0 bl encY 1 (.slice (some ⟨nb, 0, none⟩) 10 10) ctNames) rfl (fun g hg => Rds.mono (fun _ hb => RdSl.flat (encE := encY) (q := 1) (w0 := w0) (b := nb) (l := ctNames) (fun _ _ => rfl) hb) g (Rds.of_pt g hg)) rfl ?_
  exact ret_tmp1 rfl ⟨_, rfl, rfl⟩
theorem index_v (w0 : World) (sh : Shared) (v : Value) (l : List ByteArray) (s : ByteArray) (hl : RdSl w0 sh encY 1 v l) (hb : l.length ≤ 1099511627776) :
    FnE PP w0 sh 41 [v, .string s] [] (.int .i64 (ixZ s l 0)) [] := by
  obtain ⟨a, cap, e, _⟩ := id hl
  subst e
  exact index_spec w0 sh a cap l s hl hb
theorem kind_spec (w0 : World) (s : ByteArray) : FnE PP w0 [] 23 [.string s] [] (.tuple #[.int .i64 ((ctKind s).getD 0 : Nat), .bool (ctKind s).isSome]) [] := by
  obtain ⟨X, hX⟩ : ∃ X, ixZ s ctNames 0 = X := ⟨_, rfl⟩
  have h : X = match ctKind s with | some j => (j : Int) | none => -1 := hX ▸ ixZ_ixS s ctNames 0
  have hc : ∀ sh v, RdSl w0 sh encY 1 v ctNames → FnE PP w0 sh 41 [v, .string s] [] (.int .i64 X) [] := fun sh v h => hX ▸ index_v w0 sh v ctNames s h (by decide)
  refine fn_of_run en23 fn23 rfl rfl rfl ?_
  repeat' (first | refine zck ?_ | refine zcp (by kernel_rfl) ?_ | (refine zap rfl ?_; first | refine zan rfl ?_ | refine zan rfl ?_ | refine zcf rfl rfl ?_ | (refine zai [] (names_spec w0) rfl rfl rfl sub_nil ?_; rintro v Γ ⟨nb, rfl, rfl⟩) | (refine zai [0] (Fn.lendR en41 (fun sh' bl h1 h2 h3 => hc sh' _ (h3.mono h2))) rfl rfl rfl sub_nil ?_; rintro v Γ ⟨_, ⟨rfl, rfl⟩, rfl⟩) | refine zbt rfl rfl ?_) | refine zch ?_)
  refine run_take [] rfl ?_
  refine ret_tmp2 rfl ⟨?_, rfl⟩
  cases hk : ctKind s with
  | none =>
    rw [hk] at h
    have h : X = -1 := h
    subst h
    rfl
  | some j =>
    rw [hk] at h
    have h : X = (j : Int) := h
    clear hX hc hk
    subst h
    have e1 : (if (0 : Int) > (j : Int) then (0 : Int) else (j : Int)) = j := if_neg (by omega)
    have e2 : decide ((0 : Int) ≤ (j : Int)) = true := decide_eq_true (by omega)
    show Value.tuple #[.int .i64 (if (0 : Int) > (j : Int) then (0 : Int) else (j : Int)), .bool (decide ((0 : Int) ≤ (j : Int)))] = _
    rw [e1, e2]; rfl
theorem name_spec (w0 : World) (k : Int) : FnE PP w0 [] 49 [.int .i64 k] [] (.string (ctName k)) [] := by
  by_cases h0 : k < 0
  · have hn : ctName k = bs [] := by unfold ctName; rw [if_neg (by omega)]
    rw [hn]
    refine fn_of_run en49 fn49 rfl rfl rfl ?_
    repeat' (first | refine zck ?_ | refine zcp (by kernel_rfl) ?_ | (refine zap rfl ?_; first | refine zak rfl ?_ | refine zan rfl ?_ | refine zan rfl ?_ | refine zbg rfl rfl (by omega) ?_ | refine zbu rfl ?_) | refine zch ?_ | refine zci rfl ?_)
    exact ret_tmp1 rfl ⟨rfl, rfl⟩
  by_cases h9 : 9 < k
  · have hn : ctName k = bs [] := by unfold ctName; rw [if_neg (by omega)]
    rw [hn]
    refine fn_of_run en49 fn49 rfl rfl rfl ?_
    repeat' (first | refine zck ?_ | refine zcp (by kernel_rfl) ?_ | (refine zap rfl ?_; first | refine zaj rfl ?_ | refine zan rfl ?_ | refine zan rfl ?_ | refine zce rfl ?_ | (refine zai [] (names_spec w0) rfl rfl rfl sub_nil ?_; rintro v Γ ⟨nb, rfl, rfl⟩) | refine zbh rfl rfl (by omega) ?_ | refine zbm rfl rfl (by omega) ?_ | refine zbv rfl ?_) | refine zch ?_ | refine zci rfl ?_)
    refine run_take [] rfl ?_
    exact ret_tmp1 rfl ⟨rfl, rfl⟩
  obtain ⟨x, hx⟩ : ∃ x, ctNames[k.toNat]? = some x := ⟨_, List.getElem?_eq_getElem (by show k.toNat < 10; omega)⟩
  have hn : ctName k = x := by unfold ctName; rw [if_pos (by omega), List.getD_eq_getElem?_getD, hx]; rfl
  rw [hn]
  have hr : ∀ o, o = 0 + k.toNat * 1 → rd false 1 (ctNames.flatMap encY) o = some (.string x) := fun o ho => by
    have := flat_at (encE := encY) (q := 1) ctNames (fun _ _ => rfl) k.toNat x hx 0 _ rfl
    exact rd_one (c := (ctNames.flatMap encY).toArray) (o := k.toNat * 1 + 0) (by simpa using this) o (by omega)
  refine fn_of_run en49 fn49 rfl rfl rfl ?_
  repeat' (first | refine zck ?_ | refine zcp (by kernel_rfl) ?_ | refine zcm ?_ | (refine zap rfl ?_; first | refine zab 0 rfl rfl (hr _ (by omega)) ?_ | refine zaj rfl ?_ | refine zan rfl ?_ | refine zan rfl ?_ | refine zce rfl ?_ | (refine zai [] (names_own w0) rfl rfl rfl sub_nil ?_; rintro v Γ ⟨nb, rfl, rfl⟩) | refine zbh rfl rfl (by omega) ?_ | refine zbn rfl rfl (by omega) ?_ | refine zbv rfl ?_ | refine zas rfl rfl (by omega) ?_) | refine zch ?_ | refine zcj rfl ?_)
  refine run_take [] rfl ?_
  exact ret_tmp1 rfl ⟨rfl, rfl⟩
theorem row_spec (w0 : World) : Vc.Fn PP w0 [] 85 [] [] (fun v Γ => ∃ m s0 s1 s2 s3 s7, v = .map (some m) ∧ Γ = [pt m (mapI [(0, mSl s0 3), (1, mSl s1 4), (2, mSl s2 4), (3, mSl s3 7), (7, mSl s7 6)]), mPt s0 ms0, mPt s1 ms1, mPt s2 ms2, mPt s3 ms3, mPt s7 ms7]) := by
  refine fn_of_run en85 fn85 rfl rfl rfl ?_
  repeat' (first | refine zck ?_ | refine zcp (by kernel_rfl) ?_ | (refine zap rfl ?_; first | refine reg_buildSlice rfl rfl rfl rfl rfl rfl (fun nb => ?_) | refine reg_insert 0 rfl rfl rfl rfl rfl ?_ | refine zan rfl ?_ | refine zan rfl ?_ | refine zcc (fun nb => ?_) | refine zcb rfl ?_) | refine zch ?_)
  exact ret_tmp1 rfl ⟨_, _, _, _, _, _, rfl, rfl⟩
theorem keyed_spec (w0 : World) : Vc.Fn PP w0 [] 86 [] [] (fun v Γ => ∃ m s4 s5 s6, v = .map (some m) ∧ Γ = [pt m (mapI [(4, mSl s4 5), (5, mSl s5 9), (6, mSl s6 7)]), mPt s4 ms4, mPt s5 ms5, mPt s6 ms6]) := by
  refine fn_of_run en86 fn86 rfl rfl rfl ?_
  repeat' (first | refine zck ?_ | refine zcp (by kernel_rfl) ?_ | (refine zap rfl ?_; first | refine reg_buildSlice rfl rfl rfl rfl rfl rfl (fun nb => ?_) | refine reg_insert 0 rfl rfl rfl rfl rfl ?_ | refine zan rfl ?_ | refine zan rfl ?_ | refine zcc (fun nb => ?_) | refine zcb rfl ?_) | refine zch ?_)
  exact ret_tmp1 rfl ⟨_, _, _, _, rfl, rfl⟩
theorem linked_spec (w0 : World) : Vc.Fn PP w0 [] 87 [] [] (fun v Γ => ∃ m s8 s9, v = .map (some m) ∧ Γ = [pt m (mapI [(8, mSl s8 10), (9, mSl s9 7)]), mPt s8 ms8, mPt s9 ms9]) := by
  refine fn_of_run en87 fn87 rfl rfl rfl ?_
  repeat' (first | refine zck ?_ | refine zcp (by kernel_rfl) ?_ | (refine zap rfl ?_; first | refine reg_buildSlice rfl rfl rfl rfl rfl rfl (fun nb => ?_) | refine reg_insert 0 rfl rfl rfl rfl rfl ?_ | refine zan rfl ?_ | refine zan rfl ?_ | refine zcc (fun nb => ?_) | refine zcb rfl ?_) | refine zch ?_)
  exact ret_tmp1 rfl ⟨_, _, _, rfl, rfl⟩
end Go.Proofs.YtijbnjaackhlcaaGreatDoor

namespace Sim
open Go Go.Vc
theorem freshAll_drop {met l : List ByteArray} {j : Nat} {x : ByteArray} (h : l[j]? = some x) : freshAll met (l.drop j) = if freshN met x [] ≠ 0 then freshN met x [] else freshAll (met ++ [x]) (l.drop (j + 1)) := by
  have hj := (List.getElem?_eq_some_iff.1 h).1
  rw [List.drop_eq_getElem_cons hj, (List.getElem?_eq_some_iff.1 h).2, freshAll]
theorem wrongD_drop {met : List ByteArray} {l : List (ByteArray × ByteArray)} {j : Nat} {x : ByteArray × ByteArray} (h : l[j]? = some x) : wrongD met (l.drop j) = if freshN met x.1 [x.2] ≠ 0 then freshN met x.1 [x.2] else wrongD (met ++ [x.1]) (l.drop (j + 1)) := by
  have hj := (List.getElem?_eq_some_iff.1 h).1
  rw [List.drop_eq_getElem_cons hj, (List.getElem?_eq_some_iff.1 h).2, wrongD]
theorem wrongOs_drop {met : List ByteArray} {l : List PO} {j : Nat} {x : PO} (h : l[j]? = some x) : wrongOs met (l.drop j) = if wrongO met x ≠ 0 then wrongO met x else wrongOs (met ++ [x.name]) (l.drop (j + 1)) := by
  have hj := (List.getElem?_eq_some_iff.1 h).1
  rw [List.drop_eq_getElem_cons hj, (List.getElem?_eq_some_iff.1 h).2, wrongOs]
theorem take_snoc {α : Type} {l : List α} {j : Nat} {x : α} (h : l[j]? = some x) : l.take (j + 1) = l.take j ++ [x] := by rw [List.take_add_one, h]; rfl
end Sim
namespace Go.Proofs.YtijbnjaackhlcaaGreatDoor
open Go.Vc Sim
set_option maxHeartbeats 1000000 in
theorem operWrong_spec (w0 : World) (hk : KwOk w0) (sh : Shared) (r : Nat) (met : List ByteArray) (o : PO) (vp vb : Value) (hp : RdSl w0 sh encY 1 vp o.params) (hb : RdSt w0 sh vb o.body) (hsz : PS.sizeL o.body ≤ 1000000) :
    Vc.Fn PP w0 sh 26 [.agg (List.toArray [.string o.name, vp, vb]), .map (some r)] [MapS r (metM met)]
      (fun v Γ => v = .int .i64 (wrongO met o) ∧ ∃ met', Γ = [MapS r (metM met')] ∧ (wrongO met o = 0 → met' = met ++ [o.name])) := by
  obtain ⟨a1, c1, hvp, hc1, _⟩ := id hp
  obtain ⟨a2, c2, hvb, hc2⟩ := hb.len
  subst hvp; subst hvb
  have hfr := fresh_spec w0 hk sh r met o.name (.slice none 0 0) [] RdSl.nil (by decide)
  have hbody := wrongs_spec w0 hk sh _ o.body 1 hsz hb (by omega) (by omega)
  refine fn_of_run en26 fn26 rfl rfl rfl ?_
  repeat (first | refine zck ?_ | refine zcl ?_ | refine zcm ?_ | refine zcn ?_)
  first | refine zcp (by kernel_rfl) ?_ | refine zcq PP_mixed (by kernel_rfl) (by kernel_rfl) ?_
  repeat' (refine zap rfl ?_; first | refine zan rfl ?_ | refine zaq (cs := [_, _, _]) rfl (fun nb => ?_))
  all_goals refine zch ?_
  all_goals repeat (first | refine zck ?_ | refine zcl ?_ | refine zcm ?_ | refine zcn ?_)
  refine run_share [1] rfl ?_
  obtain ⟨be, hbe⟩ : ∃ b, b = nb := ⟨_, rfl⟩
  subst hbe
  by_cases hF : freshN met o.name [] = 0
  · rw [if_pos hF, hF] at hfr
    by_cases h4 : 4 < o.params.length
    · have hw : wrongO met o = 15 := by unfold wrongO; rw [if_neg (by omega), if_pos h4]
      repeat' (first | refine zck ?_ | refine zcp (by kernel_rfl) ?_ | refine zcm ?_ | (refine zap rfl ?_; first | refine zan rfl ?_ | refine zan rfl ?_ | refine zaa 0 rfl rfl rfl ?_ | refine zce rfl ?_ | refine zah [0] hfr rfl rfl rfl (fun p hp => by simp [hp]) rfl ?_ | refine zce rfl ?_ | refine zao rfl ?_ | refine zbf rfl rfl (by omega) ?_ | refine zbk rfl rfl (by omega) ?_) | refine zch ?_ | refine zci rfl ?_ | refine zcj rfl ?_)
      exact ret_tmp1 rfl ⟨by rw [hw]; rfl, _, rfl, fun _ => rfl⟩
    have hw : wrongO met o = if freshAll [] o.params ≠ 0 then freshAll [] o.params else wrongSs o.body 1 := by unfold wrongO; rw [if_neg (by omega), if_neg h4]
    repeat' (first | refine zck ?_ | refine zcp (by kernel_rfl) ?_ | refine zcm ?_ | refine zcl ?_ | (refine zap rfl ?_; first | refine zan rfl ?_ | refine zan rfl ?_ | refine zaa 0 rfl rfl rfl ?_ | refine zce rfl ?_ | refine zah [0] hfr rfl rfl rfl (fun p hp => by simp [hp]) rfl ?_ | refine zce rfl ?_ | refine zao rfl ?_ | refine zbf rfl rfl (by omega) ?_ | refine zbl rfl rfl (by omega) ?_ | refine zcc (fun nb => ?_)) | refine zch ?_ | refine zcj rfl ?_)
    refine run_exch 1 (MapS nb (metM [])) rfl (mapS_make nb) rfl ?_
    refine run_loop (S := Nat) (fun j => [(2, .pointer (some ⟨be, 0, none⟩)), (6, .map (some nb)), (23, .slice a1 o.params.length c1), (24, .int .i64 o.params.length), (25, .int .i64 j)])
      (fun j Γ => Γ = [MapS r (metM (met ++ [o.name])), MapS nb (metM (o.params.take j))] ∧ j ≤ o.params.length ∧ freshAll (o.params.take j) (o.params.drop j) = freshAll [] o.params) (fun j => o.params.length - j) 0
      ⟨rfl, rfl, rfl, rfl, rfl, trivial⟩ ⟨rfl, by omega, rfl⟩ ?_
    rintro j Γ junk ⟨rfl, q1, q2⟩
    by_cases hj : j < o.params.length
    · obtain ⟨x, hx⟩ : ∃ x, o.params[j]? = some x := ⟨_, List.getElem?_eq_getElem hj⟩
      obtain ⟨b, off, cc, T, fr, rfl, e2, _, e3⟩ := hp.cells hx
      rw [freshAll_drop hx] at q2
      have hfr2 := fresh_spec w0 hk sh nb (o.params.take j) x (.slice none 0 0) [] RdSl.nil (by decide)
      by_cases h0 : freshN (o.params.take j) x [] = 0
      · rw [if_neg (by omega), ← take_snoc hx] at q2
        rw [if_pos h0, h0, ← take_snoc hx] at hfr2
        repeat' (first | refine zck ?_ | refine zcp (by kernel_rfl) ?_ | refine zcm ?_ | refine zcl ?_ | refine zcn ?_ | (refine zap rfl ?_; first | refine zad rfl (fun hF Γ w h1 h2 => e2 hF Γ w (fun p hp => h1 p (by simp [hp])) h2) (e3 0 _ rfl _ (by omega)) ?_ | refine zan rfl ?_ | refine zan rfl ?_ | refine zce rfl ?_ | refine zah [1] hfr2 rfl rfl rfl (fun p hp => by simp [hp]) rfl ?_ | refine zce rfl ?_ | refine zbf rfl rfl (by omega) ?_ | refine zbg rfl rfl (by omega) ?_ | refine zau rfl rfl (by omega) ?_ | refine zas rfl rfl (by omega) ?_) | refine zch ?_ | refine zci rfl ?_ | refine zcj rfl ?_)
        refine run_perm (List.Perm.swap _ _ _) ?_
        exact cut_end ⟨rfl, j + 1, ⟨rfl, rfl, rfl, rfl, int_eq (by omega), trivial⟩, ⟨rfl, by omega, q2⟩, by omega⟩
      · rw [if_pos h0] at q2
        rw [if_neg h0] at hfr2
        repeat' (first | refine zck ?_ | refine zcp (by kernel_rfl) ?_ | refine zcm ?_ | refine zcl ?_ | (refine zap rfl ?_; first | refine zad rfl (fun hF Γ w h1 h2 => e2 hF Γ w (fun p hp => h1 p (by simp [hp])) h2) (e3 0 _ rfl _ (by omega)) ?_ | refine zan rfl ?_ | refine zan rfl ?_ | refine zce rfl ?_ | refine zah [1] hfr2 rfl rfl rfl (fun p hp => by simp [hp]) rfl ?_ | refine zce rfl ?_ | refine zbe rfl rfl (by omega) ?_ | refine zbg rfl rfl (by omega) ?_ | refine zas rfl rfl (by omega) ?_) | refine zch ?_ | refine zci rfl ?_)
        refine run_take [1] rfl ?_
        rw [← q2, if_pos h0] at hw
        exact qret1 (fun _ _ h => h) rfl ⟨by rw [hw]; rfl, _, rfl, fun h => absurd (hw ▸ h) h0⟩
    · rw [List.drop_of_length_le (by omega)] at q2
      rw [← q2] at hw
      have hw : wrongO met o = wrongSs o.body 1 := hw
      repeat' (first | refine zck ?_ | refine zcp (by kernel_rfl) ?_ | (refine zap rfl ?_; first | refine zbh rfl rfl (by omega) ?_) | refine zch ?_ | refine zcj rfl ?_)
      refine cut_exit rfl rfl ?_
      repeat' (first | refine zck ?_ | refine zcp (by kernel_rfl) ?_ | (refine zap rfl ?_; first | refine zan rfl ?_ | refine zaa 0 rfl rfl rfl ?_ | refine zah [] hbody rfl rfl rfl (fun p hp => by simp [hp]) rfl ?_ | refine zce rfl ?_ | refine zao rfl ?_) | refine zch ?_)
      refine run_take [0] rfl ?_
      exact ret_tmp1 rfl ⟨by rw [hw]; rfl, _, rfl, fun _ => rfl⟩
  · rw [if_neg hF] at hfr
    have hw : wrongO met o = freshN met o.name [] := by unfold wrongO; rw [if_pos hF]
    repeat' (first | refine zck ?_ | refine zcp (by kernel_rfl) ?_ | (refine zap rfl ?_; first | refine zan rfl ?_ | refine zan rfl ?_ | refine zaa 0 rfl rfl rfl ?_ | refine zce rfl ?_ | refine zah [0] hfr rfl rfl rfl (fun p hp => by simp [hp]) rfl ?_ | refine zce rfl ?_ | refine zao rfl ?_ | refine zbe rfl rfl (by omega) ?_) | refine zch ?_ | refine zci rfl ?_)
    exact ret_tmp1 rfl ⟨by rw [hw]; rfl, _, rfl, fun h => absurd (hw ▸ h) hF⟩
def PP'.small (p : PP') : Prop := p.stores.length ≤ 1000000 ∧ p.opers.length ≤ 1000000 ∧ ∀ o ∈ p.opers, PS.sizeL o.body ≤ 1000000 ∧ o.params.length ≤ 1000000
set_option maxHeartbeats 2000000 in
theorem check_spec (w0 : World) (hk : KwOk w0) (sh : Shared) (v : Value) (p : PP') (hp : RdP w0 sh v p) (hs : PP'.small p) : FnE PP w0 sh 13 [v] [] (.int .i64 (checkP p)) [] := by
  obtain ⟨vs, vo, hv, h1, h2⟩ := hp
  subst hv
  obtain ⟨a1, c1, hvs, hc1, _⟩ := id h1
  obtain ⟨a2, c2, hvo, hc2⟩ := h2.len
  subst hvs; subst hvo
  obtain ⟨hs1, hs2, hs3⟩ := hs
  refine fn_of_run en13 fn13 rfl rfl rfl ?_
  repeat (first | refine zck ?_ | refine zcl ?_ | refine zcm ?_ | refine zcn ?_)
  first | refine zcp (by kernel_rfl) ?_ | refine zcq PP_mixed (by kernel_rfl) (by kernel_rfl) ?_
  repeat' (refine zap rfl ?_; first | refine zan rfl ?_ | refine zaq (cs := [_, _]) rfl (fun nb => ?_))
  all_goals refine zch ?_
  all_goals repeat (first | refine zck ?_ | refine zcl ?_ | refine zcm ?_ | refine zcn ?_)
  refine run_share [0] rfl ?_
  obtain ⟨be, hbe⟩ : ∃ b, b = nb := ⟨_, rfl⟩
  subst hbe
  by_cases hA : 12 < p.stores.length
  · have hw : checkP p = 15 := by unfold checkP; rw [if_pos (.inl hA)]
    repeat' (first | refine zck ?_ | refine zcp (by kernel_rfl) ?_ | (refine zap rfl ?_; first | refine zak rfl ?_ | refine zan rfl ?_ | refine zan rfl ?_ | refine zaa 0 rfl rfl rfl ?_ | refine zce rfl ?_ | refine zao rfl ?_ | refine zbk rfl rfl (by omega) ?_ | refine zbu rfl ?_) | refine zch ?_ | refine zci rfl ?_)
    exact ret_tmp1 rfl ⟨by rw [hw]; rfl, rfl⟩
  by_cases hB : 32 < p.opers.length
  · have hw : checkP p = 15 := by unfold checkP; rw [if_pos (.inr hB)]
    repeat' (first | refine zck ?_ | refine zcp (by kernel_rfl) ?_ | (refine zap rfl ?_; first | refine zaj rfl ?_ | refine zan rfl ?_ | refine zan rfl ?_ | refine zaa 0 rfl rfl rfl ?_ | refine zce rfl ?_ | refine zao rfl ?_ | refine zbk rfl rfl (by omega) ?_ | refine zbl rfl rfl (by omega) ?_ | refine zbv rfl ?_) | refine zch ?_ | refine zci rfl ?_)
    exact ret_tmp1 rfl ⟨by rw [hw]; rfl, rfl⟩
  have hw : checkP p = if wrongD [] p.stores ≠ 0 then wrongD [] p.stores else wrongOs [] p.opers := by unfold checkP; rw [if_neg (by omega)]
  repeat' (first | refine zck ?_ | refine zcp (by kernel_rfl) ?_ | refine zcm ?_ | refine zcl ?_ | (refine zap rfl ?_; first | refine zaj rfl ?_ | refine zan rfl ?_ | refine zan rfl ?_ | refine zaa 0 rfl rfl rfl ?_ | refine zce rfl ?_ | refine zao rfl ?_ | refine zbl rfl rfl (by omega) ?_ | refine zbv rfl ?_ | refine zcc (fun nb => ?_)) | refine zch ?_ | refine zcj rfl ?_)
  obtain ⟨m1, hm1⟩ : ∃ b, b = nb := ⟨_, rfl⟩
  subst hm1
  refine run_exch 0 (MapS m1 (metM [])) rfl (mapS_make m1) rfl ?_
  refine run_loop (S := Nat) (fun j => [(1, .pointer (some ⟨be, 0, none⟩)), (3, .map (some m1)), (22, .slice a1 p.stores.length c1), (23, .int .i64 p.stores.length), (24, .int .i64 j)])
    (fun j Γ => Γ = [MapS m1 (metM ((p.stores.take j).map (·.1)))] ∧ j ≤ p.stores.length ∧ wrongD ((p.stores.take j).map (·.1)) (p.stores.drop j) = wrongD [] p.stores) (fun j => p.stores.length - j) 0
    ⟨rfl, rfl, rfl, rfl, rfl, trivial⟩ ⟨rfl, by omega, rfl⟩ ?_
  rintro j Γ junk ⟨rfl, q1, q2⟩
  by_cases hj : j < p.stores.length
  · obtain ⟨x, hx⟩ : ∃ x, p.stores[j]? = some x := ⟨_, List.getElem?_eq_getElem hj⟩
    obtain ⟨b, off, cc, T, fr, rfl, e2, e3, _⟩ := h1.cells hx
    rw [wrongD_drop hx] at q2
    have ht : (p.stores.take (j + 1)).map (·.1) = (p.stores.take j).map (·.1) ++ [x.1] := by rw [take_snoc hx, List.map_append]; rfl
    have hfr : ∀ nb, FnE PP w0 ((nb, Obj.cells (List.toArray [Value.string x.2]) 9 (0, 0)) :: sh) 25 [.map (some m1), .string x.1, .slice (some ⟨nb, 0, none⟩) 1 1] [MapS m1 (metM ((p.stores.take j).map (·.1)))] (.int .i64 (freshN ((p.stores.take j).map (·.1)) x.1 [x.2]))
        [MapS m1 (metM (if freshN ((p.stores.take j).map (·.1)) x.1 [x.2] = 0 then (p.stores.take j).map (·.1) ++ [x.1] else (p.stores.take j).map (·.1)))] := fun nb =>
      fresh_spec w0 hk _ m1 _ x.1 _ [x.2] (RdSl.flat (encE := encY) (q := 1) (w0 := w0) (b := nb) (l := [x.2]) (fun _ _ => rfl) (.head _)) (by simp)
    by_cases h0 : freshN ((p.stores.take j).map (·.1)) x.1 [x.2] = 0
    · rw [if_neg (by omega), ← ht] at q2
      rw [if_pos h0, h0, ← ht] at hfr
      repeat' (first | refine zck ?_ | refine zcp (by kernel_rfl) ?_ | refine zcm ?_ | refine zcl ?_ | refine zcn ?_ | (refine zap rfl ?_; first | refine zad rfl (fun hF Γ w h1 h2 => e2 hF Γ w (fun p hp => h1 p (by simp [hp])) h2) (e3 _ (by omega)) ?_ | refine reg_buildSlice rfl rfl rfl rfl rfl rfl (fun nb3 => ?_) | refine zan rfl ?_ | refine zan rfl ?_ | refine zab 1 rfl rfl rfl ?_ | refine zce rfl ?_ | (refine zai [2, 0] (hfr _).owned rfl rfl rfl (fun p hp => by simp [hp]) ?_; rintro v Γ ⟨_, ⟨rfl, rfl⟩, rfl⟩) | refine zce rfl ?_ | refine zao rfl ?_ | refine zbf rfl rfl (by omega) ?_ | refine zbg rfl rfl (by omega) ?_ | refine zau rfl rfl (by omega) ?_ | refine zae 1 rfl rfl rfl rfl rfl rfl rfl ?_ | refine zas rfl rfl (by omega) ?_ | refine zar (fun nb => ?_)) | refine zch ?_ | refine zci rfl ?_ | refine zcj rfl ?_)
      refine run_take [0] rfl ?_
      exact cut_end ⟨rfl, j + 1, ⟨rfl, rfl, rfl, rfl, int_eq (by omega), trivial⟩, ⟨rfl, by omega, q2⟩, by omega⟩
    · rw [if_pos h0] at q2
      rw [if_neg h0] at hfr
      repeat' (first | refine zck ?_ | refine zcp (by kernel_rfl) ?_ | refine zcm ?_ | refine zcl ?_ | (refine zap rfl ?_; first | refine zad rfl (fun hF Γ w h1 h2 => e2 hF Γ w (fun p hp => h1 p (by simp [hp])) h2) (e3 _ (by omega)) ?_ | refine reg_buildSlice rfl rfl rfl rfl rfl rfl (fun nb3 => ?_) | refine zan rfl ?_ | refine zan rfl ?_ | refine zab 1 rfl rfl rfl ?_ | refine zce rfl ?_ | (refine zai [2, 0] (hfr _).owned rfl rfl rfl (fun p hp => by simp [hp]) ?_; rintro v Γ ⟨_, ⟨rfl, rfl⟩, rfl⟩) | refine zce rfl ?_ | refine zao rfl ?_ | refine zbe rfl rfl (by omega) ?_ | refine zbg rfl rfl (by omega) ?_ | refine zae 1 rfl rfl rfl rfl rfl rfl rfl ?_ | refine zas rfl rfl (by omega) ?_ | refine zar (fun nb => ?_)) | refine zch ?_ | refine zci rfl ?_)
      refine run_take [] rfl ?_
      rw [← q2, if_pos h0] at hw
      exact qret1 (fun _ _ h => h) rfl ⟨by rw [hw]; rfl, rfl⟩
  · rw [List.drop_of_length_le (by omega)] at q2
    have q2 : wrongD [] p.stores = 0 := q2.symm
    rw [q2, if_neg (by decide)] at hw
    repeat' (first | refine zck ?_ | refine zcp (by kernel_rfl) ?_ | (refine zap rfl ?_; first | refine zbh rfl rfl (by omega) ?_) | refine zch ?_ | refine zcj rfl ?_)
    refine cut_exit rfl rfl ?_
    refine run_take [] rfl ?_
    repeat' (first | refine zck ?_ | refine zcp (by kernel_rfl) ?_ | refine zcl ?_ | (refine zap rfl ?_; first | refine zan rfl ?_ | refine zan rfl ?_ | refine zaa 0 rfl rfl rfl ?_ | refine zce rfl ?_ | refine zao rfl ?_ | refine zcc (fun nb => ?_)) | refine zch ?_)
    obtain ⟨m2, hm2⟩ : ∃ b, b = nb := ⟨_, rfl⟩
    subst hm2
    refine run_exch 0 (MapS m2 (metM [])) rfl (mapS_make m2) rfl ?_
    refine run_loop (S := Nat) (fun j => [(3, .map (some m2)), (41, .slice a2 p.opers.length c2), (42, .int .i64 p.opers.length), (43, .int .i64 j)])
      (fun j Γ => Γ = [MapS m2 (metM ((p.opers.take j).map (·.name)))] ∧ j ≤ p.opers.length ∧ wrongOs ((p.opers.take j).map (·.name)) (p.opers.drop j) = wrongOs [] p.opers) (fun j => p.opers.length - j) 0
      ⟨rfl, rfl, rfl, rfl, trivial⟩ ⟨rfl, by omega, rfl⟩ ?_
    rintro j Γ junk ⟨rfl, q1, q2⟩
    by_cases hj : j < p.opers.length
    · obtain ⟨x, hx⟩ : ∃ x, p.opers[j]? = some x := ⟨_, List.getElem?_eq_getElem hj⟩
      obtain ⟨b, off, cc, T, fr, cs, rfl, e2, e3, ⟨vp, vb, rfl, r1, r2⟩, _⟩ := h2.at hx
      obtain ⟨a3, c3, hvp, _⟩ := id r1
      obtain ⟨a4, c4, hvb, _⟩ := r2.len
      subst hvp; subst hvb
      rw [wrongOs_drop hx] at q2
      have ht : (p.opers.take (j + 1)).map (·.name) = (p.opers.take j).map (·.name) ++ [x.name] := by rw [take_snoc hx, List.map_append]; rfl
      have hfr := operWrong_spec w0 hk sh m2 ((p.opers.take j).map (·.name)) x _ _ r1 r2 (hs3 x (List.mem_iff_getElem?.2 ⟨_, hx⟩)).1
      by_cases h0 : wrongO ((p.opers.take j).map (·.name)) x = 0
      · rw [if_neg (by omega), ← ht] at q2
        rw [h0, ← ht] at hfr
        repeat' (first | refine zck ?_ | refine zcp (by kernel_rfl) ?_ | refine zcm ?_ | refine zcl ?_ | refine zcn ?_ | (refine zap rfl ?_; first | refine zad rfl (fun hF Γ w h1 h2 => e2 hF Γ w (fun p hp => h1 p (by simp [hp])) h2) (e3 _ (by omega)) ?_ | refine zan rfl ?_ | refine zan rfl ?_ | refine zab 1 rfl rfl rfl ?_ | refine zce rfl ?_ | (refine zai [0] hfr rfl rfl rfl (fun p hp => by simp [hp]) ?_; rintro v Γ ⟨rfl, met', rfl, hm⟩; obtain rfl := hm rfl) | refine zce rfl ?_ | refine zbf rfl rfl (by omega) ?_ | refine zbg rfl rfl (by omega) ?_ | refine zau rfl rfl (by omega) ?_ | refine zae 1 rfl rfl rfl rfl rfl rfl rfl ?_ | refine zas rfl rfl (by omega) ?_ | refine zar (fun nb => ?_)) | refine zch ?_ | refine zci rfl ?_ | refine zcj rfl ?_)
        refine run_take [0] rfl ?_
        exact cut_end ⟨rfl, j + 1, ⟨rfl, rfl, rfl, int_eq (by omega), trivial⟩, ⟨rfl, by omega, q2⟩, by omega⟩
      · rw [if_pos h0] at q2
        repeat' (first | refine zck ?_ | refine zcp (by kernel_rfl) ?_ | refine zcm ?_ | refine zcl ?_ | (refine zap rfl ?_; first | refine zad rfl (fun hF Γ w h1 h2 => e2 hF Γ w (fun p hp => h1 p (by simp [hp])) h2) (e3 _ (by omega)) ?_ | refine zan rfl ?_ | refine zan rfl ?_ | refine zab 1 rfl rfl rfl ?_ | refine zce rfl ?_ | (refine zai [0] hfr rfl rfl rfl (fun p hp => by simp [hp]) ?_; rintro v Γ ⟨rfl, met', rfl, hm⟩) | refine zce rfl ?_ | refine zbe rfl rfl (by omega) ?_ | refine zbg rfl rfl (by omega) ?_ | refine zae 1 rfl rfl rfl rfl rfl rfl rfl ?_ | refine zas rfl rfl (by omega) ?_ | refine zar (fun nb => ?_)) | refine zch ?_ | refine zci rfl ?_)
        refine run_take [] rfl ?_
        rw [← q2] at hw
        exact qret1 (fun _ _ h => h) rfl ⟨by rw [hw]; rfl, rfl⟩
    · rw [List.drop_of_length_le (by omega)] at q2
      repeat' (first | refine zck ?_ | refine zcp (by kernel_rfl) ?_ | (refine zap rfl ?_; first | refine zbh rfl rfl (by omega) ?_) | refine zch ?_ | refine zcj rfl ?_)
      refine cut_exit rfl rfl ?_
      repeat' (first | refine zck ?_ | refine zcp (by kernel_rfl) ?_ | (refine zap rfl ?_; first | refine zan rfl ?_) | refine zch ?_)
      refine run_take [] rfl ?_
      rw [← q2] at hw
      exact ret_tmp1 rfl ⟨by rw [hw]; rfl, rfl⟩
end Go.Proofs.YtijbnjaackhlcaaGreatDoor

