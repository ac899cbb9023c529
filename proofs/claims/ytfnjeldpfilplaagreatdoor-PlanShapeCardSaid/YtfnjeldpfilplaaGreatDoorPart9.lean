import Derived.Test.YtfnjeldpfilplaaGreatDoorPart8
import Derived.Test.YtfnjeldpfilplaaGreatDoorPart7
import Derived.Test.YtfnjeldpfilplaaGreatDoorKit
import Derived.Test.YtfnjeldpfilplaaGreatDoorPart4
/- Lemmas and walks for the claims of this seat (own work): Yp4 Yp5 Pp1 Eo2 Eo3 Gt0 Gt1. -/
namespace Go.Proofs.YtfnjeldpfilplaaGreatDoor
open Go.Vc Sim
theorem has2_spec (w0 : World) (k : Int) : FnE PP w0 [] 71 [.int .i64 k] [] (.bool (hasEx k)) [] := by
  by_cases h4 : k = 4
  · subst h4
    refine fn_of_run en71 fn71 rfl rfl rfl ?_
    repeat' (first | refine zck ?_ | refine zcp (by kernel_rfl) ?_ | (refine zap rfl ?_; first | refine zak rfl ?_ | refine zan rfl ?_ | refine zan rfl ?_ | refine zbf rfl rfl (by omega) ?_ | refine zbv rfl ?_) | refine zch ?_)
    exact ret_tmp1 rfl ⟨rfl, rfl⟩
  · by_cases h6 : k = 6
    · subst h6
      refine fn_of_run en71 fn71 rfl rfl rfl ?_
      repeat' (first | refine zck ?_ | refine zcp (by kernel_rfl) ?_ | (refine zap rfl ?_; first | refine zaj rfl ?_ | refine zan rfl ?_ | refine zan rfl ?_ | refine zbe rfl rfl (by omega) ?_ | refine zbf rfl rfl (by omega) ?_ | refine zbu rfl ?_) | refine zch ?_)
      exact ret_tmp1 rfl ⟨rfl, rfl⟩
    · have hh : hasEx k = true := by unfold hasEx; simp [h4, h6]
      rw [hh]
      refine fn_of_run en71 fn71 rfl rfl rfl ?_
      repeat' (first | refine zck ?_ | refine zcp (by kernel_rfl) ?_ | (refine zap rfl ?_; first | refine zaj rfl ?_ | refine zan rfl ?_ | refine zan rfl ?_ | refine zbe rfl rfl (by omega) ?_ | refine zbu rfl ?_) | refine zch ?_)
      exact ret_tmp1 rfl ⟨rfl, rfl⟩
set_option maxHeartbeats 8000000 in
theorem one_spec (w0 : World) (sh : Shared) (sb mv ms ma : Nat) (a : Option Addr) (c : Nat) (ks : List (ByteArray × ByteArray)) (all there : TV) (s : PS) (va vo vb ve : Value) (hsp : RdSp w0 sh s va vo vb ve) (hsz : s.size ≤ 100000) (hks : RdM w0 sh ms (kS ks)) (hst : TySt all there) (hb : there.length ≤ 100000) :
    Vc.Fn PP w0 sh 55 [.pointer (some ⟨sb, 0, none⟩), .agg (List.toArray (psC s va vo vb ve))] (ScA sb mv ms ma a c all there)
      (fun v Γ => v = .int .i64 (oneT (lookK ks) all there s).2.2 ∧ ∃ a' c', Γ = ScA sb mv ms ma a' c' (oneT (lookK ks) all there s).1 (oneT (lookK ks) all there s).2.1) := by
  have hhas := has2_spec w0 s.kind
  obtain ⟨a1, c1, hva, _⟩ := hsp.a.len
  obtain ⟨a2, c2, hvo, _⟩ := hsp.o.len
  obtain ⟨a3, c3, hvb, _⟩ := hsp.b.len
  obtain ⟨a4, c4, hve, _⟩ := hsp.e.len
  subst hva; subst hvo; subst hvb; subst hve
  cases hx : hasEx s.kind with
  | false =>
    have hk : s.kind = 4 ∨ s.kind = 6 := by
      unfold hasEx at hx
      simp at hx
      omega
    have hone : oneT (lookK ks) all there s = (all, there, 0) := by
      unfold oneT exT
      simp only [hx, Bool.false_eq_true, if_false, ne_eq, not_true_eq_false]
      rw [if_neg (by omega), if_neg (by omega), if_neg (by omega)]
    rw [hone]
    rw [hx] at hhas
    refine fn_of_run en55 fn55 rfl rfl rfl ?_
    repeat (first | refine zck ?_ | refine zcl ?_ | refine zcm ?_ | refine zcn ?_)
    first | refine zcp (by kernel_rfl) ?_ | refine zcq PP_mixed (by kernel_rfl) (by kernel_rfl) ?_
    repeat' (refine zap rfl ?_; first | refine zaq (cs := [_, _, _, _, _, _, _, _, _, _, _]) rfl (fun tx => ?_) | refine zan rfl ?_)
    all_goals refine zch ?_
    all_goals repeat (first | refine zck ?_ | refine zcl ?_ | refine zcm ?_ | refine zcn ?_)
    refine run_share [4] rfl ?_
    repeat (first | refine zck ?_ | refine zcl ?_ | refine zcm ?_ | refine zcn ?_)
    first | refine zcp (by kernel_rfl) ?_ | refine zcq PP_mixed (by kernel_rfl) (by kernel_rfl) ?_
    repeat' (refine zap rfl ?_; first | refine zaa 0 rfl rfl rfl ?_ | refine zah [] hhas rfl rfl rfl sub_nil rfl ?_ | refine zao rfl ?_ | refine zbx rfl ?_)
    all_goals refine zch ?_
    all_goals repeat (first | refine zck ?_ | refine zcl ?_ | refine zcm ?_ | refine zcn ?_)
    refine zci rfl ?_
    repeat (first | refine zck ?_ | refine zcl ?_ | refine zcm ?_ | refine zcn ?_)
    first | refine zcp (by kernel_rfl) ?_ | refine zcq PP_mixed (by kernel_rfl) (by kernel_rfl) ?_
    repeat' (refine zap rfl ?_; first | refine zan rfl ?_)
    all_goals refine zch ?_
    all_goals repeat (first | refine zck ?_ | refine zcl ?_ | refine zcm ?_ | refine zcn ?_)
    exact ret_tmp1 rfl ⟨rfl, a, c, rfl⟩
  | true =>
  rw [hx] at hhas
  have hE : envM there ks = envT (lookK ks) there := envM_T hst.ndT
  have hzx := s.size_expr
  have hOf : Vc.Fn PP w0 sh 72 [.agg (List.toArray (peC s.expr.kind s.expr.num s.expr.name s.expr.meth (.slice a1 s.expr.args.length c1) (.slice a2 s.expr.or.length c2))), .map (some mv), .map (some ms)] [MapB mv (tvS there)]
      (fun v Γ => v = resT (typeOf (envT (lookK ks) there) s.expr) ∧ Γ = [MapB mv (tvS there)]) := by
    refine (Fn.lendB (r := mv) (ml := tvS there) en72 (fun sh' h1 h2 => typesOf_spec w0 sh' mv ms there ks s.expr _ _ (by omega) ⟨h2, hks.mono h1⟩ (hsp.a.mono h1) (hsp.o.mono h1))).mono ?_
    rintro v Γ ⟨_, ⟨rfl, rfl⟩, rfl⟩
    rw [hE]
    exact ⟨rfl, rfl⟩
  have hex : exT (lookK ks) there s = typeOf (envT (lookK ks) there) s.expr := by unfold exT; rw [if_pos hx]
  have hok := typeOf_ok (envT (lookK ks) there) s.expr
  obtain ⟨O, hO⟩ : ∃ O, oneT (lookK ks) all there s = O := ⟨_, rfl⟩
  rw [hO]
  unfold oneT at hO
  rw [hex] at hO
  generalize typeOf (envT (lookK ks) there) s.expr = T at *
  obtain ⟨tt, ec⟩ := T
  dsimp only at hO hok hOf
  refine fn_of_run en55 fn55 rfl rfl rfl ?_
  repeat (first | refine zck ?_ | refine zcl ?_ | refine zcm ?_ | refine zcn ?_)
  first | refine zcp (by kernel_rfl) ?_ | refine zcq PP_mixed (by kernel_rfl) (by kernel_rfl) ?_
  repeat' (refine zap rfl ?_; first | refine zaq (cs := [_, _, _, _, _, _, _, _, _, _, _]) rfl (fun tx => ?_) | refine zan rfl ?_)
  all_goals refine zch ?_
  all_goals repeat (first | refine zck ?_ | refine zcl ?_ | refine zcm ?_ | refine zcn ?_)
  refine run_share [4] rfl ?_
  repeat (first | refine zck ?_ | refine zcl ?_ | refine zcm ?_ | refine zcn ?_)
  first | refine zcp (by kernel_rfl) ?_ | refine zcq PP_mixed (by kernel_rfl) (by kernel_rfl) ?_
  repeat' (refine zap rfl ?_; first | refine zaa 0 rfl rfl rfl ?_ | refine zah [] hhas rfl rfl rfl sub_nil rfl ?_ | refine zao rfl ?_ | refine zbx rfl ?_)
  all_goals refine zch ?_
  all_goals repeat (first | refine zck ?_ | refine zcl ?_ | refine zcm ?_ | refine zcn ?_)
  refine zcj rfl ?_
  repeat (first | refine zck ?_ | refine zcl ?_ | refine zcm ?_ | refine zcn ?_)
  first | refine zcp (by kernel_rfl) ?_ | refine zcr [(.quiet, 0), (.read, 1), (.quiet, 2), (.quiet, 3), (.quiet, 4), (.quiet, 5), (.read, 6), (.quiet, 7), (.quiet, 8), (.quiet, 9), (.quiet, 10), (.read, 11), (.loud, 12), (.quiet, 13), (.quiet, 14), (.quiet, 15), (.quiet, 16), (.quiet, 17)] PP_mixed (by kernel_rfl) (by kernel_rfl) ?_ | refine run_drawR PP_mixed (by kernel_rfl) (by kernel_rfl) ?_
  repeat' (refine zap rfl ?_; first | refine zan rfl ?_ | refine zan rfl ?_ | refine zaa 0 rfl rfl rfl ?_ | refine zab 0 rfl rfl rfl ?_ | (refine zai [1] hOf rfl rfl rfl (fun p hp => .tail _ hp) ?_; rintro v Γ ⟨rfl, rfl⟩) | refine zao rfl ?_ | refine zan rfl ?_ | refine zan rfl ?_)
  all_goals refine zch ?_
  all_goals repeat (first | refine zck ?_ | refine zcl ?_ | refine zcm ?_ | refine zcn ?_)
  refine run_take [1, 0, 0, 0] rfl ?_
  by_cases hec : ec = 0
  rotate_left
  · rw [if_pos hec] at hO
    subst hO
    repeat (first | refine zck ?_ | refine zcl ?_ | refine zcm ?_ | refine zcn ?_)
    first | refine zcp (by kernel_rfl) ?_ | refine zcq PP_mixed (by kernel_rfl) (by kernel_rfl) ?_
    repeat' (refine zap rfl ?_; first | refine zan rfl ?_ | refine zbe rfl rfl (by omega) ?_)
    all_goals refine zch ?_
    all_goals repeat (first | refine zck ?_ | refine zcl ?_ | refine zcm ?_ | refine zcn ?_)
    refine zci rfl ?_
    repeat (first | refine zck ?_ | refine zcl ?_ | refine zcm ?_ | refine zcn ?_)
    first | refine zcp (by kernel_rfl) ?_ | refine zcq PP_mixed (by kernel_rfl) (by kernel_rfl) ?_
    repeat' (refine zap rfl ?_; first | refine zan rfl ?_ | refine zan rfl ?_)
    all_goals refine zch ?_
    all_goals repeat (first | refine zck ?_ | refine zcl ?_ | refine zcm ?_ | refine zcn ?_)
    exact ret_tmp1 rfl ⟨rfl, a, c, rfl⟩
  rw [if_neg (fun q => q hec)] at hO
  repeat (first | refine zck ?_ | refine zcl ?_ | refine zcm ?_ | refine zcn ?_)
  first | refine zcp (by kernel_rfl) ?_ | refine zcq PP_mixed (by kernel_rfl) (by kernel_rfl) ?_
  repeat' (refine zap rfl ?_; first | refine zan rfl ?_ | refine zbf rfl rfl (by omega) ?_)
  all_goals refine zch ?_
  all_goals repeat (first | refine zck ?_ | refine zcl ?_ | refine zcm ?_ | refine zcn ?_)
  refine zcj rfl ?_
  repeat (first | refine zck ?_ | refine zcl ?_ | refine zcm ?_ | refine zcn ?_)
  first | refine zcp (by kernel_rfl) ?_ | refine zcq PP_mixed (by kernel_rfl) (by kernel_rfl) ?_
  repeat' (refine zap rfl ?_; first | refine zaa 0 rfl rfl rfl ?_ | refine zao rfl ?_)
  all_goals refine zch ?_
  all_goals repeat (first | refine zck ?_ | refine zcl ?_ | refine zcm ?_ | refine zcn ?_)
  have hwT := wrong_spec w0 true
  have hwF := wrong_spec w0 false
  by_cases h0 : s.kind = 0
  · rw [if_pos h0] at hO
    repeat (first | refine zck ?_ | refine zcl ?_ | refine zcm ?_ | refine zcn ?_)
    first | refine zcp (by kernel_rfl) ?_ | refine zcq PP_mixed (by kernel_rfl) (by kernel_rfl) ?_
    repeat' (refine zap rfl ?_; first | refine zan rfl ?_ | refine zbc rfl rfl (by omega) ?_)
    all_goals refine zch ?_
    all_goals repeat (first | refine zck ?_ | refine zcl ?_ | refine zcm ?_ | refine zcn ?_)
    refine zci rfl ?_
    by_cases hty : typT all s.name = 0
    · rw [if_neg (fun q => q hty)] at hO
      subst hO
      have hn1 := (typT_zero hst.okA s.name).1 hty
      have hn2 : s.name ∉ there.map (·.1) := fun hm => by
        obtain ⟨v, hv, e⟩ := List.mem_map.1 hm
        exact hn1 (List.mem_map.2 ⟨v, hst.sub v hv, e⟩)
      have hadd := add_spec w0 sb mv ms ma a c all there s.name tt hn1 hn2 (by omega)
      repeat (first | refine zck ?_ | refine zcl ?_ | refine zcm ?_ | refine zcn ?_)
      first | refine zcp (by kernel_rfl) ?_ | refine zcr [(.quiet, 0), (.quiet, 1), (.quiet, 2), (.read, 3), (.quiet, 4), (.read, 5), (.loud, 6), (.quiet, 7), (.quiet, 8), (.quiet, 9), (.quiet, 10), (.quiet, 11)] PP_mixed (by kernel_rfl) (by kernel_rfl) ?_ | refine run_drawR PP_mixed (by kernel_rfl) (by kernel_rfl) ?_
      repeat' (refine zap rfl ?_; first | refine reg_lookupB 2 (v := .tuple #[.int .i64 0, .bool false]) rfl rfl rfl (by rw [lookV_S, lookV_none hn1]; rfl) ?_ | refine zan rfl ?_ | refine zan rfl ?_ | refine zaa 0 rfl rfl rfl ?_ | refine zab 0 rfl rfl rfl ?_ | refine zao rfl ?_ | refine zan rfl ?_ | refine zan rfl ?_)
      all_goals refine zch ?_
      all_goals repeat (first | refine zck ?_ | refine zcl ?_ | refine zcm ?_ | refine zcn ?_)
      repeat (first | refine zck ?_ | refine zcl ?_ | refine zcm ?_ | refine zcn ?_)
      first | refine zcp (by kernel_rfl) ?_ | refine zcq PP_mixed (by kernel_rfl) (by kernel_rfl) ?_
      repeat' (refine zap rfl ?_; first | refine zan rfl ?_)
      all_goals refine zch ?_
      all_goals repeat (first | refine zck ?_ | refine zcl ?_ | refine zcm ?_ | refine zcn ?_)
      refine zcj rfl ?_
      repeat (first | refine zck ?_ | refine zcl ?_ | refine zcm ?_ | refine zcn ?_)
      first | refine zcp (by kernel_rfl) ?_ | refine zcq PP_mixed (by kernel_rfl) (by kernel_rfl) ?_
      repeat' (refine zap rfl ?_; first | refine zan rfl ?_ | refine zaa 0 rfl rfl rfl ?_ | (refine zai [0, 0, 0, 0] hadd rfl rfl rfl sub_nil ?_; rintro v Γ ⟨rfl, a', c', rfl⟩) | refine zao rfl ?_)
      all_goals refine zch ?_
      all_goals repeat (first | refine zck ?_ | refine zcl ?_ | refine zcm ?_ | refine zcn ?_)
      repeat' (first | refine zcp (by kernel_rfl) ?_ | (refine zap rfl ?_; first | refine zan rfl ?_) | refine zch ?_)
      exact ret_tmp1 rfl ⟨rfl, a', c', rfl⟩
    · rw [if_pos hty] at hO
      subst hO
      obtain ⟨T0, hT0⟩ : ∃ T0, lookV all s.name = some T0 := by
        cases hq : lookV all s.name with
        | none => exact absurd (by rw [show typT all s.name = lastT all s.name 0 from rfl, lookV_last hst.ndA, hq]; rfl) hty
        | some T0 => exact ⟨T0, rfl⟩
      repeat (first | refine zck ?_ | refine zcl ?_ | refine zcm ?_ | refine zcn ?_)
      first | refine zcp (by kernel_rfl) ?_ | refine zcr [(.quiet, 0), (.quiet, 1), (.quiet, 2), (.read, 3), (.quiet, 4), (.read, 5), (.loud, 6), (.quiet, 7), (.quiet, 8), (.quiet, 9), (.quiet, 10), (.quiet, 11)] PP_mixed (by kernel_rfl) (by kernel_rfl) ?_ | refine run_drawR PP_mixed (by kernel_rfl) (by kernel_rfl) ?_
      repeat' (refine zap rfl ?_; first | refine reg_lookupB 2 (v := .tuple #[.int .i64 T0, .bool true]) rfl rfl rfl (by rw [lookV_S, hT0]; rfl) ?_ | refine zan rfl ?_ | refine zan rfl ?_ | refine zaa 0 rfl rfl rfl ?_ | refine zab 0 rfl rfl rfl ?_ | refine zao rfl ?_ | refine zan rfl ?_ | refine zan rfl ?_)
      all_goals refine zch ?_
      all_goals repeat (first | refine zck ?_ | refine zcl ?_ | refine zcm ?_ | refine zcn ?_)
      repeat (first | refine zck ?_ | refine zcl ?_ | refine zcm ?_ | refine zcn ?_)
      first | refine zcp (by kernel_rfl) ?_ | refine zcq PP_mixed (by kernel_rfl) (by kernel_rfl) ?_
      repeat' (refine zap rfl ?_; first | refine zan rfl ?_)
      all_goals refine zch ?_
      all_goals repeat (first | refine zck ?_ | refine zcl ?_ | refine zcm ?_ | refine zcn ?_)
      refine zci rfl ?_
      repeat (first | refine zck ?_ | refine zcl ?_ | refine zcm ?_ | refine zcn ?_)
      first | refine zcp (by kernel_rfl) ?_ | refine zcq PP_mixed (by kernel_rfl) (by kernel_rfl) ?_
      repeat' (refine zap rfl ?_; first | refine zan rfl ?_)
      all_goals refine zch ?_
      all_goals repeat (first | refine zck ?_ | refine zcl ?_ | refine zcm ?_ | refine zcn ?_)
      exact ret_tmp1 rfl ⟨rfl, a, c, rfl⟩
  rw [if_neg h0] at hO
  repeat (first | refine zck ?_ | refine zcl ?_ | refine zcm ?_ | refine zcn ?_)
  first | refine zcp (by kernel_rfl) ?_ | refine zcq PP_mixed (by kernel_rfl) (by kernel_rfl) ?_
  repeat' (refine zap rfl ?_; first | refine zan rfl ?_ | refine zbd rfl rfl (by omega) ?_)
  all_goals refine zch ?_
  all_goals repeat (first | refine zck ?_ | refine zcl ?_ | refine zcm ?_ | refine zcn ?_)
  refine zcj rfl ?_
  by_cases h1 : s.kind = 1
  · have hvt : (lookS (tvS there) s.name).getD (.int .i64 0) = .int .i64 (typT there s.name) := by
      rw [lookV_get, show typT there s.name = lastT there s.name 0 from rfl, lookV_last hst.ndT]
    repeat (first | refine zck ?_ | refine zcl ?_ | refine zcm ?_ | refine zcn ?_)
    first | refine zcp (by kernel_rfl) ?_ | refine zcq PP_mixed (by kernel_rfl) (by kernel_rfl) ?_
    repeat' (refine zap rfl ?_; first | refine zan rfl ?_ | refine zbc rfl rfl (by omega) ?_)
    all_goals refine zch ?_
    all_goals repeat (first | refine zck ?_ | refine zcl ?_ | refine zcm ?_ | refine zcn ?_)
    refine zci rfl ?_
    by_cases hty : typT there s.name = 0
    · rw [if_pos ⟨h1, hty⟩] at hO
      subst hO
      repeat (first | refine zck ?_ | refine zcl ?_ | refine zcm ?_ | refine zcn ?_)
      first | refine zcp (by kernel_rfl) ?_ | refine zcr [(.quiet, 0), (.quiet, 1), (.quiet, 2), (.quiet, 3), (.read, 4), (.quiet, 5), (.read, 6), (.loud, 7), (.quiet, 8)] PP_mixed (by kernel_rfl) (by kernel_rfl) ?_ | refine run_drawR PP_mixed (by kernel_rfl) (by kernel_rfl) ?_
      repeat' (refine zap rfl ?_; first | refine reg_lookupB 1 (v := .int .i64 (typT there s.name)) rfl rfl rfl hvt ?_ | refine zan rfl ?_ | refine zaa 0 rfl rfl rfl ?_ | refine zab 0 rfl rfl rfl ?_ | refine zao rfl ?_ | refine zbc rfl rfl (by omega) ?_ | refine zan rfl ?_)
      all_goals refine zch ?_
      all_goals repeat (first | refine zck ?_ | refine zcl ?_ | refine zcm ?_ | refine zcn ?_)
      refine zci rfl ?_
      repeat (first | refine zck ?_ | refine zcl ?_ | refine zcm ?_ | refine zcn ?_)
      first | refine zcp (by kernel_rfl) ?_ | refine zcq PP_mixed (by kernel_rfl) (by kernel_rfl) ?_
      repeat' (refine zap rfl ?_; first | refine zan rfl ?_)
      all_goals refine zch ?_
      all_goals repeat (first | refine zck ?_ | refine zcl ?_ | refine zcm ?_ | refine zcn ?_)
      exact ret_tmp1 rfl ⟨rfl, a, c, rfl⟩
    rw [if_neg (fun q => hty q.2)] at hO
    repeat (first | refine zck ?_ | refine zcl ?_ | refine zcm ?_ | refine zcn ?_)
    first | refine zcp (by kernel_rfl) ?_ | refine zcr [(.quiet, 0), (.quiet, 1), (.quiet, 2), (.quiet, 3), (.read, 4), (.quiet, 5), (.read, 6), (.loud, 7), (.quiet, 8)] PP_mixed (by kernel_rfl) (by kernel_rfl) ?_ | refine run_drawR PP_mixed (by kernel_rfl) (by kernel_rfl) ?_
    repeat' (refine zap rfl ?_; first | refine reg_lookupB 1 (v := .int .i64 (typT there s.name)) rfl rfl rfl hvt ?_ | refine zan rfl ?_ | refine zaa 0 rfl rfl rfl ?_ | refine zab 0 rfl rfl rfl ?_ | refine zao rfl ?_ | refine zbd rfl rfl (by omega) ?_ | refine zan rfl ?_)
    all_goals refine zch ?_
    all_goals repeat (first | refine zck ?_ | refine zcl ?_ | refine zcm ?_ | refine zcn ?_)
    refine zcj rfl ?_
    by_cases hne : typT there s.name = tt
    · rw [if_neg (by rintro (⟨_, q⟩ | ⟨q, _⟩ | ⟨q, _⟩); exact q hne; omega; omega)] at hO
      subst hO
      repeat (first | refine zck ?_ | refine zcl ?_ | refine zcm ?_ | refine zcn ?_)
      first | refine zcp (by kernel_rfl) ?_ | refine zcr [(.quiet, 0), (.quiet, 1), (.quiet, 2), (.quiet, 3), (.read, 4), (.quiet, 5), (.read, 6), (.loud, 7), (.quiet, 8), (.quiet, 9), (.loud, 10), (.quiet, 11)] PP_mixed (by kernel_rfl) (by kernel_rfl) ?_ | refine run_drawR PP_mixed (by kernel_rfl) (by kernel_rfl) ?_
      repeat' (refine zap rfl ?_; first | refine reg_lookupB 1 (v := .int .i64 (typT there s.name)) rfl rfl rfl hvt ?_ | refine zan rfl ?_ | refine zan rfl ?_ | refine zaa 0 rfl rfl rfl ?_ | refine zab 0 rfl rfl rfl ?_ | refine zah [] hwF rfl rfl rfl sub_nil rfl ?_ | refine zao rfl ?_ | refine zbf rfl rfl (by omega) ?_ | refine zan rfl ?_)
      all_goals refine zch ?_
      all_goals repeat (first | refine zck ?_ | refine zcl ?_ | refine zcm ?_ | refine zcn ?_)
      exact ret_tmp1 rfl ⟨rfl, a, c, rfl⟩
    · rw [if_pos (.inl ⟨h1, hne⟩)] at hO
      subst hO
      repeat (first | refine zck ?_ | refine zcl ?_ | refine zcm ?_ | refine zcn ?_)
      first | refine zcp (by kernel_rfl) ?_ | refine zcr [(.quiet, 0), (.quiet, 1), (.quiet, 2), (.quiet, 3), (.read, 4), (.quiet, 5), (.read, 6), (.loud, 7), (.quiet, 8), (.quiet, 9), (.loud, 10), (.quiet, 11)] PP_mixed (by kernel_rfl) (by kernel_rfl) ?_ | refine run_drawR PP_mixed (by kernel_rfl) (by kernel_rfl) ?_
      repeat' (refine zap rfl ?_; first | refine reg_lookupB 1 (v := .int .i64 (typT there s.name)) rfl rfl rfl hvt ?_ | refine zan rfl ?_ | refine zan rfl ?_ | refine zaa 0 rfl rfl rfl ?_ | refine zab 0 rfl rfl rfl ?_ | refine zah [] hwT rfl rfl rfl sub_nil rfl ?_ | refine zao rfl ?_ | refine zbe rfl rfl (by omega) ?_ | refine zan rfl ?_)
      all_goals refine zch ?_
      all_goals repeat (first | refine zck ?_ | refine zcl ?_ | refine zcm ?_ | refine zcn ?_)
      exact ret_tmp1 rfl ⟨rfl, a, c, rfl⟩
  rw [if_neg (fun q => h1 q.1)] at hO
  repeat (first | refine zck ?_ | refine zcl ?_ | refine zcm ?_ | refine zcn ?_)
  first | refine zcp (by kernel_rfl) ?_ | refine zcq PP_mixed (by kernel_rfl) (by kernel_rfl) ?_
  repeat' (refine zap rfl ?_; first | refine zan rfl ?_ | refine zbd rfl rfl (by omega) ?_)
  all_goals refine zch ?_
  all_goals repeat (first | refine zck ?_ | refine zcl ?_ | refine zcm ?_ | refine zcn ?_)
  refine zcj rfl ?_
  by_cases h3 : s.kind = 3
  · repeat (first | refine zck ?_ | refine zcl ?_ | refine zcm ?_ | refine zcn ?_)
    first | refine zcp (by kernel_rfl) ?_ | refine zcq PP_mixed (by kernel_rfl) (by kernel_rfl) ?_
    repeat' (refine zap rfl ?_; first | refine zan rfl ?_ | refine zbc rfl rfl (by omega) ?_)
    all_goals refine zch ?_
    all_goals repeat (first | refine zck ?_ | refine zcl ?_ | refine zcm ?_ | refine zcn ?_)
    refine zci rfl ?_
    by_cases hne : tt = 2
    · rw [if_neg (by rintro (⟨q, _⟩ | ⟨_, q⟩ | ⟨q, _⟩); omega; exact q hne; omega)] at hO
      subst hO
      repeat (first | refine zck ?_ | refine zcl ?_ | refine zcm ?_ | refine zcn ?_)
      first | refine zcp (by kernel_rfl) ?_ | refine zcq PP_mixed (by kernel_rfl) (by kernel_rfl) ?_
      repeat' (refine zap rfl ?_; first | refine zan rfl ?_ | refine zan rfl ?_ | refine zah [] hwF rfl rfl rfl sub_nil rfl ?_ | refine zbf rfl rfl (by omega) ?_)
      all_goals refine zch ?_
      all_goals repeat (first | refine zck ?_ | refine zcl ?_ | refine zcm ?_ | refine zcn ?_)
      exact ret_tmp1 rfl ⟨rfl, a, c, rfl⟩
    · rw [if_pos (.inr (.inl ⟨h3, hne⟩))] at hO
      subst hO
      repeat (first | refine zck ?_ | refine zcl ?_ | refine zcm ?_ | refine zcn ?_)
      first | refine zcp (by kernel_rfl) ?_ | refine zcq PP_mixed (by kernel_rfl) (by kernel_rfl) ?_
      repeat' (refine zap rfl ?_; first | refine zan rfl ?_ | refine zan rfl ?_ | refine zah [] hwT rfl rfl rfl sub_nil rfl ?_ | refine zbe rfl rfl (by omega) ?_)
      all_goals refine zch ?_
      all_goals repeat (first | refine zck ?_ | refine zcl ?_ | refine zcm ?_ | refine zcn ?_)
      exact ret_tmp1 rfl ⟨rfl, a, c, rfl⟩
  repeat (first | refine zck ?_ | refine zcl ?_ | refine zcm ?_ | refine zcn ?_)
  first | refine zcp (by kernel_rfl) ?_ | refine zcq PP_mixed (by kernel_rfl) (by kernel_rfl) ?_
  repeat' (refine zap rfl ?_; first | refine zan rfl ?_ | refine zbd rfl rfl (by omega) ?_)
  all_goals refine zch ?_
  all_goals repeat (first | refine zck ?_ | refine zcl ?_ | refine zcm ?_ | refine zcn ?_)
  refine zcj rfl ?_
  by_cases h5 : s.kind = 5
  · repeat (first | refine zck ?_ | refine zcl ?_ | refine zcm ?_ | refine zcn ?_)
    first | refine zcp (by kernel_rfl) ?_ | refine zcq PP_mixed (by kernel_rfl) (by kernel_rfl) ?_
    repeat' (refine zap rfl ?_; first | refine zan rfl ?_ | refine zbc rfl rfl (by omega) ?_)
    all_goals refine zch ?_
    all_goals repeat (first | refine zck ?_ | refine zcl ?_ | refine zcm ?_ | refine zcn ?_)
    refine zci rfl ?_
    by_cases hne : tt = 1
    · rw [if_neg (by rintro (⟨q, _⟩ | ⟨q, _⟩ | ⟨_, q⟩); omega; omega; exact q hne)] at hO
      subst hO
      repeat (first | refine zck ?_ | refine zcl ?_ | refine zcm ?_ | refine zcn ?_)
      first | refine zcp (by kernel_rfl) ?_ | refine zcq PP_mixed (by kernel_rfl) (by kernel_rfl) ?_
      repeat' (refine zap rfl ?_; first | refine zan rfl ?_ | refine zan rfl ?_ | refine zah [] hwF rfl rfl rfl sub_nil rfl ?_ | refine zbf rfl rfl (by omega) ?_)
      all_goals refine zch ?_
      all_goals repeat (first | refine zck ?_ | refine zcl ?_ | refine zcm ?_ | refine zcn ?_)
      exact ret_tmp1 rfl ⟨rfl, a, c, rfl⟩
    · rw [if_pos (.inr (.inr ⟨h5, hne⟩))] at hO
      subst hO
      repeat (first | refine zck ?_ | refine zcl ?_ | refine zcm ?_ | refine zcn ?_)
      first | refine zcp (by kernel_rfl) ?_ | refine zcq PP_mixed (by kernel_rfl) (by kernel_rfl) ?_
      repeat' (refine zap rfl ?_; first | refine zan rfl ?_ | refine zan rfl ?_ | refine zah [] hwT rfl rfl rfl sub_nil rfl ?_ | refine zbe rfl rfl (by omega) ?_)
      all_goals refine zch ?_
      all_goals repeat (first | refine zck ?_ | refine zcl ?_ | refine zcm ?_ | refine zcn ?_)
      exact ret_tmp1 rfl ⟨rfl, a, c, rfl⟩
  rw [if_neg (by rintro (⟨q, _⟩ | ⟨q, _⟩ | ⟨q, _⟩) <;> omega)] at hO
  subst hO
  repeat (first | refine zck ?_ | refine zcl ?_ | refine zcm ?_ | refine zcn ?_)
  first | refine zcp (by kernel_rfl) ?_ | refine zcq PP_mixed (by kernel_rfl) (by kernel_rfl) ?_
  repeat' (refine zap rfl ?_; first | refine zan rfl ?_ | refine zbd rfl rfl (by omega) ?_)
  all_goals refine zch ?_
  all_goals repeat (first | refine zck ?_ | refine zcl ?_ | refine zcm ?_ | refine zcn ?_)
  refine zcj rfl ?_
  repeat' (first | refine zck ?_ | refine zcp (by kernel_rfl) ?_ | refine zcm ?_ | refine zcn ?_ | (refine zap rfl ?_; first | refine zan rfl ?_) | refine zch ?_)
  exact ret_tmp1 rfl ⟨rfl, a, c, rfl⟩
set_option maxHeartbeats 8000000 in
theorem stmtsT_spec (w0 : World) (ks : List (ByteArray × ByteArray)) (sb mv ms ma : Nat) : ∀ (n : Nat), n ≤ 90000 → ∀ (sh : Shared) (a : Option Addr) (c : Nat) (all there : TV) (v : Value) (l : List PS), PS.sizeL l ≤ n → RdSt w0 sh v l → RdM w0 sh ms (kS ks) → TySt all there → there.length + PS.sizeL l ≤ 100000 →
    Vc.Fn PP w0 sh 42 [.pointer (some ⟨sb, 0, none⟩), v] (ScA sb mv ms ma a c all there)
      (fun r Γ => r = .int .i64 (tySs (lookK ks) l all there).2 ∧ ∃ a' c' all2 there2, Γ = ScA sb mv ms ma a' c' all2 there2 ∧ ((tySs (lookK ks) l all there).2 = 0 → all2 = (tySs (lookK ks) l all there).1 ∧ there2 = there)) := by
  intro n
  induction n using Nat.strongRecOn with
  | _ n ih =>
  intro hn sh a c all there v l hs hl hks hst hb
  have hlen := PS.sizeL_len l
  obtain ⟨a0, c0, rfl, hc0⟩ := hl.len
  obtain ⟨O, hO⟩ : ∃ O, tySs (lookK ks) l all there = O := ⟨_, rfl⟩
  rw [hO]
  refine fn_of_run en42 fn42 rfl rfl rfl ?_
  repeat (first | refine zck ?_ | refine zcl ?_ | refine zcm ?_ | refine zcn ?_)
  first | refine zcp (by kernel_rfl) ?_ | refine zcq PP_mixed (by kernel_rfl) (by kernel_rfl) ?_
  repeat' (refine zap rfl ?_; first | refine zan rfl ?_)
  all_goals refine zch ?_
  all_goals repeat (first | refine zck ?_ | refine zcl ?_ | refine zcm ?_ | refine zcn ?_)
  repeat (first | refine zck ?_ | refine zcl ?_ | refine zcm ?_ | refine zcn ?_)
  first | refine zcp (by kernel_rfl) ?_ | refine zcq PP_mixed (by kernel_rfl) (by kernel_rfl) ?_
  repeat' (refine zap rfl ?_; first | refine zan rfl ?_ | refine zan rfl ?_ | refine zab 0 rfl rfl rfl ?_ | refine zce rfl ?_ | refine zao rfl ?_ | refine zan rfl ?_)
  all_goals refine zch ?_
  all_goals repeat (first | refine zck ?_ | refine zcl ?_ | refine zcm ?_ | refine zcn ?_)
  repeat (first | refine zck ?_ | refine zcl ?_ | refine zcm ?_ | refine zcn ?_)
  first | refine zcp (by kernel_rfl) ?_ | refine zcq PP_mixed (by kernel_rfl) (by kernel_rfl) ?_
  repeat' (refine zap rfl ?_; first | refine zan rfl ?_ | refine zce rfl ?_)
  all_goals refine zch ?_
  all_goals repeat (first | refine zck ?_ | refine zcl ?_ | refine zcm ?_ | refine zcn ?_)
  refine run_loop (S := Nat × Option Addr × Nat × TV × TV) (fun s => [(0, .pointer (some ⟨sb, 0, none⟩)), (5, .int .i64 there.length), (16, .slice a0 l.length c0), (17, .int .i64 l.length), (18, .int .i64 (s.1 : Int))])
    (fun s Γ => Γ = ScA sb mv ms ma s.2.1 s.2.2.1 s.2.2.2.1 (there ++ s.2.2.2.2) ∧ s.1 ≤ l.length ∧ TySt s.2.2.2.1 (there ++ s.2.2.2.2) ∧ tySs (lookK ks) (l.drop s.1) s.2.2.2.1 (there ++ s.2.2.2.2) = O ∧ (there ++ s.2.2.2.2).length + PS.sizeL (l.drop s.1) ≤ 100000) (fun s => l.length - s.1) (0, a, c, all, [])
    ⟨rfl, rfl, rfl, rfl, rfl, trivial⟩ ⟨by dsimp only; rw [List.append_nil], Nat.zero_le _, by dsimp only; rw [List.append_nil]; exact hst, by dsimp only; rw [List.append_nil]; exact hO, by dsimp only; rw [List.append_nil]; exact hb⟩ ?_
  rintro ⟨j, a5, c5, A, m⟩ Γ junk ⟨rfl, g1, g2, g3, g4⟩
  dsimp only at g1 g2 g3 g4 ⊢
  by_cases hj : j < l.length
  rotate_left
  · rw [List.drop_of_length_le (by omega), tySs] at g3
    subst g3
    have hbk := back_spec w0 sb mv ms ma a5 c5 A there m g2.ndT (by omega)
    repeat (first | refine zck ?_ | refine zcl ?_ | refine zcm ?_ | refine zcn ?_)
    first | refine zcp (by kernel_rfl) ?_ | refine zcq PP_mixed (by kernel_rfl) (by kernel_rfl) ?_
    repeat' (refine zap rfl ?_; first | refine zbh rfl rfl (by omega) ?_)
    all_goals refine zch ?_
    all_goals repeat (first | refine zck ?_ | refine zcl ?_ | refine zcm ?_ | refine zcn ?_)
    refine zcj rfl ?_
    refine cut_exit rfl rfl ?_
    repeat (first | refine zck ?_ | refine zcl ?_ | refine zcm ?_ | refine zcn ?_)
    first | refine zcp (by kernel_rfl) ?_ | refine zcq PP_mixed (by kernel_rfl) (by kernel_rfl) ?_
    repeat' (refine zap rfl ?_; first | refine zan rfl ?_ | (refine zai [0, 0, 0, 0] hbk rfl rfl rfl sub_nil ?_; rintro v Γ ⟨rfl, a', c', rfl⟩))
    all_goals refine zch ?_
    all_goals repeat (first | refine zck ?_ | refine zcl ?_ | refine zcm ?_ | refine zcn ?_)
    repeat (first | refine zck ?_ | refine zcl ?_ | refine zcm ?_ | refine zcn ?_)
    first | refine zcp (by kernel_rfl) ?_ | refine zcq PP_mixed (by kernel_rfl) (by kernel_rfl) ?_
    repeat' (refine zap rfl ?_; first | refine zan rfl ?_)
    all_goals refine zch ?_
    all_goals repeat (first | refine zck ?_ | refine zcl ?_ | refine zcm ?_ | refine zcn ?_)
    exact ret_tmp1 rfl ⟨rfl, a', c', A, there, rfl, fun _ => ⟨rfl, rfl⟩⟩
  obtain ⟨x, hx⟩ : ∃ x, l[j]? = some x := ⟨_, List.getElem?_eq_getElem hj⟩
  obtain ⟨b, off, cc, T, fr, cs, rfl, e2, e3, e4, _⟩ := hl.at hx
  obtain ⟨va, vo, vb, ve, rfl, hsp⟩ := e4.sp
  have hsp0 := hsp
  obtain ⟨a1, c1, hva, _⟩ := hsp.a.len
  obtain ⟨a2, c2, hvo, _⟩ := hsp.o.len
  obtain ⟨a3, c3, hvb, _⟩ := hsp.b.len
  obtain ⟨a4, c4, hve, _⟩ := hsp.e.len
  subst hva; subst hvo; subst hvb; subst hve
  have hxm := List.mem_iff_getElem?.2 ⟨_, hx⟩
  have hxn := PS.sizeL_mem hxm
  have hsz : x.size = 1 + x.expr.size + PS.sizeL x.body + PS.sizeL x.els := by cases x; rfl
  have hd : l.drop j = x :: l.drop (j + 1) := by
    rw [List.drop_eq_getElem_cons hj]
    congr 1
    exact (List.getElem?_eq_some_iff.1 hx).2
  rw [hd, PS.sizeL] at g4
  rw [hd, tySs] at g3
  have hone := one_spec w0 sh sb mv ms ma a5 c5 ks A (there ++ m) x _ _ _ _ hsp0 (by omega) hks g2 (by omega)
  obtain ⟨m0, o1, o2, o3, o4⟩ := oneT_st (K := lookK ks) (s := x) g2
  obtain ⟨⟨A1, T1, k1⟩, hO1⟩ : ∃ O1, oneT (lookK ks) A (there ++ m) x = O1 := ⟨_, rfl⟩
  have htyS := tyS_eq (lookK ks) x A (there ++ m) A1 T1 k1 hO1
  rw [hO1] at o1 o2 hone
  dsimp only at o1 o2 hone
  subst o2
  have hlT : (there ++ m ++ m0).length ≤ (there ++ m).length + 1 := by simp only [List.length_append]; omega
  have o3' : TySt A1 (there ++ m ++ m0) := by rw [o1]; exact o3
  have kB := fun (a : Option Addr) (c : Nat) => ih (PS.sizeL x.body) (by omega) (by omega) sh a c A1 (there ++ m ++ m0) _ x.body (Nat.le_refl _) hsp0.b hks o3' (by omega)
  obtain ⟨m1, i1, i2⟩ := tySs_st (K := lookK ks) x.body o3'
  obtain ⟨⟨A2, k2⟩, hO2⟩ : ∃ O2, tySs (lookK ks) x.body A1 (there ++ m ++ m0) = O2 := ⟨_, rfl⟩
  rw [hO2] at htyS i1 kB
  dsimp only at htyS i1 kB
  have i2' : TySt A2 (there ++ m ++ m0) := by rw [i1]; exact i2
  have kE := fun (a : Option Addr) (c : Nat) => ih (PS.sizeL x.els) (by omega) (by omega) sh a c A2 (there ++ m ++ m0) _ x.els (Nat.le_refl _) hsp0.e hks i2' (by omega)
  obtain ⟨m2, j1, j2⟩ := tySs_st (K := lookK ks) x.els i2'
  obtain ⟨⟨A3, k3⟩, hO3⟩ : ∃ O3, tySs (lookK ks) x.els A2 (there ++ m ++ m0) = O3 := ⟨_, rfl⟩
  rw [hO3] at htyS j1 kE
  dsimp only at htyS j1 kE
  have j2' : TySt A3 (there ++ m ++ m0) := by rw [j1]; exact j2
  obtain ⟨SS, hSS⟩ : ∃ S, tyS (lookK ks) x A (there ++ m) = S := ⟨_, rfl⟩
  rw [hSS] at g3 htyS
  clear ih
  repeat (first | refine zck ?_ | refine zcl ?_ | refine zcm ?_ | refine zcn ?_)
  first | refine zcp (by kernel_rfl) ?_ | refine zcq PP_mixed (by kernel_rfl) (by kernel_rfl) ?_
  repeat' (refine zap rfl ?_; first | refine zbg rfl rfl (by omega) ?_)
  all_goals refine zch ?_
  all_goals repeat (first | refine zck ?_ | refine zcl ?_ | refine zcm ?_ | refine zcn ?_)
  refine zci rfl ?_
  repeat (first | refine zck ?_ | refine zcl ?_ | refine zcm ?_ | refine zcn ?_)
  first | refine zcp (by kernel_rfl) ?_ | refine zcq PP_mixed (by kernel_rfl) (by kernel_rfl) ?_
  repeat' (refine zap rfl ?_; first | refine zad rfl e2 (e3 _ (by omega)) ?_ | refine zar (fun t7 => ?_) | refine zae 4 rfl rfl rfl rfl rfl rfl rfl ?_ | refine zas rfl rfl (by omega) ?_)
  all_goals refine zch ?_
  all_goals repeat (first | refine zck ?_ | refine zcl ?_ | refine zcm ?_ | refine zcn ?_)
  refine run_share [4] rfl ?_
  repeat (first | refine zck ?_ | refine zcl ?_ | refine zcm ?_ | refine zcn ?_)
  first | refine zcp (by kernel_rfl) ?_ | refine zcq PP_mixed (by kernel_rfl) (by kernel_rfl) ?_
  repeat' (refine zap rfl ?_; first | refine zan rfl ?_ | refine zan rfl ?_ | refine zaa 0 rfl rfl rfl ?_ | (refine zai [0, 0, 0, 0] hone rfl rfl rfl (fun p hp => .tail _ hp) ?_; rintro v Γ ⟨rfl, a6, c6, rfl⟩))
  all_goals refine zch ?_
  all_goals repeat (first | refine zck ?_ | refine zcl ?_ | refine zcm ?_ | refine zcn ?_)
  by_cases hk1 : k1 = 0
  rotate_left
  · rw [if_pos hk1] at htyS
    subst htyS
    dsimp only at g3
    rw [if_pos hk1] at g3
    subst g3
    repeat (first | refine zck ?_ | refine zcl ?_ | refine zcm ?_ | refine zcn ?_)
    first | refine zcp (by kernel_rfl) ?_ | refine zcq PP_mixed (by kernel_rfl) (by kernel_rfl) ?_
    repeat' (refine zap rfl ?_; first | refine zan rfl ?_ | refine zbe rfl rfl (by omega) ?_)
    all_goals refine zch ?_
    all_goals repeat (first | refine zck ?_ | refine zcl ?_ | refine zcm ?_ | refine zcn ?_)
    refine zci rfl ?_
    repeat (first | refine zck ?_ | refine zcl ?_ | refine zcm ?_ | refine zcn ?_)
    first | refine zcp (by kernel_rfl) ?_ | refine zcq PP_mixed (by kernel_rfl) (by kernel_rfl) ?_
    repeat' (refine zap rfl ?_; first | refine zan rfl ?_ | refine zan rfl ?_)
    all_goals refine zch ?_
    all_goals repeat (first | refine zck ?_ | refine zcl ?_ | refine zcm ?_ | refine zcn ?_)
    exact qret1 (fun _ _ h => h) rfl ⟨rfl, a6, c6, A1, _, rfl, fun h => absurd h hk1⟩
  rw [if_neg (fun q => q hk1)] at htyS
  repeat (first | refine zck ?_ | refine zcl ?_ | refine zcm ?_ | refine zcn ?_)
  first | refine zcp (by kernel_rfl) ?_ | refine zcq PP_mixed (by kernel_rfl) (by kernel_rfl) ?_
  repeat' (refine zap rfl ?_; first | refine zan rfl ?_ | refine zbf rfl rfl (by omega) ?_)
  all_goals refine zch ?_
  all_goals repeat (first | refine zck ?_ | refine zcl ?_ | refine zcm ?_ | refine zcn ?_)
  refine zcj rfl ?_
  repeat (first | refine zck ?_ | refine zcl ?_ | refine zcm ?_ | refine zcn ?_)
  first | refine zcp (by kernel_rfl) ?_ | refine zcq PP_mixed (by kernel_rfl) (by kernel_rfl) ?_
  repeat' (refine zap rfl ?_; first | refine zan rfl ?_ | refine zan rfl ?_ | refine zaa 0 rfl rfl rfl ?_ | (refine zai [0, 0, 0, 0] (kB _ _) rfl rfl rfl (fun p hp => .tail _ hp) ?_; rintro v Γ ⟨rfl, a7, c7, B2, S2, rfl, hB2⟩) | refine zao rfl ?_)
  all_goals refine zch ?_
  all_goals repeat (first | refine zck ?_ | refine zcl ?_ | refine zcm ?_ | refine zcn ?_)
  by_cases hk2 : k2 = 0
  rotate_left
  · rw [if_pos hk2] at htyS
    subst htyS
    dsimp only at g3
    rw [if_pos hk2] at g3
    subst g3
    repeat (first | refine zck ?_ | refine zcl ?_ | refine zcm ?_ | refine zcn ?_)
    first | refine zcp (by kernel_rfl) ?_ | refine zcq PP_mixed (by kernel_rfl) (by kernel_rfl) ?_
    repeat' (refine zap rfl ?_; first | refine zan rfl ?_ | refine zbe rfl rfl (by omega) ?_)
    all_goals refine zch ?_
    all_goals repeat (first | refine zck ?_ | refine zcl ?_ | refine zcm ?_ | refine zcn ?_)
    refine zci rfl ?_
    repeat (first | refine zck ?_ | refine zcl ?_ | refine zcm ?_ | refine zcn ?_)
    first | refine zcp (by kernel_rfl) ?_ | refine zcq PP_mixed (by kernel_rfl) (by kernel_rfl) ?_
    repeat' (refine zap rfl ?_; first | refine zan rfl ?_ | refine zan rfl ?_)
    all_goals refine zch ?_
    all_goals repeat (first | refine zck ?_ | refine zcl ?_ | refine zcm ?_ | refine zcn ?_)
    exact qret1 (fun _ _ h => h) rfl ⟨rfl, a7, c7, B2, S2, rfl, fun h => absurd h hk2⟩
  rw [if_neg (fun q => q hk2)] at htyS
  obtain ⟨rfl, rfl⟩ := hB2 hk2
  repeat (first | refine zck ?_ | refine zcl ?_ | refine zcm ?_ | refine zcn ?_)
  first | refine zcp (by kernel_rfl) ?_ | refine zcq PP_mixed (by kernel_rfl) (by kernel_rfl) ?_
  repeat' (refine zap rfl ?_; first | refine zan rfl ?_ | refine zbf rfl rfl (by omega) ?_)
  all_goals refine zch ?_
  all_goals repeat (first | refine zck ?_ | refine zcl ?_ | refine zcm ?_ | refine zcn ?_)
  refine zcj rfl ?_
  repeat (first | refine zck ?_ | refine zcl ?_ | refine zcm ?_ | refine zcn ?_)
  first | refine zcp (by kernel_rfl) ?_ | refine zcq PP_mixed (by kernel_rfl) (by kernel_rfl) ?_
  repeat' (refine zap rfl ?_; first | refine zan rfl ?_ | refine zan rfl ?_ | refine zaa 0 rfl rfl rfl ?_ | (refine zai [0, 0, 0, 0] (kE _ _) rfl rfl rfl (fun p hp => .tail _ hp) ?_; rintro v Γ ⟨rfl, a8, c8, B3, S3, rfl, hB3⟩) | refine zao rfl ?_)
  all_goals refine zch ?_
  all_goals repeat (first | refine zck ?_ | refine zcl ?_ | refine zcm ?_ | refine zcn ?_)
  by_cases hk3 : k3 = 0
  rotate_left
  · subst htyS
    dsimp only at g3
    rw [if_pos hk3] at g3
    subst g3
    repeat (first | refine zck ?_ | refine zcl ?_ | refine zcm ?_ | refine zcn ?_)
    first | refine zcp (by kernel_rfl) ?_ | refine zcq PP_mixed (by kernel_rfl) (by kernel_rfl) ?_
    repeat' (refine zap rfl ?_; first | refine zan rfl ?_ | refine zbe rfl rfl (by omega) ?_)
    all_goals refine zch ?_
    all_goals repeat (first | refine zck ?_ | refine zcl ?_ | refine zcm ?_ | refine zcn ?_)
    refine zci rfl ?_
    repeat (first | refine zck ?_ | refine zcl ?_ | refine zcm ?_ | refine zcn ?_)
    first | refine zcp (by kernel_rfl) ?_ | refine zcq PP_mixed (by kernel_rfl) (by kernel_rfl) ?_
    repeat' (refine zap rfl ?_; first | refine zan rfl ?_ | refine zan rfl ?_)
    all_goals refine zch ?_
    all_goals repeat (first | refine zck ?_ | refine zcl ?_ | refine zcm ?_ | refine zcn ?_)
    exact qret1 (fun _ _ h => h) rfl ⟨rfl, a8, c8, B3, S3, rfl, fun h => absurd h hk3⟩
  subst htyS
  dsimp only at g3
  rw [if_neg (fun q => q hk3)] at g3
  obtain ⟨rfl, rfl⟩ := hB3 hk3
  rw [List.append_assoc] at g3 j2' hlT
  repeat (first | refine zck ?_ | refine zcl ?_ | refine zcm ?_ | refine zcn ?_)
  first | refine zcp (by kernel_rfl) ?_ | refine zcq PP_mixed (by kernel_rfl) (by kernel_rfl) ?_
  repeat' (refine zap rfl ?_; first | refine zan rfl ?_ | refine zbf rfl rfl (by omega) ?_)
  all_goals refine zch ?_
  all_goals repeat (first | refine zck ?_ | refine zcl ?_ | refine zcm ?_ | refine zcn ?_)
  refine zcj rfl ?_
  repeat' (first | refine zcp (by kernel_rfl) ?_ | refine zcm ?_ | refine zcn ?_ | (refine zap rfl ?_; first | refine zan rfl ?_ | refine zau rfl rfl (by omega) ?_) | refine zch ?_)
  refine cut_end ⟨rfl, (j + 1, a8, c8, B3, m ++ m0), ⟨rfl, rfl, rfl, rfl, int_eq (by dsimp only; omega), trivial⟩, ⟨?_, by dsimp only; omega, j2', g3, by dsimp only; omega⟩, by dsimp only; omega⟩
  dsimp only
  rw [List.append_assoc]
  rfl
end Go.Proofs.YtfnjeldpfilplaaGreatDoor

namespace Sim
theorem badStore_drop {l : List (ByteArray × ByteArray)} {j : Nat} {x : ByteArray × ByteArray} (h : l[j]? = some x) : (l.drop j).find? (fun d => decide (ctKind d.2 = none)) = if ctKind x.2 = none then some x else (l.drop (j + 1)).find? (fun d => decide (ctKind d.2 = none)) := by
  have hj := (List.getElem?_eq_some_iff.1 h).1
  rw [List.drop_eq_getElem_cons hj, (List.getElem?_eq_some_iff.1 h).2]
  by_cases e : ctKind x.2 = none
  · rw [List.find?_cons_of_pos (by simpa using e), if_pos e]
  · rw [List.find?_cons_of_neg (by simpa using e), if_neg e]
theorem badOper_drop {p : PP'} {l : List PO} {j : Nat} {x : PO} (h : l[j]? = some x) : (l.drop j).find? (fun o => decide ((tyO p o).2 ≠ 0)) = if (tyO p x).2 ≠ 0 then some x else (l.drop (j + 1)).find? (fun o => decide ((tyO p o).2 ≠ 0)) := by
  have hj := (List.getElem?_eq_some_iff.1 h).1
  rw [List.drop_eq_getElem_cons hj, (List.getElem?_eq_some_iff.1 h).2]
  by_cases e : (tyO p x).2 ≠ 0
  · rw [List.find?_cons_of_pos (by simpa using e), if_pos e]
  · rw [List.find?_cons_of_neg (by simpa using e), if_neg e]
end Sim
namespace Go.Proofs.YtfnjeldpfilplaaGreatDoor
open Go.Vc Sim
set_option maxHeartbeats 8000000 in
theorem checkT_spec (w0 : World) (sh : Shared) (p : PP') (o : PO) (a1 a3 a4 : Option Addr) (c1 c3 c4 : Nat) (vo : Value) (h1 : RdSl w0 sh encD 2 (.slice a1 p.stores.length c1) p.stores) (r1 : RdSl w0 sh encY 1 (.slice a3 o.params.length c3) o.params) (r2 : RdSt w0 sh (.slice a4 o.body.length c4) o.body)
    (hwd : wrongD [] p.stores = 0) (hg : goodO o) (hb : PS.sizeL o.body ≤ 80000) (hn : p.stores.length ≤ 100000) :
    Vc.Fn PP w0 sh 27 [.agg #[.slice a1 p.stores.length c1, vo], .agg (List.toArray [.string o.name, .slice a3 o.params.length c3, .slice a4 o.body.length c4])] []
      (fun r Γ => ∃ ma all2, r = .tuple #[.map (some ma), .int .i64 (tyO p o).2] ∧ Γ = [MapB ma (tvS all2)] ∧ ((tyO p o).2 = 0 → all2 = (tyO p o).1)) := by
  have hst := parV_st hg
  have hpl := hg.2.1
  have hlp : (parV o).length = o.params.length := List.length_map ..
  refine fn_of_run en27 fn27 rfl rfl rfl ?_
  repeat (first | refine zck ?_ | refine zcl ?_ | refine zcm ?_ | refine zcn ?_)
  first | refine zcp (by kernel_rfl) ?_ | refine zcq PP_mixed (by kernel_rfl) (by kernel_rfl) ?_
  repeat' (refine zap rfl ?_; first | refine zaq (cs := [_, _]) rfl (fun tp => ?_) | refine zaq (cs := [_, _, _]) rfl (fun to => ?_) | refine zan rfl ?_)
  all_goals refine zch ?_
  all_goals repeat (first | refine zck ?_ | refine zcl ?_ | refine zcm ?_ | refine zcn ?_)
  refine run_share [0] rfl ?_
  refine run_share [0] rfl ?_
  repeat (first | refine zck ?_ | refine zcl ?_ | refine zcm ?_ | refine zcn ?_)
  first | refine zcp (by kernel_rfl) ?_ | refine zcq PP_mixed (by kernel_rfl) (by kernel_rfl) ?_
  repeat' (refine zap rfl ?_; first | refine zcc (fun mm => ?_) | refine zaq (cs := [_, _, _, _]) rfl (fun sb => ?_) | refine zan rfl ?_ | refine zcb rfl ?_)
  all_goals refine zch ?_
  all_goals repeat (first | refine zck ?_ | refine zcl ?_ | refine zcm ?_ | refine zcn ?_)
  rename_i mv ms
  obtain ⟨ma, hma⟩ : ∃ ma, ma = mm := ⟨_, rfl⟩
  subst hma
  refine run_exch 0 (MapB mv (tvS [])) rfl (mapB_make mv) rfl ?_
  refine run_exch 1 (MapS ms (kS [])) rfl (mapS_make ms) rfl ?_
  refine run_exch 2 (MapB ma (tvS [])) rfl (mapB_make ma) rfl ?_
  repeat (first | refine zck ?_ | refine zcl ?_ | refine zcm ?_ | refine zcn ?_)
  first | refine zcp (by kernel_rfl) ?_ | refine zcq PP_mixed (by kernel_rfl) (by kernel_rfl) ?_
  repeat' (refine zap rfl ?_; first | refine zan rfl ?_ | refine zaa 1 rfl rfl rfl ?_ | refine zce rfl ?_ | refine zao rfl ?_)
  all_goals refine zch ?_
  all_goals repeat (first | refine zck ?_ | refine zcl ?_ | refine zcm ?_ | refine zcn ?_)
  refine run_loop (S := Nat) (fun j => [(3, .pointer (some ⟨to, 0, none⟩)), (6, .pointer (some ⟨sb, 0, none⟩)), (19, .slice a1 p.stores.length c1), (20, .int .i64 p.stores.length), (21, .int .i64 (j : Int))])
    (fun j Γ => Γ = [MapB mv (tvS []), MapS ms (kS (p.stores.take j)), MapB ma (tvS []), scPt sb mv ms ma none 0 0] ∧ j ≤ p.stores.length) (fun j => p.stores.length - j) 0 ⟨rfl, rfl, rfl, rfl, rfl, trivial⟩ ⟨rfl, by omega⟩ ?_
  rintro j Γ junk ⟨rfl, g1⟩
  by_cases hj : j < p.stores.length
  · obtain ⟨x, hx⟩ : ∃ x, p.stores[j]? = some x := ⟨_, List.getElem?_eq_getElem hj⟩
    obtain ⟨b, off, cc, T, fr, rfl, e2, e3, _⟩ := h1.cells hx
    have hnx := kS_next hwd hx
    have hput : ∀ A B C : Asn, putAt 1 (MapS ms (insS (kS (p.stores.take j)) x.1 (.string x.2))) [A, MapS ms (kS (p.stores.take j)), B, C] = some [A, MapS ms (kS (p.stores.take (j + 1))), B, C] := fun A B C => by rw [hnx]; rfl
    repeat (first | refine zck ?_ | refine zcl ?_ | refine zcm ?_ | refine zcn ?_)
    first | refine zcp (by kernel_rfl) ?_ | refine zcq PP_mixed (by kernel_rfl) (by kernel_rfl) ?_
    repeat' (refine zap rfl ?_; first | refine zbg rfl rfl (by omega) ?_)
    all_goals refine zch ?_
    all_goals repeat (first | refine zck ?_ | refine zcl ?_ | refine zcm ?_ | refine zcn ?_)
    refine zci rfl ?_
    repeat (first | refine zck ?_ | refine zcl ?_ | refine zcm ?_ | refine zcn ?_)
    first | refine zcp (by kernel_rfl) ?_ | refine zcq PP_mixed (by kernel_rfl) (by kernel_rfl) ?_
    repeat' (refine zap rfl ?_; first | refine zad rfl (fun hF Γ w h1 h2 => e2 hF Γ w (fun p hp => h1 p (.tail _ (.tail _ hp))) h2) (e3 _ (by omega)) ?_ | refine zar (fun t8 => ?_) | refine zae 4 rfl rfl rfl rfl rfl rfl rfl ?_ | refine zas rfl rfl (by omega) ?_)
    all_goals refine zch ?_
    all_goals repeat (first | refine zck ?_ | refine zcl ?_ | refine zcm ?_ | refine zcn ?_)
    refine run_share [4] rfl ?_
    repeat (first | refine zck ?_ | refine zcl ?_ | refine zcm ?_ | refine zcn ?_)
    first | refine zcp (by kernel_rfl) ?_ | refine zcr [(.quiet, 0), (.quiet, 1), (.quiet, 2), (.quiet, 3), (.read, 4), (.quiet, 5), (.read, 6), (.quiet, 7), (.read, 8), (.loud, 9)] PP_mixed (by kernel_rfl) (by kernel_rfl) ?_ | refine run_drawR PP_mixed (by kernel_rfl) (by kernel_rfl) ?_
    repeat' (refine zap rfl ?_; first | refine reg_mapUpdateS 1 (u := .string x.2) rfl rfl rfl rfl (hput _ _ _) ?_ | refine zan rfl ?_ | refine zaa 0 rfl rfl rfl ?_ | refine zab 3 rfl rfl rfl ?_ | refine zao rfl ?_ | refine zan rfl ?_)
    all_goals refine zch ?_
    all_goals repeat (first | refine zck ?_ | refine zcl ?_ | refine zcm ?_ | refine zcn ?_)
    repeat' (first | refine zcp (by kernel_rfl) ?_ | (refine zap rfl ?_; first | refine zan rfl ?_ | refine zau rfl rfl (by omega) ?_) | refine zch ?_)
    exact cut_end ⟨rfl, j + 1, ⟨rfl, rfl, rfl, rfl, int_eq (by omega), trivial⟩, ⟨rfl, by omega⟩, by omega⟩
  have hjl : j = p.stores.length := by omega
  subst hjl
  rw [List.take_length]
  repeat (first | refine zck ?_ | refine zcl ?_ | refine zcm ?_ | refine zcn ?_)
  first | refine zcp (by kernel_rfl) ?_ | refine zcq PP_mixed (by kernel_rfl) (by kernel_rfl) ?_
  repeat' (refine zap rfl ?_; first | refine zbh rfl rfl (by omega) ?_)
  all_goals refine zch ?_
  all_goals repeat (first | refine zck ?_ | refine zcl ?_ | refine zcm ?_ | refine zcn ?_)
  refine zcj rfl ?_
  refine cut_exit rfl rfl ?_
  refine run_shareM [1] rfl ?_
  intro sh' hsub hR
  refine run_nilslice 9 1 ?_
  refine run_take [2, 0, 0, 0] rfl ?_
  repeat (first | refine zck ?_ | refine zcl ?_ | refine zcm ?_ | refine zcn ?_)
  first | refine zcp (by kernel_rfl) ?_ | refine zcq PP_mixed (by kernel_rfl) (by kernel_rfl) ?_
  repeat' (refine zap rfl ?_; first | refine zad rfl (fun hF Γ w h1 h2 => (h2.frame (h1 _ (hsub _ (.head _)))).2) rfl ?_ | refine zan rfl ?_ | refine zce rfl ?_ | refine zao rfl ?_)
  all_goals refine zch ?_
  all_goals repeat (first | refine zck ?_ | refine zcl ?_ | refine zcm ?_ | refine zcn ?_)
  refine run_loop (S := Nat × Option Addr × Nat) (fun s => [(3, .pointer (some ⟨to, 0, none⟩)), (6, .pointer (some ⟨sb, 0, none⟩)), (36, .slice a3 o.params.length c3), (37, .int .i64 o.params.length), (38, .int .i64 (s.1 : Int))])
    (fun s Γ => Γ = ScA sb mv ms ma s.2.1 s.2.2 ((parV o).take s.1) ((parV o).take s.1) ∧ s.1 ≤ o.params.length) (fun s => o.params.length - s.1) (0, none, 0) ⟨rfl, rfl, rfl, rfl, rfl, trivial⟩ ⟨rfl, Nat.zero_le _⟩ ?_
  rintro ⟨j, a, c⟩ Γ junk2 ⟨rfl, g2⟩
  dsimp only at g2 ⊢
  by_cases hj : j < o.params.length
  · obtain ⟨x, hx⟩ : ∃ x, o.params[j]? = some x := ⟨_, List.getElem?_eq_getElem hj⟩
    obtain ⟨b, off, cc, T, fr, rfl, e2, _, e4⟩ := r1.cells hx
    have hpx : (parV o)[j]? = some (x, 1) := by unfold parV; rw [List.getElem?_map, hx]; rfl
    have hnx : (parV o).take (j + 1) = (parV o).take j ++ [(x, 1)] := take_snoc hpx
    have hnew : x ∉ ((parV o).take j).map (·.1) := fun hm => by
      have hn2 : (((parV o).take (j + 1)).map (·.1)).Nodup := ((List.take_sublist (j + 1) (parV o)).map (fun v : ByteArray × Int => v.1)).nodup hst.ndA
      rw [hnx, List.map_append, List.nodup_append] at hn2
      exact hn2.2.2 x hm x (by simp) rfl
    have hadd := add_spec w0 sb mv ms ma a c ((parV o).take j) ((parV o).take j) x 1 hnew hnew (by rw [List.length_take]; omega)
    rw [← hnx] at hadd
    repeat (first | refine zck ?_ | refine zcl ?_ | refine zcm ?_ | refine zcn ?_)
    first | refine zcp (by kernel_rfl) ?_ | refine zcq PP_mixed (by kernel_rfl) (by kernel_rfl) ?_
    repeat' (refine zap rfl ?_; first | refine zbg rfl rfl (by omega) ?_)
    all_goals refine zch ?_
    all_goals repeat (first | refine zck ?_ | refine zcl ?_ | refine zcm ?_ | refine zcn ?_)
    refine zci rfl ?_
    repeat (first | refine zck ?_ | refine zcl ?_ | refine zcm ?_ | refine zcn ?_)
    first | refine zcp (by kernel_rfl) ?_ | refine zcq PP_mixed (by kernel_rfl) (by kernel_rfl) ?_
    repeat' (refine zap rfl ?_; first | refine zad rfl (fun hF Γ w h1 h2 => e2 hF Γ w (fun p hp => h1 p (hsub p (.tail _ (.tail _ hp)))) h2) (e4 0 _ rfl _ (by omega)) ?_ | refine zan rfl ?_ | refine zas rfl rfl (by omega) ?_)
    all_goals refine zch ?_
    all_goals repeat (first | refine zck ?_ | refine zcl ?_ | refine zcm ?_ | refine zcn ?_)
    repeat (first | refine zck ?_ | refine zcl ?_ | refine zcm ?_ | refine zcn ?_)
    first | refine zcp (by kernel_rfl) ?_ | refine zcq PP_mixed (by kernel_rfl) (by kernel_rfl) ?_
    repeat' (refine zap rfl ?_; first | refine zan rfl ?_ | (refine zai [0, 0, 0, 0] hadd rfl rfl rfl sub_nil ?_; rintro v Γ ⟨rfl, a', c', rfl⟩))
    all_goals refine zch ?_
    all_goals repeat (first | refine zck ?_ | refine zcl ?_ | refine zcm ?_ | refine zcn ?_)
    repeat' (first | refine zcp (by kernel_rfl) ?_ | (refine zap rfl ?_; first | refine zan rfl ?_ | refine zau rfl rfl (by omega) ?_) | refine zch ?_)
    exact cut_end ⟨rfl, (j + 1, a', c'), ⟨rfl, rfl, rfl, rfl, int_eq (by dsimp only; omega), trivial⟩, ⟨rfl, by dsimp only; omega⟩, by dsimp only; omega⟩
  have hjl : (parV o).take j = parV o := List.take_of_length_le (by omega)
  rw [hjl]
  repeat (first | refine zck ?_ | refine zcl ?_ | refine zcm ?_ | refine zcn ?_)
  first | refine zcp (by kernel_rfl) ?_ | refine zcq PP_mixed (by kernel_rfl) (by kernel_rfl) ?_
  repeat' (refine zap rfl ?_; first | refine zbh rfl rfl (by omega) ?_)
  all_goals refine zch ?_
  all_goals repeat (first | refine zck ?_ | refine zcl ?_ | refine zcm ?_ | refine zcn ?_)
  refine zcj rfl ?_
  refine cut_exit rfl rfl ?_
  have hS := stmtsT_spec w0 p.stores sb mv ms ma 90000 (Nat.le_refl _) sh' a c (parV o) (parV o) _ o.body (by omega) (r2.mono fun p hp => hsub p (.tail _ (.tail _ hp))) hR hst (by omega)
  repeat (first | refine zck ?_ | refine zcl ?_ | refine zcm ?_ | refine zcn ?_)
  first | refine zcp (by kernel_rfl) ?_ | refine zcq PP_mixed (by kernel_rfl) (by kernel_rfl) ?_
  repeat' (refine zap rfl ?_; first | refine zad rfl (fun hF Γ w h1 h2 => (h2.frame (h1 _ (hsub _ (.head _)))).2) rfl ?_ | refine zan rfl ?_ | refine zan rfl ?_ | (refine zai [0, 0, 0, 0] hS rfl rfl rfl (fun _ h => h) ?_; rintro v Γ ⟨rfl, a', c', all2, there2, rfl, h2⟩) | refine zao rfl ?_)
  all_goals refine zch ?_
  all_goals repeat (first | refine zck ?_ | refine zcl ?_ | refine zcm ?_ | refine zcn ?_)
  repeat (first | refine zck ?_ | refine zcl ?_ | refine zcm ?_ | refine zcn ?_)
  first | refine zcp (by kernel_rfl) ?_ | refine zcq PP_mixed (by kernel_rfl) (by kernel_rfl) ?_
  repeat' (refine zap rfl ?_; first | refine zan rfl ?_ | refine zan rfl ?_ | refine zab 0 rfl rfl rfl ?_ | refine zao rfl ?_ | refine zan rfl ?_)
  all_goals refine zch ?_
  all_goals repeat (first | refine zck ?_ | refine zcl ?_ | refine zcm ?_ | refine zcn ?_)
  refine run_take [2] rfl ?_
  exact ret_tmp2 rfl ⟨ma, all2, rfl, rfl, fun h => (h2 h).1⟩
set_option maxHeartbeats 8000000 in
theorem typesCheck_spec (w0 : World) (hk : KwOk w0) (sh : Shared) (v : Value) (p : PP') (hp : RdP w0 sh v p) (hs : PP'.small p) (hb : ∀ o ∈ p.opers, PS.sizeL o.body ≤ 10000) :
    FnE PP w0 sh 12 [v] [] (.tuple #[.string (tyP p).1, .int .i64 (tyP p).2]) [] := by
  have hck := check_spec w0 hk sh v p hp hs
  obtain ⟨vs, vo, rfl, h1, h2⟩ := hp
  obtain ⟨a1, c1, hvs, hc1, _⟩ := id h1
  obtain ⟨a2, c2, hvo, hc2⟩ := h2.len
  subst hvs; subst hvo
  obtain ⟨O, hO⟩ : ∃ O, tyP p = O := ⟨_, rfl⟩
  rw [hO]
  unfold tyP at hO
  refine fn_of_run en12 fn12 rfl rfl rfl ?_
  repeat (first | refine zck ?_ | refine zcl ?_ | refine zcm ?_ | refine zcn ?_)
  first | refine zcp (by kernel_rfl) ?_ | refine zcq PP_mixed (by kernel_rfl) (by kernel_rfl) ?_
  repeat' (refine zap rfl ?_; first | refine zaq (cs := [_, _]) rfl (fun tp => ?_) | refine zan rfl ?_)
  all_goals refine zch ?_
  all_goals repeat (first | refine zck ?_ | refine zcl ?_ | refine zcm ?_ | refine zcn ?_)
  refine run_share [0] rfl ?_
  repeat (first | refine zck ?_ | refine zcl ?_ | refine zcm ?_ | refine zcn ?_)
  first | refine zcp (by kernel_rfl) ?_ | refine zcq PP_mixed (by kernel_rfl) (by kernel_rfl) ?_
  repeat' (refine zap rfl ?_; first | refine zan rfl ?_ | refine zaa 0 rfl rfl rfl ?_ | refine zah [] hck rfl rfl rfl (fun p hp => .tail _ hp) rfl ?_)
  all_goals refine zch ?_
  all_goals repeat (first | refine zck ?_ | refine zcl ?_ | refine zcm ?_ | refine zcn ?_)
  by_cases hC : checkP p = 0
  rotate_left
  · rw [if_pos hC] at hO
    subst hO
    repeat (first | refine zck ?_ | refine zcl ?_ | refine zcm ?_ | refine zcn ?_)
    first | refine zcp (by kernel_rfl) ?_ | refine zcq PP_mixed (by kernel_rfl) (by kernel_rfl) ?_
    repeat' (refine zap rfl ?_; first | refine zan rfl ?_ | refine zbe rfl rfl (by omega) ?_)
    all_goals refine zch ?_
    all_goals repeat (first | refine zck ?_ | refine zcl ?_ | refine zcm ?_ | refine zcn ?_)
    refine zci rfl ?_
    repeat' (first | refine zck ?_ | refine zcp (by kernel_rfl) ?_ | (refine zap rfl ?_; first | refine zan rfl ?_ | refine zan rfl ?_) | refine zch ?_)
    exact ret_tmp2 rfl ⟨rfl, rfl⟩
  rw [if_neg (fun q => q hC)] at hO
  obtain ⟨z1, z2, z3, z4, z5⟩ := checkP_iff.1 hC
  repeat (first | refine zck ?_ | refine zcl ?_ | refine zcm ?_ | refine zcn ?_)
  first | refine zcp (by kernel_rfl) ?_ | refine zcq PP_mixed (by kernel_rfl) (by kernel_rfl) ?_
  repeat' (refine zap rfl ?_; first | refine zan rfl ?_ | refine zbf rfl rfl (by omega) ?_)
  all_goals refine zch ?_
  all_goals repeat (first | refine zck ?_ | refine zcl ?_ | refine zcm ?_ | refine zcn ?_)
  refine zcj rfl ?_
  repeat (first | refine zck ?_ | refine zcl ?_ | refine zcm ?_ | refine zcn ?_)
  first | refine zcp (by kernel_rfl) ?_ | refine zcq PP_mixed (by kernel_rfl) (by kernel_rfl) ?_
  repeat' (refine zap rfl ?_; first | refine zan rfl ?_ | refine zaa 0 rfl rfl rfl ?_ | refine zce rfl ?_ | refine zao rfl ?_)
  all_goals refine zch ?_
  all_goals repeat (first | refine zck ?_ | refine zcl ?_ | refine zcm ?_ | refine zcn ?_)
  refine run_loop (S := Nat) (fun j => [(1, .pointer (some ⟨tp, 0, none⟩)), (19, .slice a1 p.stores.length c1), (20, .int .i64 p.stores.length), (21, .int .i64 (j : Int))])
    (fun j Γ => Γ = [] ∧ j ≤ p.stores.length ∧ (p.stores.drop j).find? (fun d => decide (ctKind d.2 = none)) = badStore p) (fun j => p.stores.length - j) 0 ⟨rfl, rfl, rfl, rfl, trivial⟩ ⟨rfl, by omega, rfl⟩ ?_
  rintro j Γ junk ⟨rfl, g1, g2⟩
  by_cases hj : j < p.stores.length
  · obtain ⟨x, hx⟩ : ∃ x, p.stores[j]? = some x := ⟨_, List.getElem?_eq_getElem hj⟩
    obtain ⟨b, off, cc, T, fr, rfl, e2, e3, _⟩ := h1.cells hx
    have hkd := kind_spec w0 x.2
    rw [badStore_drop hx] at g2
    repeat (first | refine zck ?_ | refine zcl ?_ | refine zcm ?_ | refine zcn ?_)
    first | refine zcp (by kernel_rfl) ?_ | refine zcq PP_mixed (by kernel_rfl) (by kernel_rfl) ?_
    repeat' (refine zap rfl ?_; first | refine zbg rfl rfl (by omega) ?_)
    all_goals refine zch ?_
    all_goals repeat (first | refine zck ?_ | refine zcl ?_ | refine zcm ?_ | refine zcn ?_)
    refine zci rfl ?_
    repeat (first | refine zck ?_ | refine zcl ?_ | refine zcm ?_ | refine zcn ?_)
    first | refine zcp (by kernel_rfl) ?_ | refine zcq PP_mixed (by kernel_rfl) (by kernel_rfl) ?_
    repeat' (refine zap rfl ?_; first | refine zad rfl (fun hF Γ w h1 h2 => e2 hF Γ w (fun p hp => h1 p (.tail _ hp)) h2) (e3 _ (by omega)) ?_ | refine zar (fun t6 => ?_) | refine zae 0 rfl rfl rfl rfl rfl rfl rfl ?_ | refine zas rfl rfl (by omega) ?_)
    all_goals refine zch ?_
    all_goals repeat (first | refine zck ?_ | refine zcl ?_ | refine zcm ?_ | refine zcn ?_)
    refine run_share [0] rfl ?_
    cases hq : ctKind x.2 with
    | none =>
      rw [hq] at hkd g2
      dsimp only [Option.getD, Option.isSome] at hkd
      rw [if_pos rfl] at g2
      rw [← g2] at hO
      dsimp only at hO
      subst hO
      repeat (first | refine zck ?_ | refine zcl ?_ | refine zcm ?_ | refine zcn ?_)
      first | refine zcp (by kernel_rfl) ?_ | refine zcq PP_mixed (by kernel_rfl) (by kernel_rfl) ?_
      repeat' (refine zap rfl ?_; first | refine zan rfl ?_ | refine zan rfl ?_ | refine zaa 0 rfl rfl rfl ?_ | refine zah [] hkd rfl rfl rfl sub_nil rfl ?_ | refine zao rfl ?_ | refine zan rfl ?_)
      all_goals refine zch ?_
      all_goals repeat (first | refine zck ?_ | refine zcl ?_ | refine zcm ?_ | refine zcn ?_)
      repeat (first | refine zck ?_ | refine zcl ?_ | refine zcm ?_ | refine zcn ?_)
      first | refine zcp (by kernel_rfl) ?_ | refine zcq PP_mixed (by kernel_rfl) (by kernel_rfl) ?_
      repeat' (refine zap rfl ?_; first | refine zan rfl ?_ | refine zbx rfl ?_)
      all_goals refine zch ?_
      all_goals repeat (first | refine zck ?_ | refine zcl ?_ | refine zcm ?_ | refine zcn ?_)
      refine zci rfl ?_
      repeat (first | refine zck ?_ | refine zcl ?_ | refine zcm ?_ | refine zcn ?_)
      first | refine zcp (by kernel_rfl) ?_ | refine zcq PP_mixed (by kernel_rfl) (by kernel_rfl) ?_
      repeat' (refine zap rfl ?_; first | refine zan rfl ?_ | refine zaa 0 rfl rfl rfl ?_ | refine zao rfl ?_)
      all_goals refine zch ?_
      all_goals repeat (first | refine zck ?_ | refine zcl ?_ | refine zcm ?_ | refine zcn ?_)
      exact qret2 (fun _ _ h => h) rfl ⟨rfl, rfl⟩
    | some i =>
      rw [hq] at hkd g2
      dsimp only [Option.getD, Option.isSome] at hkd
      rw [if_neg (fun q => by cases q)] at g2
      repeat (first | refine zck ?_ | refine zcl ?_ | refine zcm ?_ | refine zcn ?_)
      first | refine zcp (by kernel_rfl) ?_ | refine zcq PP_mixed (by kernel_rfl) (by kernel_rfl) ?_
      repeat' (refine zap rfl ?_; first | refine zan rfl ?_ | refine zan rfl ?_ | refine zaa 0 rfl rfl rfl ?_ | refine zah [] hkd rfl rfl rfl sub_nil rfl ?_ | refine zao rfl ?_ | refine zan rfl ?_)
      all_goals refine zch ?_
      all_goals repeat (first | refine zck ?_ | refine zcl ?_ | refine zcm ?_ | refine zcn ?_)
      repeat (first | refine zck ?_ | refine zcl ?_ | refine zcm ?_ | refine zcn ?_)
      first | refine zcp (by kernel_rfl) ?_ | refine zcq PP_mixed (by kernel_rfl) (by kernel_rfl) ?_
      repeat' (refine zap rfl ?_; first | refine zan rfl ?_ | refine zbx rfl ?_)
      all_goals refine zch ?_
      all_goals repeat (first | refine zck ?_ | refine zcl ?_ | refine zcm ?_ | refine zcn ?_)
      refine zcj rfl ?_
      repeat' (first | refine zcp (by kernel_rfl) ?_ | refine zcm ?_ | refine zcn ?_ | (refine zap rfl ?_; first | refine zan rfl ?_ | refine zau rfl rfl (by omega) ?_) | refine zch ?_)
      exact cut_end ⟨rfl, j + 1, ⟨rfl, rfl, rfl, int_eq (by omega), trivial⟩, ⟨rfl, by omega, g2⟩, by omega⟩
  rw [List.drop_of_length_le (by omega), List.find?_nil] at g2
  rw [← g2] at hO
  dsimp only at hO
  repeat (first | refine zck ?_ | refine zcl ?_ | refine zcm ?_ | refine zcn ?_)
  first | refine zcp (by kernel_rfl) ?_ | refine zcq PP_mixed (by kernel_rfl) (by kernel_rfl) ?_
  repeat' (refine zap rfl ?_; first | refine zbh rfl rfl (by omega) ?_)
  all_goals refine zch ?_
  all_goals repeat (first | refine zck ?_ | refine zcl ?_ | refine zcm ?_ | refine zcn ?_)
  refine zcj rfl ?_
  refine cut_exit rfl rfl ?_
  repeat (first | refine zck ?_ | refine zcl ?_ | refine zcm ?_ | refine zcn ?_)
  first | refine zcp (by kernel_rfl) ?_ | refine zcq PP_mixed (by kernel_rfl) (by kernel_rfl) ?_
  repeat' (refine zap rfl ?_; first | refine zan rfl ?_ | refine zaa 0 rfl rfl rfl ?_ | refine zce rfl ?_ | refine zao rfl ?_)
  all_goals refine zch ?_
  all_goals repeat (first | refine zck ?_ | refine zcl ?_ | refine zcm ?_ | refine zcn ?_)
  refine run_loop (S := Nat) (fun j => [(1, .pointer (some ⟨tp, 0, none⟩)), (37, .slice a2 p.opers.length c2), (38, .int .i64 p.opers.length), (39, .int .i64 (j : Int))])
    (fun j Γ => Γ = [] ∧ j ≤ p.opers.length ∧ (p.opers.drop j).find? (fun o => decide ((tyO p o).2 ≠ 0)) = badOper p) (fun j => p.opers.length - j) 0 ⟨rfl, rfl, rfl, rfl, trivial⟩ ⟨rfl, by omega, rfl⟩ ?_
  rintro j Γ junk2 ⟨rfl, g3, g4⟩
  by_cases hj : j < p.opers.length
  · obtain ⟨o, ho⟩ : ∃ o, p.opers[j]? = some o := ⟨_, List.getElem?_eq_getElem hj⟩
    obtain ⟨b, off, cc, T, fr, cs, rfl, e2, e3, ⟨vp, vb, rfl, r1, r2⟩, _⟩ := h2.at ho
    obtain ⟨a3, c3, hvp, _⟩ := id r1
    obtain ⟨a4, c4, hvb, _⟩ := r2.len
    subst hvp; subst hvb
    have hom := List.mem_of_getElem? ho
    have hbo := hb o hom
    have hct := checkT_spec w0 sh p o a1 a3 a4 c1 c3 c4 (.slice (some ⟨b, off, none⟩) p.opers.length c2) h1 r1 r2 z3 (z4 o hom) (by omega) (by omega)
    rw [badOper_drop ho] at g4
    repeat (first | refine zck ?_ | refine zcl ?_ | refine zcm ?_ | refine zcn ?_)
    first | refine zcp (by kernel_rfl) ?_ | refine zcq PP_mixed (by kernel_rfl) (by kernel_rfl) ?_
    repeat' (refine zap rfl ?_; first | refine zbg rfl rfl (by omega) ?_)
    all_goals refine zch ?_
    all_goals repeat (first | refine zck ?_ | refine zcl ?_ | refine zcm ?_ | refine zcn ?_)
    refine zci rfl ?_
    repeat (first | refine zck ?_ | refine zcl ?_ | refine zcm ?_ | refine zcn ?_)
    first | refine zcp (by kernel_rfl) ?_ | refine zcq PP_mixed (by kernel_rfl) (by kernel_rfl) ?_
    repeat' (refine zap rfl ?_; first | refine zad rfl (fun hF Γ w h1 h2 => e2 hF Γ w (fun p hp => h1 p (.tail _ hp)) h2) (e3 _ (by omega)) ?_ | refine zar (fun t10 => ?_) | refine zae 0 rfl rfl rfl rfl rfl rfl rfl ?_ | refine zas rfl rfl (by omega) ?_)
    all_goals refine zch ?_
    all_goals repeat (first | refine zck ?_ | refine zcl ?_ | refine zcm ?_ | refine zcn ?_)
    refine run_share [0] rfl ?_
    repeat (first | refine zck ?_ | refine zcl ?_ | refine zcm ?_ | refine zcn ?_)
    first | refine zcp (by kernel_rfl) ?_ | refine zcq PP_mixed (by kernel_rfl) (by kernel_rfl) ?_
    repeat' (refine zap rfl ?_; first | refine zan rfl ?_ | refine zan rfl ?_ | refine zaa 0 rfl rfl rfl ?_ | refine zaa 1 rfl rfl rfl ?_ | (refine zai [] hct rfl rfl rfl (fun p hp => .tail _ (.tail _ hp)) ?_; rintro v Γ ⟨ma, all2, rfl, rfl, _⟩) | refine zan rfl ?_)
    all_goals refine zch ?_
    all_goals repeat (first | refine zck ?_ | refine zcl ?_ | refine zcm ?_ | refine zcn ?_)
    refine run_take [] rfl ?_
    by_cases hq : (tyO p o).2 = 0
    · rw [if_neg (fun q => q hq)] at g4
      repeat (first | refine zck ?_ | refine zcl ?_ | refine zcm ?_ | refine zcn ?_)
      first | refine zcp (by kernel_rfl) ?_ | refine zcq PP_mixed (by kernel_rfl) (by kernel_rfl) ?_
      repeat' (refine zap rfl ?_; first | refine zan rfl ?_ | refine zbf rfl rfl (by omega) ?_)
      all_goals refine zch ?_
      all_goals repeat (first | refine zck ?_ | refine zcl ?_ | refine zcm ?_ | refine zcn ?_)
      refine zcj rfl ?_
      repeat' (first | refine zcp (by kernel_rfl) ?_ | refine zcm ?_ | refine zcn ?_ | (refine zap rfl ?_; first | refine zan rfl ?_ | refine zau rfl rfl (by omega) ?_) | refine zch ?_)
      exact cut_end ⟨rfl, j + 1, ⟨rfl, rfl, rfl, int_eq (by omega), trivial⟩, ⟨rfl, by omega, g4⟩, by omega⟩
    · rw [if_pos hq] at g4
      rw [← g4] at hO
      dsimp only at hO
      subst hO
      repeat (first | refine zck ?_ | refine zcl ?_ | refine zcm ?_ | refine zcn ?_)
      first | refine zcp (by kernel_rfl) ?_ | refine zcq PP_mixed (by kernel_rfl) (by kernel_rfl) ?_
      repeat' (refine zap rfl ?_; first | refine zan rfl ?_ | refine zbe rfl rfl (by omega) ?_)
      all_goals refine zch ?_
      all_goals repeat (first | refine zck ?_ | refine zcl ?_ | refine zcm ?_ | refine zcn ?_)
      refine zci rfl ?_
      repeat (first | refine zck ?_ | refine zcl ?_ | refine zcm ?_ | refine zcn ?_)
      first | refine zcp (by kernel_rfl) ?_ | refine zcq PP_mixed (by kernel_rfl) (by kernel_rfl) ?_
      repeat' (refine zap rfl ?_; first | refine zan rfl ?_ | refine zan rfl ?_ | refine zaa 0 rfl rfl rfl ?_ | refine zao rfl ?_)
      all_goals refine zch ?_
      all_goals repeat (first | refine zck ?_ | refine zcl ?_ | refine zcm ?_ | refine zcn ?_)
      exact qret2 (fun _ _ h => h) rfl ⟨rfl, rfl⟩
  rw [List.drop_of_length_le (by omega), List.find?_nil] at g4
  rw [← g4] at hO
  dsimp only at hO
  subst hO
  repeat (first | refine zck ?_ | refine zcl ?_ | refine zcm ?_ | refine zcn ?_)
  first | refine zcp (by kernel_rfl) ?_ | refine zcq PP_mixed (by kernel_rfl) (by kernel_rfl) ?_
  repeat' (refine zap rfl ?_; first | refine zbh rfl rfl (by omega) ?_)
  all_goals refine zch ?_
  all_goals repeat (first | refine zck ?_ | refine zcl ?_ | refine zcm ?_ | refine zcn ?_)
  refine zcj rfl ?_
  refine cut_exit rfl rfl ?_
  repeat' (first | refine zck ?_ | refine zcp (by kernel_rfl) ?_ | (refine zap rfl ?_; first | refine zan rfl ?_) | refine zch ?_)
  exact ret_tmp2 rfl ⟨rfl, rfl⟩
end Go.Proofs.YtfnjeldpfilplaaGreatDoor

namespace Sim
end Sim
namespace Go.Proofs.YtfnjeldpfilplaaGreatDoor
open Go.Vc Sim
end Go.Proofs.YtfnjeldpfilplaaGreatDoor

namespace Sim
end Sim
namespace Go.Proofs.YtfnjeldpfilplaaGreatDoor
open Go.Vc Sim
end Go.Proofs.YtfnjeldpfilplaaGreatDoor

namespace Go.Proofs.YtfnjeldpfilplaaGreatDoor
open Go.Vc Sim
end Go.Proofs.YtfnjeldpfilplaaGreatDoor

namespace Sim
def szB (s : ByteArray) : Prop := s.size ≤ 4611686018427387904
mutual
def PE.sz : PE → Prop
  | .mk _ _ a b xs ys => szB a ∧ szB b ∧ PE.szL xs ∧ PE.szL ys
def PE.szL : List PE → Prop
  | [] => True
  | e :: l => PE.sz e ∧ PE.szL l
end
theorem PE.sz_eq {e : PE} (h : e.sz) : szB e.name ∧ szB e.meth ∧ PE.szL e.args ∧ PE.szL e.or := by cases e; unfold PE.sz at h; exact h
theorem PE.szL_mem : ∀ {l : List PE}, PE.szL l → ∀ x ∈ l, x.sz
  | [], _, x, hx => by simp at hx
  | e :: l, h, x, hx => by
    unfold PE.szL at h
    rcases List.mem_cons.1 hx with rfl | hx
    · exact h.1
    · exact PE.szL_mem h.2 x hx
theorem PE.sizeL_snoc : ∀ {l : List PE} {j : Nat} {x : PE}, l[j]? = some x → PE.sizeL (l.take (j + 1)) = PE.sizeL (l.take j) + x.size
  | e :: l, 0, x, h => by simp at h; subst h; simp [PE.sizeL]
  | e :: l, j + 1, x, h => by
    have := PE.sizeL_snoc (l := l) (j := j) (x := x) (by simpa using h)
    rw [List.take_succ_cons, List.take_succ_cons, PE.sizeL, PE.sizeL, this]; omega
end Sim
namespace Go.Proofs.YtfnjeldpfilplaaGreatDoor
open Go.Vc Sim
def RmE (w0 : World) (n : Nat) : Prop := ∀ (sh : Shared) (e : PE) (va vo : Value) (left : Int), e.size ≤ n → e.sz → RdEl w0 sh va e.args → RdEl w0 sh vo e.or → -50000000000000000 ≤ left → left ≤ 400 →
  Vc.Fn PP w0 sh 36 [.agg (List.toArray (peC e.kind e.num e.name e.meth va vo)), .int .i64 left] [] (fun v Γ => Γ = [] ∧ ∃ L : Int, v = .int .i64 L ∧ -200000000000000000 ≤ L ∧ L ≤ left ∧ (0 ≤ L → L + e.size ≤ left))
set_option maxHeartbeats 4000000 in
theorem roomE_spec (w0 : World) : ∀ n, RmE w0 n := by
  intro n
  induction n with
  | zero => intro sh e va vo left h; have := e.size_pos; omega
  | succ n ih =>
  intro sh e va vo left hs hz ha ho hl1 hl2
  obtain ⟨z1, z2, z3, z4⟩ := PE.sz_eq hz
  unfold szB at z1 z2
  have hsz := e.size_eq
  have hsa := fun (x : PE) (h : x ∈ e.args) => PE.size_args h
  have hso := fun (x : PE) (h : x ∈ e.or) => PE.size_or h
  obtain ⟨a1, c1, hva, _⟩ := id ha.len
  obtain ⟨a2, c2, hvo, _⟩ := id ho.len
  subst hva; subst hvo
  obtain ⟨L1, hL1⟩ : ∃ L1, left - 1 - ((e.name.size : Nat) : Int) / 100 - ((e.meth.size : Nat) : Int) / 100 = L1 := ⟨_, rfl⟩
  refine fn_of_run en36 fn36 rfl rfl rfl ?_
  repeat (first | refine zck ?_ | refine zcl ?_ | refine zcm ?_ | refine zcn ?_)
  first | refine zcp (by kernel_rfl) ?_ | refine zcq PP_mixed (by kernel_rfl) (by kernel_rfl) ?_
  repeat' (refine zap rfl ?_; first | refine zan rfl ?_ | refine zaq (cs := [_, _, _, _, _, _]) rfl (fun nb => ?_))
  all_goals refine zch ?_
  all_goals repeat (first | refine zck ?_ | refine zcl ?_ | refine zcm ?_ | refine zcn ?_)
  refine run_share [0] rfl ?_
  obtain ⟨be, hbe⟩ : ∃ b, b = nb := ⟨_, rfl⟩
  subst hbe
  repeat (first | refine zck ?_ | refine zcl ?_ | refine zcm ?_ | refine zcn ?_)
  first | refine zcp (by kernel_rfl) ?_ | refine zcq PP_mixed (by kernel_rfl) (by kernel_rfl) ?_
  repeat' (refine zap rfl ?_; first | refine zan rfl ?_ | refine zan rfl ?_ | refine zaa 0 rfl rfl rfl ?_ | refine reg_lenS rfl ?_ | refine zao rfl ?_ | refine zav rfl rfl (by omega) ?_ | refine zax rfl rfl (by omega) ?_)
  all_goals refine zch ?_
  all_goals repeat (first | refine zck ?_ | refine zcl ?_ | refine zcm ?_ | refine zcn ?_)
  repeat (first | refine zck ?_ | refine zcl ?_ | refine zcm ?_ | refine zcn ?_)
  first | refine zcp (by kernel_rfl) ?_ | refine zcq PP_mixed (by kernel_rfl) (by kernel_rfl) ?_
  repeat' (refine zap rfl ?_; first | refine zan rfl ?_)
  all_goals refine zch ?_
  all_goals repeat (refine zck ?_)
  refine run_bind_eq2 (σ := { L : Int // -200000000000000000 ≤ L ∧ L ≤ L1 ∧ (0 ≤ L → L + PE.sizeL e.args ≤ L1) }) (l' := fun s => [(1, .int .i64 s.1), (2, .pointer (some ⟨be, 0, none⟩))]) (Γ' := fun _ => []) ?_ ?_
  · refine zcl ?_
    refine run_loop (S := Nat × Int) (fun s => [(1, .int .i64 s.2), (2, .pointer (some ⟨be, 0, none⟩)), (5, .int .i64 s.1)])
      (fun s Γ => Γ = [] ∧ s.1 ≤ e.args.length ∧ s.1 ≤ 401 ∧ -200000000000000000 ≤ s.2 ∧ s.2 ≤ L1 ∧ (0 ≤ s.2 → s.2 + PE.sizeL (e.args.take s.1) ≤ L1)) (fun s => e.args.length - s.1) (0, L1)
      ⟨int_eq (by dsimp only; omega), rfl, rfl, trivial⟩ ⟨rfl, Nat.zero_le _, by dsimp only; omega, by dsimp only; omega, by dsimp only; omega, fun _ => by simp [PE.sizeL]⟩ ?_
    rintro ⟨j, L⟩ Γ junk ⟨rfl, q1, q0, q2, q3, q4⟩
    dsimp only at q1 q0 q2 q3 q4 ⊢
    by_cases hj : j < e.args.length ∧ 0 ≤ L
    · obtain ⟨hj, hL⟩ := hj
      obtain ⟨x, hx⟩ : ∃ x, e.args[j]? = some x := ⟨_, List.getElem?_eq_getElem hj⟩
      obtain ⟨b, off, cc, T, fr, cs, rfl, e2, e3, e4, _⟩ := ha.at hx
      obtain ⟨va, vo, rfl, r1, r2⟩ := e4.cs
      have hxm := List.mem_iff_getElem?.2 ⟨_, hx⟩
      have hcall := ih sh x va vo L (by have := hsa x hxm; omega) (PE.szL_mem z3 x hxm) r1 r2 (by omega) (by omega)
      have hsn := PE.sizeL_snoc hx
      have hxp := x.size_pos
      have hq4 := q4 hL
      have hlt := PE.sizeL_len (e.args.take j)
      rw [List.length_take] at hlt
      repeat' (first | refine zck ?_ | refine zcp (by kernel_rfl) ?_ | refine zcm ?_ | refine zcl ?_ | refine zcn ?_ | (refine zap rfl ?_; first | refine zad rfl (fun hF Γ w h1 h2 => e2 hF Γ w (fun p hp => h1 p (by simp [hp])) h2) (e3 _ (by omega)) ?_ | refine zaj rfl ?_ | refine zan rfl ?_ | refine zan rfl ?_ | refine zaa 0 rfl rfl rfl ?_ | refine zce rfl ?_ | (refine zai [] hcall rfl rfl rfl (fun p hp => by simp [hp]) ?_; rintro v Γ ⟨rfl, L', rfl, p1, p2, p3⟩) | refine zce rfl ?_ | refine zao rfl ?_ | refine zbg rfl rfl (by omega) ?_ | refine zbm rfl rfl (by omega) ?_ | refine zau rfl rfl (by omega) ?_ | refine zbu rfl ?_ | refine zas rfl rfl (by omega) ?_) | refine zch ?_ | refine zci rfl ?_)
      exact cut_end ⟨rfl, (j + 1, L'), ⟨rfl, rfl, int_eq (by dsimp only; omega), trivial⟩, ⟨rfl, by dsimp only; omega, by dsimp only; omega, by dsimp only; omega, by dsimp only; omega, fun h => by dsimp only at h ⊢; rw [hsn]; have := p3 h; omega⟩, by dsimp only; omega⟩
    · by_cases hj1 : j < e.args.length
      · have hL : L < 0 := by omega
        repeat' (first | refine zck ?_ | refine zcp (by kernel_rfl) ?_ | (refine zap rfl ?_; first | refine zaj rfl ?_ | refine zan rfl ?_ | refine zaa 0 rfl rfl rfl ?_ | refine zce rfl ?_ | refine zao rfl ?_ | refine zbg rfl rfl (by omega) ?_ | refine zbn rfl rfl (by omega) ?_ | refine zbu rfl ?_) | refine zch ?_ | refine zcj rfl ?_)
        refine cut_exit rfl rfl ?_
        exact cut_end ⟨rfl, ⟨L, q2, q3, fun h => by omega⟩, ⟨rfl, rfl, trivial⟩, rfl⟩
      · repeat' (first | refine zck ?_ | refine zcp (by kernel_rfl) ?_ | (refine zap rfl ?_; first | refine zak rfl ?_ | refine zan rfl ?_ | refine zaa 0 rfl rfl rfl ?_ | refine zce rfl ?_ | refine zao rfl ?_ | refine zbh rfl rfl (by omega) ?_ | refine zbv rfl ?_) | refine zch ?_ | refine zcj rfl ?_)
        refine cut_exit rfl rfl ?_
        exact cut_end ⟨rfl, ⟨L, q2, q3, fun h => by have := q4 h; rwa [List.take_of_length_le (by omega)] at this⟩, ⟨rfl, rfl, trivial⟩, rfl⟩
  · rintro ⟨L2, w1, w2, w3⟩ junk
    dsimp only
    repeat (first | refine zck ?_ | refine zcl ?_ | refine zcm ?_ | refine zcn ?_)
    first | refine zcp (by kernel_rfl) ?_ | refine zcq PP_mixed (by kernel_rfl) (by kernel_rfl) ?_
    repeat' (refine zap rfl ?_; first | refine zan rfl ?_)
    all_goals refine zch ?_
    all_goals repeat (first | refine zck ?_ | refine zcl ?_ | refine zcm ?_ | refine zcn ?_)
    refine run_loop (S := Nat × Int) (fun s => [(1, .int .i64 s.2), (2, .pointer (some ⟨be, 0, none⟩)), (6, .int .i64 s.1)])
      (fun s Γ => Γ = [] ∧ s.1 ≤ e.or.length ∧ s.1 ≤ 401 ∧ -200000000000000000 ≤ s.2 ∧ s.2 ≤ L2 ∧ (0 ≤ s.2 → s.2 + PE.sizeL (e.or.take s.1) ≤ L2)) (fun s => e.or.length - s.1) (0, L2)
      ⟨rfl, rfl, rfl, trivial⟩ ⟨rfl, Nat.zero_le _, by dsimp only; omega, by dsimp only; omega, by dsimp only; omega, fun _ => by simp [PE.sizeL]⟩ ?_
    rintro ⟨j, L⟩ Γ junk ⟨rfl, q1, q0, q2, q3, q4⟩
    dsimp only at q1 q0 q2 q3 q4 ⊢
    by_cases hj : j < e.or.length ∧ 0 ≤ L
    · obtain ⟨hj, hL⟩ := hj
      obtain ⟨x, hx⟩ : ∃ x, e.or[j]? = some x := ⟨_, List.getElem?_eq_getElem hj⟩
      obtain ⟨b, off, cc, T, fr, cs, rfl, e2, e3, e4, _⟩ := ho.at hx
      obtain ⟨va, vo, rfl, r1, r2⟩ := e4.cs
      have hxm := List.mem_iff_getElem?.2 ⟨_, hx⟩
      have hcall := ih sh x va vo L (by have := hso x hxm; omega) (PE.szL_mem z4 x hxm) r1 r2 (by omega) (by omega)
      have hsn := PE.sizeL_snoc hx
      have hxp := x.size_pos
      have hq4 := q4 hL
      have hlt := PE.sizeL_len (e.or.take j)
      rw [List.length_take] at hlt
      repeat' (first | refine zck ?_ | refine zcp (by kernel_rfl) ?_ | refine zcm ?_ | refine zcl ?_ | refine zcn ?_ | (refine zap rfl ?_; first | refine zad rfl (fun hF Γ w h1 h2 => e2 hF Γ w (fun p hp => h1 p (by simp [hp])) h2) (e3 _ (by omega)) ?_ | refine zaj rfl ?_ | refine zan rfl ?_ | refine zan rfl ?_ | refine zaa 0 rfl rfl rfl ?_ | refine zce rfl ?_ | (refine zai [] hcall rfl rfl rfl (fun p hp => by simp [hp]) ?_; rintro v Γ ⟨rfl, L', rfl, p1, p2, p3⟩) | refine zce rfl ?_ | refine zao rfl ?_ | refine zbg rfl rfl (by omega) ?_ | refine zbm rfl rfl (by omega) ?_ | refine zau rfl rfl (by omega) ?_ | refine zbu rfl ?_ | refine zas rfl rfl (by omega) ?_) | refine zch ?_ | refine zci rfl ?_)
      exact cut_end ⟨rfl, (j + 1, L'), ⟨rfl, rfl, int_eq (by dsimp only; omega), trivial⟩, ⟨rfl, by dsimp only; omega, by dsimp only; omega, by dsimp only; omega, by dsimp only; omega, fun h => by dsimp only at h ⊢; rw [hsn]; have := p3 h; omega⟩, by dsimp only; omega⟩
    · by_cases hj1 : j < e.or.length
      · have hL : L < 0 := by omega
        repeat' (first | refine zck ?_ | refine zcp (by kernel_rfl) ?_ | (refine zap rfl ?_; first | refine zaj rfl ?_ | refine zan rfl ?_ | refine zaa 0 rfl rfl rfl ?_ | refine zce rfl ?_ | refine zao rfl ?_ | refine zbg rfl rfl (by omega) ?_ | refine zbn rfl rfl (by omega) ?_ | refine zbu rfl ?_) | refine zch ?_ | refine zcj rfl ?_)
        refine cut_exit rfl rfl ?_
        repeat' (first | refine zck ?_ | refine zcp (by kernel_rfl) ?_ | (refine zap rfl ?_; first | refine zan rfl ?_ | refine zan rfl ?_) | refine zch ?_)
        exact ret_tmp1 rfl ⟨rfl, L, rfl, by omega, by omega, fun h => by omega⟩
      · repeat' (first | refine zck ?_ | refine zcp (by kernel_rfl) ?_ | (refine zap rfl ?_; first | refine zak rfl ?_ | refine zan rfl ?_ | refine zaa 0 rfl rfl rfl ?_ | refine zce rfl ?_ | refine zao rfl ?_ | refine zbh rfl rfl (by omega) ?_ | refine zbv rfl ?_) | refine zch ?_ | refine zcj rfl ?_)
        refine cut_exit rfl rfl ?_
        repeat' (first | refine zck ?_ | refine zcp (by kernel_rfl) ?_ | (refine zap rfl ?_; first | refine zan rfl ?_ | refine zan rfl ?_) | refine zch ?_)
        refine ret_tmp1 rfl ⟨rfl, L, rfl, by omega, by omega, fun h => ?_⟩
        have h1 := q4 h
        rw [List.take_of_length_le (by omega)] at h1
        have h2 := w3 (by omega)
        omega
end Go.Proofs.YtfnjeldpfilplaaGreatDoor

namespace Sim
mutual
def PS.sz : PS → Prop
  | .mk _ a _ e xs ys => szB a ∧ e.sz ∧ PS.szL xs ∧ PS.szL ys
def PS.szL : List PS → Prop
  | [] => True
  | e :: l => PS.sz e ∧ PS.szL l
end
theorem PS.sz_eq {e : PS} (h : e.sz) : szB e.name ∧ e.expr.sz ∧ PS.szL e.body ∧ PS.szL e.els := by cases e; unfold PS.sz at h; exact h
theorem PS.szL_mem : ∀ {l : List PS}, PS.szL l → ∀ x ∈ l, x.sz
  | [], _, x, hx => by simp at hx
  | e :: l, h, x, hx => by
    unfold PS.szL at h
    rcases List.mem_cons.1 hx with rfl | hx
    · exact h.1
    · exact PS.szL_mem h.2 x hx
theorem PS.sizeL_snoc : ∀ {l : List PS} {j : Nat} {x : PS}, l[j]? = some x → PS.sizeL (l.take (j + 1)) = PS.sizeL (l.take j) + x.size
  | e :: l, 0, x, h => by simp at h; subst h; simp [PS.sizeL]
  | e :: l, j + 1, x, h => by
    have := PS.sizeL_snoc (l := l) (j := j) (x := x) (by simpa using h)
    rw [List.take_succ_cons, List.take_succ_cons, PS.sizeL, PS.sizeL, this]; omega
theorem PS.size_eq (e : PS) : e.size = 1 + e.expr.size + PS.sizeL e.body + PS.sizeL e.els := by cases e; unfold PS.size; rfl
end Sim
namespace Go.Proofs.YtfnjeldpfilplaaGreatDoor
open Go.Vc Sim
set_option maxHeartbeats 4000000 in
theorem room_spec (w0 : World) : ∀ (n : Nat) (sh : Shared) (v : Value) (l : List PS) (left : Int), PS.sizeL l ≤ n → PS.szL l → RdSt w0 sh v l → -200000000000000000 ≤ left → left ≤ 400 →
    Vc.Fn PP w0 sh 23 [v, .int .i64 left] [] (fun v Γ => Γ = [] ∧ ∃ L : Int, v = .int .i64 L ∧ -200000000000000000 ≤ L ∧ L ≤ left ∧ (0 ≤ L → L + PS.sizeL l ≤ left)) := by
  intro n
  induction n using Nat.strongRecOn with
  | _ n ih =>
  intro sh v l left hn hz hr hl1 hl2
  obtain ⟨a, c, hv, _⟩ := hr.len
  subst hv
  refine fn_of_run en23 fn23 rfl rfl rfl ?_
  repeat' (first | refine zck ?_ | refine zcp (by kernel_rfl) ?_ | refine zcl ?_ | (refine zap rfl ?_; first | refine zan rfl ?_) | refine zch ?_)
  refine run_loop (S := Nat × Int) (fun s => [(0, .slice a l.length c), (1, .int .i64 s.2), (5, .int .i64 s.1)])
    (fun s Γ => Γ = [] ∧ s.1 ≤ l.length ∧ s.1 ≤ 401 ∧ -200000000000000000 ≤ s.2 ∧ s.2 ≤ left ∧ (0 ≤ s.2 → s.2 + PS.sizeL (l.take s.1) ≤ left)) (fun s => l.length - s.1) (0, left)
    ⟨rfl, rfl, rfl, trivial⟩ ⟨rfl, Nat.zero_le _, by dsimp only; omega, by dsimp only; omega, by dsimp only; omega, fun _ => by simp [PS.sizeL]⟩ ?_
  rintro ⟨j, L⟩ Γ junk ⟨rfl, q1, q0, q2, q3, q4⟩
  dsimp only at q1 q0 q2 q3 q4 ⊢
  by_cases hj : j < l.length ∧ 0 ≤ L
  · obtain ⟨hj, hL⟩ := hj
    obtain ⟨x, hx⟩ : ∃ x, l[j]? = some x := ⟨_, List.getElem?_eq_getElem hj⟩
    obtain ⟨b, off, cc, T, fr, cs, rfl, e2, e3, e4, e5⟩ := hr.at hx
    obtain ⟨va, vo, vb, ve, rfl, hsp⟩ := e4.sp
    have hxm := List.mem_iff_getElem?.2 ⟨_, hx⟩
    obtain ⟨z1, z2, z3, z4⟩ := PS.sz_eq (PS.szL_mem hz x hxm)
    unfold szB at z1
    have hxs := PS.sizeL_mem hxm
    have hse := x.size_eq
    have hep := x.expr.size_pos
    have k1 := fun L1 h1 h2 => roomE_spec w0 x.expr.size sh x.expr va vo L1 (Nat.le_refl _) z2 hsp.a hsp.o h1 h2
    have k2 := fun L1 h1 h2 => ih (PS.sizeL x.body) (by omega) sh vb x.body L1 (Nat.le_refl _) z3 hsp.b h1 h2
    have k3 := fun L1 h1 h2 => ih (PS.sizeL x.els) (by omega) sh ve x.els L1 (Nat.le_refl _) z4 hsp.e h1 h2
    obtain ⟨a1, c1, hva, _⟩ := hsp.a.len
    obtain ⟨a2, c2, hvo, _⟩ := hsp.o.len
    obtain ⟨a3, c3, hvb, _⟩ := hsp.b.len
    obtain ⟨a4, c4, hve, _⟩ := hsp.e.len
    subst hva; subst hvo; subst hvb; subst hve
    have hsn := PS.sizeL_snoc hx
    have hq4 := q4 hL
    have hlt := PS.sizeL_len (l.take j)
    rw [List.length_take] at hlt
    have rE : ∀ o, o = off + j * 11 + 3 → rd true 6 cc.toList o = some (.agg (List.toArray (peC x.expr.kind x.expr.num x.expr.name x.expr.meth (.slice a1 x.expr.args.length c1) (.slice a2 x.expr.or.length c2)))) := fun o ho =>
      rd_cells (c := cc) (o := off + j * 11 + 3) (q := 6) rfl (fun k u hk => by
        have h6 : k < 6 := (List.getElem?_eq_some_iff.1 hk).1
        have h7 := e5 (3 + k) u (by
          rcases (by omega : k = 0 ∨ k = 1 ∨ k = 2 ∨ k = 3 ∨ k = 4 ∨ k = 5) with rfl | rfl | rfl | rfl | rfl | rfl <;> exact hk) (off + j * 11 + (3 + k)) rfl
        have h8 : nth cc.toList (off + j * 11 + (3 + k)) = some u := h7
        rw [nth_eq] at h8
        simpa [Nat.add_assoc] using h8) o ho
    repeat (first | refine zck ?_ | refine zcl ?_ | refine zcm ?_ | refine zcn ?_)
    first | refine zcp (by kernel_rfl) ?_ | refine zcq PP_mixed (by kernel_rfl) (by kernel_rfl) ?_
    repeat' (refine zap rfl ?_; first | refine zaj rfl ?_ | refine zan rfl ?_ | refine zce rfl ?_ | refine zbg rfl rfl (by omega) ?_ | refine zbm rfl rfl (by omega) ?_ | refine zbu rfl ?_)
    all_goals refine zch ?_
    all_goals repeat (first | refine zck ?_ | refine zcl ?_ | refine zcm ?_ | refine zcn ?_)
    refine zci rfl ?_
    repeat (first | refine zck ?_ | refine zcl ?_ | refine zcm ?_ | refine zcn ?_)
    first | refine zcp (by kernel_rfl) ?_ | refine zcq PP_mixed (by kernel_rfl) (by kernel_rfl) ?_
    repeat' (refine zap rfl ?_; first | refine zad rfl e2 (rE _ (by omega)) ?_ | refine zad rfl e2 (e5 1 _ rfl _ (by omega)) ?_ | refine zan rfl ?_ | refine zan rfl ?_ | refine reg_lenS rfl ?_ | (refine zai [] (k1 _ (by omega) (by omega)) rfl rfl rfl (fun _ h => h) ?_; rintro v Γ ⟨rfl, L2, rfl, p1, p2, p3⟩) | refine zao rfl ?_ | refine zav rfl rfl (by omega) ?_ | refine zax rfl rfl (by omega) ?_ | refine zas rfl rfl (by omega) ?_)
    all_goals refine zch ?_
    all_goals repeat (first | refine zck ?_ | refine zcl ?_ | refine zcm ?_ | refine zcn ?_)
    repeat' (first | refine zcp (by kernel_rfl) ?_ | refine zcq PP_mixed (by kernel_rfl) (by kernel_rfl) ?_ | refine zcn ?_ | (refine zap rfl ?_; first | refine zad rfl e2 (e5 9 _ rfl _ (by omega)) ?_ | refine zad rfl e2 (e5 10 _ rfl _ (by omega)) ?_ | refine zan rfl ?_ | refine zan rfl ?_ | (refine zai [] (k2 _ (by omega) (by omega)) rfl rfl rfl (fun _ h => h) ?_; rintro v Γ ⟨rfl, L3, rfl, p4, p5, p6⟩) | (refine zai [] (k3 _ (by omega) (by omega)) rfl rfl rfl (fun _ h => h) ?_; rintro v Γ ⟨rfl, L4, rfl, p7, p8, p9⟩) | refine zao rfl ?_ | refine zau rfl rfl (by omega) ?_ | refine zas rfl rfl (by omega) ?_) | refine zch ?_)
    exact cut_end ⟨rfl, (j + 1, L4), ⟨rfl, rfl, int_eq (by dsimp only; omega), trivial⟩, ⟨rfl, by dsimp only; omega, by dsimp only; omega, by dsimp only; omega, by dsimp only; omega, fun h => by dsimp only at h ⊢; rw [hsn]; have h1 := p9 h; have h2 := p6 (by omega); have h3 := p3 (by omega); omega⟩, by dsimp only; omega⟩
  · by_cases hj1 : j < l.length
    · have hL : L < 0 := by omega
      repeat' (first | refine zck ?_ | refine zcp (by kernel_rfl) ?_ | (refine zap rfl ?_; first | refine zaj rfl ?_ | refine zan rfl ?_ | refine zce rfl ?_ | refine zbg rfl rfl (by omega) ?_ | refine zbn rfl rfl (by omega) ?_ | refine zbu rfl ?_) | refine zch ?_ | refine zcj rfl ?_)
      refine cut_exit rfl rfl ?_
      repeat' (first | refine zck ?_ | refine zcp (by kernel_rfl) ?_ | (refine zap rfl ?_; first | refine zan rfl ?_ | refine zan rfl ?_) | refine zch ?_)
      exact ret_tmp1 rfl ⟨rfl, L, rfl, q2, q3, fun h => by omega⟩
    · repeat' (first | refine zck ?_ | refine zcp (by kernel_rfl) ?_ | (refine zap rfl ?_; first | refine zak rfl ?_ | refine zan rfl ?_ | refine zce rfl ?_ | refine zbh rfl rfl (by omega) ?_ | refine zbv rfl ?_) | refine zch ?_ | refine zcj rfl ?_)
      refine cut_exit rfl rfl ?_
      repeat' (first | refine zck ?_ | refine zcp (by kernel_rfl) ?_ | (refine zap rfl ?_; first | refine zan rfl ?_ | refine zan rfl ?_) | refine zch ?_)
      exact ret_tmp1 rfl ⟨rfl, L, rfl, q2, q3, fun h => by have := q4 h; rwa [List.take_of_length_le (by omega)] at this⟩
end Go.Proofs.YtfnjeldpfilplaaGreatDoor

