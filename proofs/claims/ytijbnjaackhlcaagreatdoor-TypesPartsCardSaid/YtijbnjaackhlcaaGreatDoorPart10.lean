import Derived.Test.YtijbnjaackhlcaaGreatDoorPart9
import Derived.Test.YtijbnjaackhlcaaGreatDoorKit
import Derived.Test.YtijbnjaackhlcaaGreatDoorPart7
import Derived.Test.YtijbnjaackhlcaaGreatDoorPart5
/- Lemmas and walks for the claims of this seat (own work): Yp4 Yp5 Yw2 Ty4. -/
namespace Go.Proofs.YtijbnjaackhlcaaGreatDoor
open Go.Vc Sim
theorem has2_spec (w0 : World) (k : Int) : FnE PP w0 [] 78 [.int .i64 k] [] (.bool (hasEx k)) [] := by
  by_cases h4 : k = 4
  · subst h4
    refine fn_of_run en78 fn78 rfl rfl rfl ?_
    repeat' (first | refine zck ?_ | refine zcp (by kernel_rfl) ?_ | (refine zap rfl ?_; first | refine zak rfl ?_ | refine zan rfl ?_ | refine zan rfl ?_ | refine zbf rfl rfl (by omega) ?_ | refine zbv rfl ?_) | refine zch ?_)
    exact ret_tmp1 rfl ⟨rfl, rfl⟩
  · by_cases h6 : k = 6
    · subst h6
      refine fn_of_run en78 fn78 rfl rfl rfl ?_
      repeat' (first | refine zck ?_ | refine zcp (by kernel_rfl) ?_ | (refine zap rfl ?_; first | refine zaj rfl ?_ | refine zan rfl ?_ | refine zan rfl ?_ | refine zbe rfl rfl (by omega) ?_ | refine zbf rfl rfl (by omega) ?_ | refine zbu rfl ?_) | refine zch ?_)
      exact ret_tmp1 rfl ⟨rfl, rfl⟩
    · have hh : hasEx k = true := by unfold hasEx; simp [h4, h6]
      rw [hh]
      refine fn_of_run en78 fn78 rfl rfl rfl ?_
      repeat' (first | refine zck ?_ | refine zcp (by kernel_rfl) ?_ | (refine zap rfl ?_; first | refine zaj rfl ?_ | refine zan rfl ?_ | refine zan rfl ?_ | refine zbe rfl rfl (by omega) ?_ | refine zbu rfl ?_) | refine zch ?_)
      exact ret_tmp1 rfl ⟨rfl, rfl⟩
set_option maxHeartbeats 8000000 in
theorem one_spec (w0 : World) (sh : Shared) (sb mv ms ma : Nat) (a : Option Addr) (c : Nat) (ks : List (ByteArray × ByteArray)) (all there : TV) (s : PS) (va vo vb ve : Value) (hsp : RdSp w0 sh s va vo vb ve) (hsz : s.size ≤ 100000) (hks : RdM w0 sh ms (kS ks)) (hst : TySt all there) (hb : there.length ≤ 100000) :
    Vc.Fn PP w0 sh 61 [.pointer (some ⟨sb, 0, none⟩), .agg (List.toArray (psC s va vo vb ve))] (ScA sb mv ms ma a c all there)
      (fun v Γ => v = .int .i64 (oneT (lookK ks) all there s).2.2 ∧ ∃ a' c', Γ = ScA sb mv ms ma a' c' (oneT (lookK ks) all there s).1 (oneT (lookK ks) all there s).2.1) := by
  have hhas := has2_spec w0 s.kind
  obtain ⟨a1, c1, hva, _⟩ := hsp.a.len
  obtain ⟨a2, c2, hvo, _⟩ := hsp.o.len
  obtain ⟨a3, c3, hvb, _⟩ := hsp.b.len
  obtain ⟨a4, c4, hve, _⟩ := hsp.e.len
  subst hva; subst hvo; subst hvb; subst hve
  cases hx : hasEx s.kind with
  | false =>
    have hk : s.kind = 4 ∨ s.kind = 6 := by
      unfold hasEx at hx
      simp at hx
      omega
    have hone : oneT (lookK ks) all there s = (all, there, 0) := by
      unfold oneT exT
      simp only [hx, Bool.false_eq_true, if_false, ne_eq, not_true_eq_false]
      rw [if_neg (by omega), if_neg (by omega), if_neg (by omega)]
    rw [hone]
    rw [hx] at hhas
    refine fn_of_run en61 fn61 rfl rfl rfl ?_
    repeat (first | refine zck ?_ | refine zcl ?_ | refine zcm ?_ | refine zcn ?_)
    first | refine zcp (by kernel_rfl) ?_ | refine zcq PP_mixed (by kernel_rfl) (by kernel_rfl) ?_
    repeat' (refine zap rfl ?_; first | refine zaq (cs := [_, _, _, _, _, _, _, _, _, _, _]) rfl (fun tx => ?_) | refine zan rfl ?_)
    all_goals refine zch ?_
    all_goals repeat (first | refine zck ?_ | refine zcl ?_ | refine zcm ?_ | refine zcn ?_)
    refine run_share [4] rfl ?_
    repeat (first | refine zck ?_ | refine zcl ?_ | refine zcm ?_ | refine zcn ?_)
    first | refine zcp (by kernel_rfl) ?_ | refine zcq PP_mixed (by kernel_rfl) (by kernel_rfl) ?_
    repeat' (refine zap rfl ?_; first | refine zaa 0 rfl rfl rfl ?_ | refine zah [] hhas rfl rfl rfl sub_nil rfl ?_ | refine zao rfl ?_ | refine zbx rfl ?_)
    all_goals refine zch ?_
    all_goals repeat (first | refine zck ?_ | refine zcl ?_ | refine zcm ?_ | refine zcn ?_)
    refine zci rfl ?_
    repeat (first | refine zck ?_ | refine zcl ?_ | refine zcm ?_ | refine zcn ?_)
    first | refine zcp (by kernel_rfl) ?_ | refine zcq PP_mixed (by kernel_rfl) (by kernel_rfl) ?_
    repeat' (refine zap rfl ?_; first | refine zan rfl ?_)
    all_goals refine zch ?_
    all_goals repeat (first | refine zck ?_ | refine zcl ?_ | refine zcm ?_ | refine zcn ?_)
    exact ret_tmp1 rfl ⟨rfl, a, c, rfl⟩
  | true =>
  rw [hx] at hhas
  have hE : envM there ks = envT (lookK ks) there := envM_T hst.ndT
  have hzx := s.size_expr
  have hOf : Vc.Fn PP w0 sh 16 [.agg (List.toArray (peC s.expr.kind s.expr.num s.expr.name s.expr.meth (.slice a1 s.expr.args.length c1) (.slice a2 s.expr.or.length c2))), .map (some mv), .map (some ms)] [MapB mv (tvS there)]
      (fun v Γ => v = resT (typeOf (envT (lookK ks) there) s.expr) ∧ Γ = [MapB mv (tvS there)]) := by
    refine (Fn.lendB (r := mv) (ml := tvS there) en16 (fun sh' h1 h2 => typesOf_spec w0 sh' mv ms there ks s.expr _ _ (by omega) ⟨h2, hks.mono h1⟩ (hsp.a.mono h1) (hsp.o.mono h1))).mono ?_
    rintro v Γ ⟨_, ⟨rfl, rfl⟩, rfl⟩
    rw [hE]
    exact ⟨rfl, rfl⟩
  have hex : exT (lookK ks) there s = typeOf (envT (lookK ks) there) s.expr := by unfold exT; rw [if_pos hx]
  have hok := typeOf_ok (envT (lookK ks) there) s.expr
  obtain ⟨O, hO⟩ : ∃ O, oneT (lookK ks) all there s = O := ⟨_, rfl⟩
  rw [hO]
  unfold oneT at hO
  rw [hex] at hO
  generalize typeOf (envT (lookK ks) there) s.expr = T at *
  obtain ⟨tt, ec⟩ := T
  dsimp only at hO hok hOf
  refine fn_of_run en61 fn61 rfl rfl rfl ?_
  repeat (first | refine zck ?_ | refine zcl ?_ | refine zcm ?_ | refine zcn ?_)
  first | refine zcp (by kernel_rfl) ?_ | refine zcq PP_mixed (by kernel_rfl) (by kernel_rfl) ?_
  repeat' (refine zap rfl ?_; first | refine zaq (cs := [_, _, _, _, _, _, _, _, _, _, _]) rfl (fun tx => ?_) | refine zan rfl ?_)
  all_goals refine zch ?_
  all_goals repeat (first | refine zck ?_ | refine zcl ?_ | refine zcm ?_ | refine zcn ?_)
  refine run_share [4] rfl ?_
  repeat (first | refine zck ?_ | refine zcl ?_ | refine zcm ?_ | refine zcn ?_)
  first | refine zcp (by kernel_rfl) ?_ | refine zcq PP_mixed (by kernel_rfl) (by kernel_rfl) ?_
  repeat' (refine zap rfl ?_; first | refine zaa 0 rfl rfl rfl ?_ | refine zah [] hhas rfl rfl rfl sub_nil rfl ?_ | refine zao rfl ?_ | refine zbx rfl ?_)
  all_goals refine zch ?_
  all_goals repeat (first | refine zck ?_ | refine zcl ?_ | refine zcm ?_ | refine zcn ?_)
  refine zcj rfl ?_
  repeat (first | refine zck ?_ | refine zcl ?_ | refine zcm ?_ | refine zcn ?_)
  first | refine zcp (by kernel_rfl) ?_ | refine zcr [(.quiet, 0), (.read, 1), (.quiet, 2), (.quiet, 3), (.quiet, 4), (.quiet, 5), (.read, 6), (.quiet, 7), (.quiet, 8), (.quiet, 9), (.quiet, 10), (.read, 11), (.loud, 12), (.quiet, 13), (.quiet, 14), (.quiet, 15), (.quiet, 16), (.quiet, 17)] PP_mixed (by kernel_rfl) (by kernel_rfl) ?_ | refine run_drawR PP_mixed (by kernel_rfl) (by kernel_rfl) ?_
  repeat' (refine zap rfl ?_; first | refine zan rfl ?_ | refine zan rfl ?_ | refine zaa 0 rfl rfl rfl ?_ | refine zab 0 rfl rfl rfl ?_ | (refine zai [1] hOf rfl rfl rfl (fun p hp => .tail _ hp) ?_; rintro v Γ ⟨rfl, rfl⟩) | refine zao rfl ?_ | refine zan rfl ?_ | refine zan rfl ?_)
  all_goals refine zch ?_
  all_goals repeat (first | refine zck ?_ | refine zcl ?_ | refine zcm ?_ | refine zcn ?_)
  refine run_take [1, 0, 0, 0] rfl ?_
  by_cases hec : ec = 0
  rotate_left
  · rw [if_pos hec] at hO
    subst hO
    repeat (first | refine zck ?_ | refine zcl ?_ | refine zcm ?_ | refine zcn ?_)
    first | refine zcp (by kernel_rfl) ?_ | refine zcq PP_mixed (by kernel_rfl) (by kernel_rfl) ?_
    repeat' (refine zap rfl ?_; first | refine zan rfl ?_ | refine zbe rfl rfl (by omega) ?_)
    all_goals refine zch ?_
    all_goals repeat (first | refine zck ?_ | refine zcl ?_ | refine zcm ?_ | refine zcn ?_)
    refine zci rfl ?_
    repeat (first | refine zck ?_ | refine zcl ?_ | refine zcm ?_ | refine zcn ?_)
    first | refine zcp (by kernel_rfl) ?_ | refine zcq PP_mixed (by kernel_rfl) (by kernel_rfl) ?_
    repeat' (refine zap rfl ?_; first | refine zan rfl ?_ | refine zan rfl ?_)
    all_goals refine zch ?_
    all_goals repeat (first | refine zck ?_ | refine zcl ?_ | refine zcm ?_ | refine zcn ?_)
    exact ret_tmp1 rfl ⟨rfl, a, c, rfl⟩
  rw [if_neg (fun q => q hec)] at hO
  repeat (first | refine zck ?_ | refine zcl ?_ | refine zcm ?_ | refine zcn ?_)
  first | refine zcp (by kernel_rfl) ?_ | refine zcq PP_mixed (by kernel_rfl) (by kernel_rfl) ?_
  repeat' (refine zap rfl ?_; first | refine zan rfl ?_ | refine zbf rfl rfl (by omega) ?_)
  all_goals refine zch ?_
  all_goals repeat (first | refine zck ?_ | refine zcl ?_ | refine zcm ?_ | refine zcn ?_)
  refine zcj rfl ?_
  repeat (first | refine zck ?_ | refine zcl ?_ | refine zcm ?_ | refine zcn ?_)
  first | refine zcp (by kernel_rfl) ?_ | refine zcq PP_mixed (by kernel_rfl) (by kernel_rfl) ?_
  repeat' (refine zap rfl ?_; first | refine zaa 0 rfl rfl rfl ?_ | refine zao rfl ?_)
  all_goals refine zch ?_
  all_goals repeat (first | refine zck ?_ | refine zcl ?_ | refine zcm ?_ | refine zcn ?_)
  have hwT := wrong_spec w0 true
  have hwF := wrong_spec w0 false
  by_cases h0 : s.kind = 0
  · rw [if_pos h0] at hO
    repeat (first | refine zck ?_ | refine zcl ?_ | refine zcm ?_ | refine zcn ?_)
    first | refine zcp (by kernel_rfl) ?_ | refine zcq PP_mixed (by kernel_rfl) (by kernel_rfl) ?_
    repeat' (refine zap rfl ?_; first | refine zan rfl ?_ | refine zbc rfl rfl (by omega) ?_)
    all_goals refine zch ?_
    all_goals repeat (first | refine zck ?_ | refine zcl ?_ | refine zcm ?_ | refine zcn ?_)
    refine zci rfl ?_
    by_cases hty : typT all s.name = 0
    · rw [if_neg (fun q => q hty)] at hO
      subst hO
      have hn1 := (typT_zero hst.okA s.name).1 hty
      have hn2 : s.name ∉ there.map (·.1) := fun hm => by
        obtain ⟨v, hv, e⟩ := List.mem_map.1 hm
        exact hn1 (List.mem_map.2 ⟨v, hst.sub v hv, e⟩)
      have hadd := add_spec w0 sb mv ms ma a c all there s.name tt hn1 hn2 (by omega)
      repeat (first | refine zck ?_ | refine zcl ?_ | refine zcm ?_ | refine zcn ?_)
      first | refine zcp (by kernel_rfl) ?_ | refine zcr [(.quiet, 0), (.quiet, 1), (.quiet, 2), (.read, 3), (.quiet, 4), (.read, 5), (.loud, 6), (.quiet, 7), (.quiet, 8), (.quiet, 9), (.quiet, 10), (.quiet, 11)] PP_mixed (by kernel_rfl) (by kernel_rfl) ?_ | refine run_drawR PP_mixed (by kernel_rfl) (by kernel_rfl) ?_
      repeat' (refine zap rfl ?_; first | refine reg_lookupB 2 (v := .tuple #[.int .i64 0, .bool false]) rfl rfl rfl (by rw [lookV_S, lookV_none hn1]; rfl) ?_ | refine zan rfl ?_ | refine zan rfl ?_ | refine zaa 0 rfl rfl rfl ?_ | refine zab 0 rfl rfl rfl ?_ | refine zao rfl ?_ | refine zan rfl ?_ | refine zan rfl ?_)
      all_goals refine zch ?_
      all_goals repeat (first | refine zck ?_ | refine zcl ?_ | refine zcm ?_ | refine zcn ?_)
      repeat (first | refine zck ?_ | refine zcl ?_ | refine zcm ?_ | refine zcn ?_)
      first | refine zcp (by kernel_rfl) ?_ | refine zcq PP_mixed (by kernel_rfl) (by kernel_rfl) ?_
      repeat' (refine zap rfl ?_; first | refine zan rfl ?_)
      all_goals refine zch ?_
      all_goals repeat (first | refine zck ?_ | refine zcl ?_ | refine zcm ?_ | refine zcn ?_)
      refine zcj rfl ?_
      repeat (first | refine zck ?_ | refine zcl ?_ | refine zcm ?_ | refine zcn ?_)
      first | refine zcp (by kernel_rfl) ?_ | refine zcq PP_mixed (by kernel_rfl) (by kernel_rfl) ?_
      repeat' (refine zap rfl ?_; first | refine zan rfl ?_ | refine zaa 0 rfl rfl rfl ?_ | (refine zai [0, 0, 0, 0] hadd rfl rfl rfl sub_nil ?_; rintro v Γ ⟨rfl, a', c', rfl⟩) | refine zao rfl ?_)
      all_goals refine zch ?_
      all_goals repeat (first | refine zck ?_ | refine zcl ?_ | refine zcm ?_ | refine zcn ?_)
      repeat' (first | refine zcp (by kernel_rfl) ?_ | (refine zap rfl ?_; first | refine zan rfl ?_) | refine zch ?_)
      exact ret_tmp1 rfl ⟨rfl, a', c', rfl⟩
    · rw [if_pos hty] at hO
      subst hO
      obtain ⟨T0, hT0⟩ : ∃ T0, lookV all s.name = some T0 := by
        cases hq : lookV all s.name with
        | none => exact absurd (by rw [show typT all s.name = lastT all s.name 0 from rfl, lookV_last hst.ndA, hq]; rfl) hty
        | some T0 => exact ⟨T0, rfl⟩
      repeat (first | refine zck ?_ | refine zcl ?_ | refine zcm ?_ | refine zcn ?_)
      first | refine zcp (by kernel_rfl) ?_ | refine zcr [(.quiet, 0), (.quiet, 1), (.quiet, 2), (.read, 3), (.quiet, 4), (.read, 5), (.loud, 6), (.quiet, 7), (.quiet, 8), (.quiet, 9), (.quiet, 10), (.quiet, 11)] PP_mixed (by kernel_rfl) (by kernel_rfl) ?_ | refine run_drawR PP_mixed (by kernel_rfl) (by kernel_rfl) ?_
      repeat' (refine zap rfl ?_; first | refine reg_lookupB 2 (v := .tuple #[.int .i64 T0, .bool true]) rfl rfl rfl (by rw [lookV_S, hT0]; rfl) ?_ | refine zan rfl ?_ | refine zan rfl ?_ | refine zaa 0 rfl rfl rfl ?_ | refine zab 0 rfl rfl rfl ?_ | refine zao rfl ?_ | refine zan rfl ?_ | refine zan rfl ?_)
      all_goals refine zch ?_
      all_goals repeat (first | refine zck ?_ | refine zcl ?_ | refine zcm ?_ | refine zcn ?_)
      repeat (first | refine zck ?_ | refine zcl ?_ | refine zcm ?_ | refine zcn ?_)
      first | refine zcp (by kernel_rfl) ?_ | refine zcq PP_mixed (by kernel_rfl) (by kernel_rfl) ?_
      repeat' (refine zap rfl ?_; first | refine zan rfl ?_)
      all_goals refine zch ?_
      all_goals repeat (first | refine zck ?_ | refine zcl ?_ | refine zcm ?_ | refine zcn ?_)
      refine zci rfl ?_
      repeat (first | refine zck ?_ | refine zcl ?_ | refine zcm ?_ | refine zcn ?_)
      first | refine zcp (by kernel_rfl) ?_ | refine zcq PP_mixed (by kernel_rfl) (by kernel_rfl) ?_
      repeat' (refine zap rfl ?_; first | refine zan rfl ?_)
      all_goals refine zch ?_
      all_goals repeat (first | refine zck ?_ | refine zcl ?_ | refine zcm ?_ | refine zcn ?_)
      exact ret_tmp1 rfl ⟨rfl, a, c, rfl⟩
  rw [if_neg h0] at hO
  repeat (first | refine zck ?_ | refine zcl ?_ | refine zcm ?_ | refine zcn ?_)
  first | refine zcp (by kernel_rfl) ?_ | refine zcq PP_mixed (by kernel_rfl) (by kernel_rfl) ?_
  repeat' (refine zap rfl ?_; first | refine zan rfl ?_ | refine zbd rfl rfl (by omega) ?_)
  all_goals refine zch ?_
  all_goals repeat (first | refine zck ?_ | refine zcl ?_ | refine zcm ?_ | refine zcn ?_)
  refine zcj rfl ?_
  by_cases h1 : s.kind = 1
  · have hvt : (lookS (tvS there) s.name).getD (.int .i64 0) = .int .i64 (typT there s.name) := by
      rw [lookV_get, show typT there s.name = lastT there s.name 0 from rfl, lookV_last hst.ndT]
    repeat (first | refine zck ?_ | refine zcl ?_ | refine zcm ?_ | refine zcn ?_)
    first | refine zcp (by kernel_rfl) ?_ | refine zcq PP_mixed (by kernel_rfl) (by kernel_rfl) ?_
    repeat' (refine zap rfl ?_; first | refine zan rfl ?_ | refine zbc rfl rfl (by omega) ?_)
    all_goals refine zch ?_
    all_goals repeat (first | refine zck ?_ | refine zcl ?_ | refine zcm ?_ | refine zcn ?_)
    refine zci rfl ?_
    by_cases hty : typT there s.name = 0
    · rw [if_pos ⟨h1, hty⟩] at hO
      subst hO
      repeat (first | refine zck ?_ | refine zcl ?_ | refine zcm ?_ | refine zcn ?_)
      first | refine zcp (by kernel_rfl) ?_ | refine zcr [(.quiet, 0), (.quiet, 1), (.quiet, 2), (.quiet, 3), (.read, 4), (.quiet, 5), (.read, 6), (.loud, 7), (.quiet, 8)] PP_mixed (by kernel_rfl) (by kernel_rfl) ?_ | refine run_drawR PP_mixed (by kernel_rfl) (by kernel_rfl) ?_
      repeat' (refine zap rfl ?_; first | refine reg_lookupB 1 (v := .int .i64 (typT there s.name)) rfl rfl rfl hvt ?_ | refine zan rfl ?_ | refine zaa 0 rfl rfl rfl ?_ | refine zab 0 rfl rfl rfl ?_ | refine zao rfl ?_ | refine zbc rfl rfl (by omega) ?_ | refine zan rfl ?_)
      all_goals refine zch ?_
      all_goals repeat (first | refine zck ?_ | refine zcl ?_ | refine zcm ?_ | refine zcn ?_)
      refine zci rfl ?_
      repeat (first | refine zck ?_ | refine zcl ?_ | refine zcm ?_ | refine zcn ?_)
      first | refine zcp (by kernel_rfl) ?_ | refine zcq PP_mixed (by kernel_rfl) (by kernel_rfl) ?_
      repeat' (refine zap rfl ?_; first | refine zan rfl ?_)
      all_goals refine zch ?_
      all_goals repeat (first | refine zck ?_ | refine zcl ?_ | refine zcm ?_ | refine zcn ?_)
      exact ret_tmp1 rfl ⟨rfl, a, c, rfl⟩
    rw [if_neg (fun q => hty q.2)] at hO
    repeat (first | refine zck ?_ | refine zcl ?_ | refine zcm ?_ | refine zcn ?_)
    first | refine zcp (by kernel_rfl) ?_ | refine zcr [(.quiet, 0), (.quiet, 1), (.quiet, 2), (.quiet, 3), (.read, 4), (.quiet, 5), (.read, 6), (.loud, 7), (.quiet, 8)] PP_mixed (by kernel_rfl) (by kernel_rfl) ?_ | refine run_drawR PP_mixed (by kernel_rfl) (by kernel_rfl) ?_
    repeat' (refine zap rfl ?_; first | refine reg_lookupB 1 (v := .int .i64 (typT there s.name)) rfl rfl rfl hvt ?_ | refine zan rfl ?_ | refine zaa 0 rfl rfl rfl ?_ | refine zab 0 rfl rfl rfl ?_ | refine zao rfl ?_ | refine zbd rfl rfl (by omega) ?_ | refine zan rfl ?_)
    all_goals refine zch ?_
    all_goals repeat (first | refine zck ?_ | refine zcl ?_ | refine zcm ?_ | refine zcn ?_)
    refine zcj rfl ?_
    by_cases hne : typT there s.name = tt
    · rw [if_neg (by rintro (⟨_, q⟩ | ⟨q, _⟩ | ⟨q, _⟩); exact q hne; omega; omega)] at hO
      subst hO
      repeat (first | refine zck ?_ | refine zcl ?_ | refine zcm ?_ | refine zcn ?_)
      first | refine zcp (by kernel_rfl) ?_ | refine zcr [(.quiet, 0), (.quiet, 1), (.quiet, 2), (.quiet, 3), (.read, 4), (.quiet, 5), (.read, 6), (.loud, 7), (.quiet, 8), (.quiet, 9), (.loud, 10), (.quiet, 11)] PP_mixed (by kernel_rfl) (by kernel_rfl) ?_ | refine run_drawR PP_mixed (by kernel_rfl) (by kernel_rfl) ?_
      repeat' (refine zap rfl ?_; first | refine reg_lookupB 1 (v := .int .i64 (typT there s.name)) rfl rfl rfl hvt ?_ | refine zan rfl ?_ | refine zan rfl ?_ | refine zaa 0 rfl rfl rfl ?_ | refine zab 0 rfl rfl rfl ?_ | refine zah [] hwF rfl rfl rfl sub_nil rfl ?_ | refine zao rfl ?_ | refine zbf rfl rfl (by omega) ?_ | refine zan rfl ?_)
      all_goals refine zch ?_
      all_goals repeat (first | refine zck ?_ | refine zcl ?_ | refine zcm ?_ | refine zcn ?_)
      exact ret_tmp1 rfl ⟨rfl, a, c, rfl⟩
    · rw [if_pos (.inl ⟨h1, hne⟩)] at hO
      subst hO
      repeat (first | refine zck ?_ | refine zcl ?_ | refine zcm ?_ | refine zcn ?_)
      first | refine zcp (by kernel_rfl) ?_ | refine zcr [(.quiet, 0), (.quiet, 1), (.quiet, 2), (.quiet, 3), (.read, 4), (.quiet, 5), (.read, 6), (.loud, 7), (.quiet, 8), (.quiet, 9), (.loud, 10), (.quiet, 11)] PP_mixed (by kernel_rfl) (by kernel_rfl) ?_ | refine run_drawR PP_mixed (by kernel_rfl) (by kernel_rfl) ?_
      repeat' (refine zap rfl ?_; first | refine reg_lookupB 1 (v := .int .i64 (typT there s.name)) rfl rfl rfl hvt ?_ | refine zan rfl ?_ | refine zan rfl ?_ | refine zaa 0 rfl rfl rfl ?_ | refine zab 0 rfl rfl rfl ?_ | refine zah [] hwT rfl rfl rfl sub_nil rfl ?_ | refine zao rfl ?_ | refine zbe rfl rfl (by omega) ?_ | refine zan rfl ?_)
      all_goals refine zch ?_
      all_goals repeat (first | refine zck ?_ | refine zcl ?_ | refine zcm ?_ | refine zcn ?_)
      exact ret_tmp1 rfl ⟨rfl, a, c, rfl⟩
  rw [if_neg (fun q => h1 q.1)] at hO
  repeat (first | refine zck ?_ | refine zcl ?_ | refine zcm ?_ | refine zcn ?_)
  first | refine zcp (by kernel_rfl) ?_ | refine zcq PP_mixed (by kernel_rfl) (by kernel_rfl) ?_
  repeat' (refine zap rfl ?_; first | refine zan rfl ?_ | refine zbd rfl rfl (by omega) ?_)
  all_goals refine zch ?_
  all_goals repeat (first | refine zck ?_ | refine zcl ?_ | refine zcm ?_ | refine zcn ?_)
  refine zcj rfl ?_
  by_cases h3 : s.kind = 3
  · repeat (first | refine zck ?_ | refine zcl ?_ | refine zcm ?_ | refine zcn ?_)
    first | refine zcp (by kernel_rfl) ?_ | refine zcq PP_mixed (by kernel_rfl) (by kernel_rfl) ?_
    repeat' (refine zap rfl ?_; first | refine zan rfl ?_ | refine zbc rfl rfl (by omega) ?_)
    all_goals refine zch ?_
    all_goals repeat (first | refine zck ?_ | refine zcl ?_ | refine zcm ?_ | refine zcn ?_)
    refine zci rfl ?_
    by_cases hne : tt = 2
    · rw [if_neg (by rintro (⟨q, _⟩ | ⟨_, q⟩ | ⟨q, _⟩); omega; exact q hne; omega)] at hO
      subst hO
      repeat (first | refine zck ?_ | refine zcl ?_ | refine zcm ?_ | refine zcn ?_)
      first | refine zcp (by kernel_rfl) ?_ | refine zcq PP_mixed (by kernel_rfl) (by kernel_rfl) ?_
      repeat' (refine zap rfl ?_; first | refine zan rfl ?_ | refine zan rfl ?_ | refine zah [] hwF rfl rfl rfl sub_nil rfl ?_ | refine zbf rfl rfl (by omega) ?_)
      all_goals refine zch ?_
      all_goals repeat (first | refine zck ?_ | refine zcl ?_ | refine zcm ?_ | refine zcn ?_)
      exact ret_tmp1 rfl ⟨rfl, a, c, rfl⟩
    · rw [if_pos (.inr (.inl ⟨h3, hne⟩))] at hO
      subst hO
      repeat (first | refine zck ?_ | refine zcl ?_ | refine zcm ?_ | refine zcn ?_)
      first | refine zcp (by kernel_rfl) ?_ | refine zcq PP_mixed (by kernel_rfl) (by kernel_rfl) ?_
      repeat' (refine zap rfl ?_; first | refine zan rfl ?_ | refine zan rfl ?_ | refine zah [] hwT rfl rfl rfl sub_nil rfl ?_ | refine zbe rfl rfl (by omega) ?_)
      all_goals refine zch ?_
      all_goals repeat (first | refine zck ?_ | refine zcl ?_ | refine zcm ?_ | refine zcn ?_)
      exact ret_tmp1 rfl ⟨rfl, a, c, rfl⟩
  repeat (first | refine zck ?_ | refine zcl ?_ | refine zcm ?_ | refine zcn ?_)
  first | refine zcp (by kernel_rfl) ?_ | refine zcq PP_mixed (by kernel_rfl) (by kernel_rfl) ?_
  repeat' (refine zap rfl ?_; first | refine zan rfl ?_ | refine zbd rfl rfl (by omega) ?_)
  all_goals refine zch ?_
  all_goals repeat (first | refine zck ?_ | refine zcl ?_ | refine zcm ?_ | refine zcn ?_)
  refine zcj rfl ?_
  by_cases h5 : s.kind = 5
  · repeat (first | refine zck ?_ | refine zcl ?_ | refine zcm ?_ | refine zcn ?_)
    first | refine zcp (by kernel_rfl) ?_ | refine zcq PP_mixed (by kernel_rfl) (by kernel_rfl) ?_
    repeat' (refine zap rfl ?_; first | refine zan rfl ?_ | refine zbc rfl rfl (by omega) ?_)
    all_goals refine zch ?_
    all_goals repeat (first | refine zck ?_ | refine zcl ?_ | refine zcm ?_ | refine zcn ?_)
    refine zci rfl ?_
    by_cases hne : tt = 1
    · rw [if_neg (by rintro (⟨q, _⟩ | ⟨q, _⟩ | ⟨_, q⟩); omega; omega; exact q hne)] at hO
      subst hO
      repeat (first | refine zck ?_ | refine zcl ?_ | refine zcm ?_ | refine zcn ?_)
      first | refine zcp (by kernel_rfl) ?_ | refine zcq PP_mixed (by kernel_rfl) (by kernel_rfl) ?_
      repeat' (refine zap rfl ?_; first | refine zan rfl ?_ | refine zan rfl ?_ | refine zah [] hwF rfl rfl rfl sub_nil rfl ?_ | refine zbf rfl rfl (by omega) ?_)
      all_goals refine zch ?_
      all_goals repeat (first | refine zck ?_ | refine zcl ?_ | refine zcm ?_ | refine zcn ?_)
      exact ret_tmp1 rfl ⟨rfl, a, c, rfl⟩
    · rw [if_pos (.inr (.inr ⟨h5, hne⟩))] at hO
      subst hO
      repeat (first | refine zck ?_ | refine zcl ?_ | refine zcm ?_ | refine zcn ?_)
      first | refine zcp (by kernel_rfl) ?_ | refine zcq PP_mixed (by kernel_rfl) (by kernel_rfl) ?_
      repeat' (refine zap rfl ?_; first | refine zan rfl ?_ | refine zan rfl ?_ | refine zah [] hwT rfl rfl rfl sub_nil rfl ?_ | refine zbe rfl rfl (by omega) ?_)
      all_goals refine zch ?_
      all_goals repeat (first | refine zck ?_ | refine zcl ?_ | refine zcm ?_ | refine zcn ?_)
      exact ret_tmp1 rfl ⟨rfl, a, c, rfl⟩
  rw [if_neg (by rintro (⟨q, _⟩ | ⟨q, _⟩ | ⟨q, _⟩) <;> omega)] at hO
  subst hO
  repeat (first | refine zck ?_ | refine zcl ?_ | refine zcm ?_ | refine zcn ?_)
  first | refine zcp (by kernel_rfl) ?_ | refine zcq PP_mixed (by kernel_rfl) (by kernel_rfl) ?_
  repeat' (refine zap rfl ?_; first | refine zan rfl ?_ | refine zbd rfl rfl (by omega) ?_)
  all_goals refine zch ?_
  all_goals repeat (first | refine zck ?_ | refine zcl ?_ | refine zcm ?_ | refine zcn ?_)
  refine zcj rfl ?_
  repeat' (first | refine zck ?_ | refine zcp (by kernel_rfl) ?_ | refine zcm ?_ | refine zcn ?_ | (refine zap rfl ?_; first | refine zan rfl ?_) | refine zch ?_)
  exact ret_tmp1 rfl ⟨rfl, a, c, rfl⟩
set_option maxHeartbeats 8000000 in
theorem stmtsT_spec (w0 : World) (ks : List (ByteArray × ByteArray)) (sb mv ms ma : Nat) : ∀ (n : Nat), n ≤ 90000 → ∀ (sh : Shared) (a : Option Addr) (c : Nat) (all there : TV) (v : Value) (l : List PS), PS.sizeL l ≤ n → RdSt w0 sh v l → RdM w0 sh ms (kS ks) → TySt all there → there.length + PS.sizeL l ≤ 100000 →
    Vc.Fn PP w0 sh 44 [.pointer (some ⟨sb, 0, none⟩), v] (ScA sb mv ms ma a c all there)
      (fun r Γ => r = .int .i64 (tySs (lookK ks) l all there).2 ∧ ∃ a' c' all2 there2, Γ = ScA sb mv ms ma a' c' all2 there2 ∧ ((tySs (lookK ks) l all there).2 = 0 → all2 = (tySs (lookK ks) l all there).1 ∧ there2 = there)) := by
  intro n
  induction n using Nat.strongRecOn with
  | _ n ih =>
  intro hn sh a c all there v l hs hl hks hst hb
  have hlen := PS.sizeL_len l
  obtain ⟨a0, c0, rfl, hc0⟩ := hl.len
  obtain ⟨O, hO⟩ : ∃ O, tySs (lookK ks) l all there = O := ⟨_, rfl⟩
  rw [hO]
  refine fn_of_run en44 fn44 rfl rfl rfl ?_
  repeat (first | refine zck ?_ | refine zcl ?_ | refine zcm ?_ | refine zcn ?_)
  first | refine zcp (by kernel_rfl) ?_ | refine zcq PP_mixed (by kernel_rfl) (by kernel_rfl) ?_
  repeat' (refine zap rfl ?_; first | refine zan rfl ?_)
  all_goals refine zch ?_
  all_goals repeat (first | refine zck ?_ | refine zcl ?_ | refine zcm ?_ | refine zcn ?_)
  repeat (first | refine zck ?_ | refine zcl ?_ | refine zcm ?_ | refine zcn ?_)
  first | refine zcp (by kernel_rfl) ?_ | refine zcq PP_mixed (by kernel_rfl) (by kernel_rfl) ?_
  repeat' (refine zap rfl ?_; first | refine zan rfl ?_ | refine zan rfl ?_ | refine zab 0 rfl rfl rfl ?_ | refine zce rfl ?_ | refine zao rfl ?_ | refine zan rfl ?_)
  all_goals refine zch ?_
  all_goals repeat (first | refine zck ?_ | refine zcl ?_ | refine zcm ?_ | refine zcn ?_)
  repeat (first | refine zck ?_ | refine zcl ?_ | refine zcm ?_ | refine zcn ?_)
  first | refine zcp (by kernel_rfl) ?_ | refine zcq PP_mixed (by kernel_rfl) (by kernel_rfl) ?_
  repeat' (refine zap rfl ?_; first | refine zan rfl ?_ | refine zce rfl ?_)
  all_goals refine zch ?_
  all_goals repeat (first | refine zck ?_ | refine zcl ?_ | refine zcm ?_ | refine zcn ?_)
  refine run_loop (S := Nat × Option Addr × Nat × TV × TV) (fun s => [(0, .pointer (some ⟨sb, 0, none⟩)), (5, .int .i64 there.length), (16, .slice a0 l.length c0), (17, .int .i64 l.length), (18, .int .i64 (s.1 : Int))])
    (fun s Γ => Γ = ScA sb mv ms ma s.2.1 s.2.2.1 s.2.2.2.1 (there ++ s.2.2.2.2) ∧ s.1 ≤ l.length ∧ TySt s.2.2.2.1 (there ++ s.2.2.2.2) ∧ tySs (lookK ks) (l.drop s.1) s.2.2.2.1 (there ++ s.2.2.2.2) = O ∧ (there ++ s.2.2.2.2).length + PS.sizeL (l.drop s.1) ≤ 100000) (fun s => l.length - s.1) (0, a, c, all, [])
    ⟨rfl, rfl, rfl, rfl, rfl, trivial⟩ ⟨by dsimp only; rw [List.append_nil], Nat.zero_le _, by dsimp only; rw [List.append_nil]; exact hst, by dsimp only; rw [List.append_nil]; exact hO, by dsimp only; rw [List.append_nil]; exact hb⟩ ?_
  rintro ⟨j, a5, c5, A, m⟩ Γ junk ⟨rfl, g1, g2, g3, g4⟩
  dsimp only at g1 g2 g3 g4 ⊢
  by_cases hj : j < l.length
  rotate_left
  · rw [List.drop_of_length_le (by omega), tySs] at g3
    subst g3
    have hbk := back_spec w0 sb mv ms ma a5 c5 A there m g2.ndT (by omega)
    repeat (first | refine zck ?_ | refine zcl ?_ | refine zcm ?_ | refine zcn ?_)
    first | refine zcp (by kernel_rfl) ?_ | refine zcq PP_mixed (by kernel_rfl) (by kernel_rfl) ?_
    repeat' (refine zap rfl ?_; first | refine zbh rfl rfl (by omega) ?_)
    all_goals refine zch ?_
    all_goals repeat (first | refine zck ?_ | refine zcl ?_ | refine zcm ?_ | refine zcn ?_)
    refine zcj rfl ?_
    refine cut_exit rfl rfl ?_
    repeat (first | refine zck ?_ | refine zcl ?_ | refine zcm ?_ | refine zcn ?_)
    first | refine zcp (by kernel_rfl) ?_ | refine zcq PP_mixed (by kernel_rfl) (by kernel_rfl) ?_
    repeat' (refine zap rfl ?_; first | refine zan rfl ?_ | (refine zai [0, 0, 0, 0] hbk rfl rfl rfl sub_nil ?_; rintro v Γ ⟨rfl, a', c', rfl⟩))
    all_goals refine zch ?_
    all_goals repeat (first | refine zck ?_ | refine zcl ?_ | refine zcm ?_ | refine zcn ?_)
    repeat (first | refine zck ?_ | refine zcl ?_ | refine zcm ?_ | refine zcn ?_)
    first | refine zcp (by kernel_rfl) ?_ | refine zcq PP_mixed (by kernel_rfl) (by kernel_rfl) ?_
    repeat' (refine zap rfl ?_; first | refine zan rfl ?_)
    all_goals refine zch ?_
    all_goals repeat (first | refine zck ?_ | refine zcl ?_ | refine zcm ?_ | refine zcn ?_)
    exact ret_tmp1 rfl ⟨rfl, a', c', A, there, rfl, fun _ => ⟨rfl, rfl⟩⟩
  obtain ⟨x, hx⟩ : ∃ x, l[j]? = some x := ⟨_, List.getElem?_eq_getElem hj⟩
  obtain ⟨b, off, cc, T, fr, cs, rfl, e2, e3, e4, _⟩ := hl.at hx
  obtain ⟨va, vo, vb, ve, rfl, hsp⟩ := e4.sp
  have hsp0 := hsp
  obtain ⟨a1, c1, hva, _⟩ := hsp.a.len
  obtain ⟨a2, c2, hvo, _⟩ := hsp.o.len
  obtain ⟨a3, c3, hvb, _⟩ := hsp.b.len
  obtain ⟨a4, c4, hve, _⟩ := hsp.e.len
  subst hva; subst hvo; subst hvb; subst hve
  have hxm := List.mem_iff_getElem?.2 ⟨_, hx⟩
  have hxn := PS.sizeL_mem hxm
  have hsz : x.size = 1 + x.expr.size + PS.sizeL x.body + PS.sizeL x.els := by cases x; rfl
  have hd : l.drop j = x :: l.drop (j + 1) := by
    rw [List.drop_eq_getElem_cons hj]
    congr 1
    exact (List.getElem?_eq_some_iff.1 hx).2
  rw [hd, PS.sizeL] at g4
  rw [hd, tySs] at g3
  have hone := one_spec w0 sh sb mv ms ma a5 c5 ks A (there ++ m) x _ _ _ _ hsp0 (by omega) hks g2 (by omega)
  obtain ⟨m0, o1, o2, o3, o4⟩ := oneT_st (K := lookK ks) (s := x) g2
  obtain ⟨⟨A1, T1, k1⟩, hO1⟩ : ∃ O1, oneT (lookK ks) A (there ++ m) x = O1 := ⟨_, rfl⟩
  have htyS := tyS_eq (lookK ks) x A (there ++ m) A1 T1 k1 hO1
  rw [hO1] at o1 o2 hone
  dsimp only at o1 o2 hone
  subst o2
  have hlT : (there ++ m ++ m0).length ≤ (there ++ m).length + 1 := by simp only [List.length_append]; omega
  have o3' : TySt A1 (there ++ m ++ m0) := by rw [o1]; exact o3
  have kB := fun (a : Option Addr) (c : Nat) => ih (PS.sizeL x.body) (by omega) (by omega) sh a c A1 (there ++ m ++ m0) _ x.body (Nat.le_refl _) hsp0.b hks o3' (by omega)
  obtain ⟨m1, i1, i2⟩ := tySs_st (K := lookK ks) x.body o3'
  obtain ⟨⟨A2, k2⟩, hO2⟩ : ∃ O2, tySs (lookK ks) x.body A1 (there ++ m ++ m0) = O2 := ⟨_, rfl⟩
  rw [hO2] at htyS i1 kB
  dsimp only at htyS i1 kB
  have i2' : TySt A2 (there ++ m ++ m0) := by rw [i1]; exact i2
  have kE := fun (a : Option Addr) (c : Nat) => ih (PS.sizeL x.els) (by omega) (by omega) sh a c A2 (there ++ m ++ m0) _ x.els (Nat.le_refl _) hsp0.e hks i2' (by omega)
  obtain ⟨m2, j1, j2⟩ := tySs_st (K := lookK ks) x.els i2'
  obtain ⟨⟨A3, k3⟩, hO3⟩ : ∃ O3, tySs (lookK ks) x.els A2 (there ++ m ++ m0) = O3 := ⟨_, rfl⟩
  rw [hO3] at htyS j1 kE
  dsimp only at htyS j1 kE
  have j2' : TySt A3 (there ++ m ++ m0) := by rw [j1]; exact j2
  obtain ⟨SS, hSS⟩ : ∃ S, tyS (lookK ks) x A (there ++ m) = S := ⟨_, rfl⟩
  rw [hSS] at g3 htyS
  clear ih
  repeat (first | refine zck ?_ | refine zcl ?_ | refine zcm ?_ | refine zcn ?_)
  first | refine zcp (by kernel_rfl) ?_ | refine zcq PP_mixed (by kernel_rfl) (by kernel_rfl) ?_
  repeat' (refine zap rfl ?_; first | refine zbg rfl rfl (by omega) ?_)
  all_goals refine zch ?_
  all_goals repeat (first | refine zck ?_ | refine zcl ?_ | refine zcm ?_ | refine zcn ?_)
  refine zci rfl ?_
  repeat (first | refine zck ?_ | refine zcl ?_ | refine zcm ?_ | refine zcn ?_)
  first | refine zcp (by kernel_rfl) ?_ | refine zcq PP_mixed (by kernel_rfl) (by kernel_rfl) ?_
  repeat' (refine zap rfl ?_; first | refine zad rfl e2 (e3 _ (by omega)) ?_ | refine zar (fun t7 => ?_) | refine zae 4 rfl rfl rfl rfl rfl rfl rfl ?_ | refine zas rfl rfl (by omega) ?_)
  all_goals refine zch ?_
  all_goals repeat (first | refine zck ?_ | refine zcl ?_ | refine zcm ?_ | refine zcn ?_)
  refine run_share [4] rfl ?_
  repeat (first | refine zck ?_ | refine zcl ?_ | refine zcm ?_ | refine zcn ?_)
  first | refine zcp (by kernel_rfl) ?_ | refine zcq PP_mixed (by kernel_rfl) (by kernel_rfl) ?_
  repeat' (refine zap rfl ?_; first | refine zan rfl ?_ | refine zan rfl ?_ | refine zaa 0 rfl rfl rfl ?_ | (refine zai [0, 0, 0, 0] hone rfl rfl rfl (fun p hp => .tail _ hp) ?_; rintro v Γ ⟨rfl, a6, c6, rfl⟩))
  all_goals refine zch ?_
  all_goals repeat (first | refine zck ?_ | refine zcl ?_ | refine zcm ?_ | refine zcn ?_)
  by_cases hk1 : k1 = 0
  rotate_left
  · rw [if_pos hk1] at htyS
    subst htyS
    dsimp only at g3
    rw [if_pos hk1] at g3
    subst g3
    repeat (first | refine zck ?_ | refine zcl ?_ | refine zcm ?_ | refine zcn ?_)
    first | refine zcp (by kernel_rfl) ?_ | refine zcq PP_mixed (by kernel_rfl) (by kernel_rfl) ?_
    repeat' (refine zap rfl ?_; first | refine zan rfl ?_ | refine zbe rfl rfl (by omega) ?_)
    all_goals refine zch ?_
    all_goals repeat (first | refine zck ?_ | refine zcl ?_ | refine zcm ?_ | refine zcn ?_)
    refine zci rfl ?_
    repeat (first | refine zck ?_ | refine zcl ?_ | refine zcm ?_ | refine zcn ?_)
    first | refine zcp (by kernel_rfl) ?_ | refine zcq PP_mixed (by kernel_rfl) (by kernel_rfl) ?_
    repeat' (refine zap rfl ?_; first | refine zan rfl ?_ | refine zan rfl ?_)
    all_goals refine zch ?_
    all_goals repeat (first | refine zck ?_ | refine zcl ?_ | refine zcm ?_ | refine zcn ?_)
    exact qret1 (fun _ _ h => h) rfl ⟨rfl, a6, c6, A1, _, rfl, fun h => absurd h hk1⟩
  rw [if_neg (fun q => q hk1)] at htyS
  repeat (first | refine zck ?_ | refine zcl ?_ | refine zcm ?_ | refine zcn ?_)
  first | refine zcp (by kernel_rfl) ?_ | refine zcq PP_mixed (by kernel_rfl) (by kernel_rfl) ?_
  repeat' (refine zap rfl ?_; first | refine zan rfl ?_ | refine zbf rfl rfl (by omega) ?_)
  all_goals refine zch ?_
  all_goals repeat (first | refine zck ?_ | refine zcl ?_ | refine zcm ?_ | refine zcn ?_)
  refine zcj rfl ?_
  repeat (first | refine zck ?_ | refine zcl ?_ | refine zcm ?_ | refine zcn ?_)
  first | refine zcp (by kernel_rfl) ?_ | refine zcq PP_mixed (by kernel_rfl) (by kernel_rfl) ?_
  repeat' (refine zap rfl ?_; first | refine zan rfl ?_ | refine zan rfl ?_ | refine zaa 0 rfl rfl rfl ?_ | (refine zai [0, 0, 0, 0] (kB _ _) rfl rfl rfl (fun p hp => .tail _ hp) ?_; rintro v Γ ⟨rfl, a7, c7, B2, S2, rfl, hB2⟩) | refine zao rfl ?_)
  all_goals refine zch ?_
  all_goals repeat (first | refine zck ?_ | refine zcl ?_ | refine zcm ?_ | refine zcn ?_)
  by_cases hk2 : k2 = 0
  rotate_left
  · rw [if_pos hk2] at htyS
    subst htyS
    dsimp only at g3
    rw [if_pos hk2] at g3
    subst g3
    repeat (first | refine zck ?_ | refine zcl ?_ | refine zcm ?_ | refine zcn ?_)
    first | refine zcp (by kernel_rfl) ?_ | refine zcq PP_mixed (by kernel_rfl) (by kernel_rfl) ?_
    repeat' (refine zap rfl ?_; first | refine zan rfl ?_ | refine zbe rfl rfl (by omega) ?_)
    all_goals refine zch ?_
    all_goals repeat (first | refine zck ?_ | refine zcl ?_ | refine zcm ?_ | refine zcn ?_)
    refine zci rfl ?_
    repeat (first | refine zck ?_ | refine zcl ?_ | refine zcm ?_ | refine zcn ?_)
    first | refine zcp (by kernel_rfl) ?_ | refine zcq PP_mixed (by kernel_rfl) (by kernel_rfl) ?_
    repeat' (refine zap rfl ?_; first | refine zan rfl ?_ | refine zan rfl ?_)
    all_goals refine zch ?_
    all_goals repeat (first | refine zck ?_ | refine zcl ?_ | refine zcm ?_ | refine zcn ?_)
    exact qret1 (fun _ _ h => h) rfl ⟨rfl, a7, c7, B2, S2, rfl, fun h => absurd h hk2⟩
  rw [if_neg (fun q => q hk2)] at htyS
  obtain ⟨rfl, rfl⟩ := hB2 hk2
  repeat (first | refine zck ?_ | refine zcl ?_ | refine zcm ?_ | refine zcn ?_)
  first | refine zcp (by kernel_rfl) ?_ | refine zcq PP_mixed (by kernel_rfl) (by kernel_rfl) ?_
  repeat' (refine zap rfl ?_; first | refine zan rfl ?_ | refine zbf rfl rfl (by omega) ?_)
  all_goals refine zch ?_
  all_goals repeat (first | refine zck ?_ | refine zcl ?_ | refine zcm ?_ | refine zcn ?_)
  refine zcj rfl ?_
  repeat (first | refine zck ?_ | refine zcl ?_ | refine zcm ?_ | refine zcn ?_)
  first | refine zcp (by kernel_rfl) ?_ | refine zcq PP_mixed (by kernel_rfl) (by kernel_rfl) ?_
  repeat' (refine zap rfl ?_; first | refine zan rfl ?_ | refine zan rfl ?_ | refine zaa 0 rfl rfl rfl ?_ | (refine zai [0, 0, 0, 0] (kE _ _) rfl rfl rfl (fun p hp => .tail _ hp) ?_; rintro v Γ ⟨rfl, a8, c8, B3, S3, rfl, hB3⟩) | refine zao rfl ?_)
  all_goals refine zch ?_
  all_goals repeat (first | refine zck ?_ | refine zcl ?_ | refine zcm ?_ | refine zcn ?_)
  by_cases hk3 : k3 = 0
  rotate_left
  · subst htyS
    dsimp only at g3
    rw [if_pos hk3] at g3
    subst g3
    repeat (first | refine zck ?_ | refine zcl ?_ | refine zcm ?_ | refine zcn ?_)
    first | refine zcp (by kernel_rfl) ?_ | refine zcq PP_mixed (by kernel_rfl) (by kernel_rfl) ?_
    repeat' (refine zap rfl ?_; first | refine zan rfl ?_ | refine zbe rfl rfl (by omega) ?_)
    all_goals refine zch ?_
    all_goals repeat (first | refine zck ?_ | refine zcl ?_ | refine zcm ?_ | refine zcn ?_)
    refine zci rfl ?_
    repeat (first | refine zck ?_ | refine zcl ?_ | refine zcm ?_ | refine zcn ?_)
    first | refine zcp (by kernel_rfl) ?_ | refine zcq PP_mixed (by kernel_rfl) (by kernel_rfl) ?_
    repeat' (refine zap rfl ?_; first | refine zan rfl ?_ | refine zan rfl ?_)
    all_goals refine zch ?_
    all_goals repeat (first | refine zck ?_ | refine zcl ?_ | refine zcm ?_ | refine zcn ?_)
    exact qret1 (fun _ _ h => h) rfl ⟨rfl, a8, c8, B3, S3, rfl, fun h => absurd h hk3⟩
  subst htyS
  dsimp only at g3
  rw [if_neg (fun q => q hk3)] at g3
  obtain ⟨rfl, rfl⟩ := hB3 hk3
  rw [List.append_assoc] at g3 j2' hlT
  repeat (first | refine zck ?_ | refine zcl ?_ | refine zcm ?_ | refine zcn ?_)
  first | refine zcp (by kernel_rfl) ?_ | refine zcq PP_mixed (by kernel_rfl) (by kernel_rfl) ?_
  repeat' (refine zap rfl ?_; first | refine zan rfl ?_ | refine zbf rfl rfl (by omega) ?_)
  all_goals refine zch ?_
  all_goals repeat (first | refine zck ?_ | refine zcl ?_ | refine zcm ?_ | refine zcn ?_)
  refine zcj rfl ?_
  repeat' (first | refine zcp (by kernel_rfl) ?_ | refine zcm ?_ | refine zcn ?_ | (refine zap rfl ?_; first | refine zan rfl ?_ | refine zau rfl rfl (by omega) ?_) | refine zch ?_)
  refine cut_end ⟨rfl, (j + 1, a8, c8, B3, m ++ m0), ⟨rfl, rfl, rfl, rfl, int_eq (by dsimp only; omega), trivial⟩, ⟨?_, by dsimp only; omega, j2', g3, by dsimp only; omega⟩, by dsimp only; omega⟩
  dsimp only
  rw [List.append_assoc]
  rfl
end Go.Proofs.YtijbnjaackhlcaaGreatDoor

namespace Sim
theorem badStore_drop {l : List (ByteArray × ByteArray)} {j : Nat} {x : ByteArray × ByteArray} (h : l[j]? = some x) : (l.drop j).find? (fun d => decide (ctKind d.2 = none)) = if ctKind x.2 = none then some x else (l.drop (j + 1)).find? (fun d => decide (ctKind d.2 = none)) := by
  have hj := (List.getElem?_eq_some_iff.1 h).1
  rw [List.drop_eq_getElem_cons hj, (List.getElem?_eq_some_iff.1 h).2]
  by_cases e : ctKind x.2 = none
  · rw [List.find?_cons_of_pos (by simpa using e), if_pos e]
  · rw [List.find?_cons_of_neg (by simpa using e), if_neg e]
theorem badOper_drop {p : PP'} {l : List PO} {j : Nat} {x : PO} (h : l[j]? = some x) : (l.drop j).find? (fun o => decide ((tyO p o).2 ≠ 0)) = if (tyO p x).2 ≠ 0 then some x else (l.drop (j + 1)).find? (fun o => decide ((tyO p o).2 ≠ 0)) := by
  have hj := (List.getElem?_eq_some_iff.1 h).1
  rw [List.drop_eq_getElem_cons hj, (List.getElem?_eq_some_iff.1 h).2]
  by_cases e : (tyO p x).2 ≠ 0
  · rw [List.find?_cons_of_pos (by simpa using e), if_pos e]
  · rw [List.find?_cons_of_neg (by simpa using e), if_neg e]
end Sim
namespace Go.Proofs.YtijbnjaackhlcaaGreatDoor
open Go.Vc Sim
set_option maxHeartbeats 8000000 in
theorem checkT_spec (w0 : World) (sh : Shared) (p : PP') (o : PO) (a1 a3 a4 : Option Addr) (c1 c3 c4 : Nat) (vo : Value) (h1 : RdSl w0 sh encD 2 (.slice a1 p.stores.length c1) p.stores) (r1 : RdSl w0 sh encY 1 (.slice a3 o.params.length c3) o.params) (r2 : RdSt w0 sh (.slice a4 o.body.length c4) o.body)
    (hwd : wrongD [] p.stores = 0) (hg : goodO o) (hb : PS.sizeL o.body ≤ 80000) (hn : p.stores.length ≤ 100000) :
    Vc.Fn PP w0 sh 24 [.agg #[.slice a1 p.stores.length c1, vo], .agg (List.toArray [.string o.name, .slice a3 o.params.length c3, .slice a4 o.body.length c4])] []
      (fun r Γ => ∃ ma all2, r = .tuple #[.map (some ma), .int .i64 (tyO p o).2] ∧ Γ = [MapB ma (tvS all2)] ∧ ((tyO p o).2 = 0 → all2 = (tyO p o).1)) := by
  have hst := parV_st hg
  have hpl := hg.2.1
  have hlp : (parV o).length = o.params.length := List.length_map ..
  refine fn_of_run en24 fn24 rfl rfl rfl ?_
  repeat (first | refine zck ?_ | refine zcl ?_ | refine zcm ?_ | refine zcn ?_)
  first | refine zcp (by kernel_rfl) ?_ | refine zcq PP_mixed (by kernel_rfl) (by kernel_rfl) ?_
  repeat' (refine zap rfl ?_; first | refine zaq (cs := [_, _]) rfl (fun tp => ?_) | refine zaq (cs := [_, _, _]) rfl (fun to => ?_) | refine zan rfl ?_)
  all_goals refine zch ?_
  all_goals repeat (first | refine zck ?_ | refine zcl ?_ | refine zcm ?_ | refine zcn ?_)
  refine run_share [0] rfl ?_
  refine run_share [0] rfl ?_
  repeat (first | refine zck ?_ | refine zcl ?_ | refine zcm ?_ | refine zcn ?_)
  first | refine zcp (by kernel_rfl) ?_ | refine zcq PP_mixed (by kernel_rfl) (by kernel_rfl) ?_
  repeat' (refine zap rfl ?_; first | refine zcc (fun mm => ?_) | refine zaq (cs := [_, _, _, _]) rfl (fun sb => ?_) | refine zan rfl ?_ | refine zcb rfl ?_)
  all_goals refine zch ?_
  all_goals repeat (first | refine zck ?_ | refine zcl ?_ | refine zcm ?_ | refine zcn ?_)
  rename_i mv ms
  obtain ⟨ma, hma⟩ : ∃ ma, ma = mm := ⟨_, rfl⟩
  subst hma
  refine run_exch 0 (MapB mv (tvS [])) rfl (mapB_make mv) rfl ?_
  refine run_exch 1 (MapS ms (kS [])) rfl (mapS_make ms) rfl ?_
  refine run_exch 2 (MapB ma (tvS [])) rfl (mapB_make ma) rfl ?_
  repeat (first | refine zck ?_ | refine zcl ?_ | refine zcm ?_ | refine zcn ?_)
  first | refine zcp (by kernel_rfl) ?_ | refine zcq PP_mixed (by kernel_rfl) (by kernel_rfl) ?_
  repeat' (refine zap rfl ?_; first | refine zan rfl ?_ | refine zaa 1 rfl rfl rfl ?_ | refine zce rfl ?_ | refine zao rfl ?_)
  all_goals refine zch ?_
  all_goals repeat (first | refine zck ?_ | refine zcl ?_ | refine zcm ?_ | refine zcn ?_)
  refine run_loop (S := Nat) (fun j => [(3, .pointer (some ⟨to, 0, none⟩)), (6, .pointer (some ⟨sb, 0, none⟩)), (19, .slice a1 p.stores.length c1), (20, .int .i64 p.stores.length), (21, .int .i64 (j : Int))])
    (fun j Γ => Γ = [MapB mv (tvS []), MapS ms (kS (p.stores.take j)), MapB ma (tvS []), scPt sb mv ms ma none 0 0] ∧ j ≤ p.stores.length) (fun j => p.stores.length - j) 0 ⟨rfl, rfl, rfl, rfl, rfl, trivial⟩ ⟨rfl, by omega⟩ ?_
  rintro j Γ junk ⟨rfl, g1⟩
  by_cases hj : j < p.stores.length
  · obtain ⟨x, hx⟩ : ∃ x, p.stores[j]? = some x := ⟨_, List.getElem?_eq_getElem hj⟩
    obtain ⟨b, off, cc, T, fr, rfl, e2, e3, _⟩ := h1.cells hx
    have hnx := kS_next hwd hx
    have hput : ∀ A B C : Asn, putAt 1 (MapS ms (insS (kS (p.stores.take j)) x.1 (.string x.2))) [A, MapS ms (kS (p.stores.take j)), B, C] = some [A, MapS ms (kS (p.stores.take (j + 1))), B, C] := fun A B C => by rw [hnx]; rfl
    repeat (first | refine zck ?_ | refine zcl ?_ | refine zcm ?_ | refine zcn ?_)
    first | refine zcp (by kernel_rfl) ?_ | refine zcq PP_mixed (by kernel_rfl) (by kernel_rfl) ?_
    repeat' (refine zap rfl ?_; first | refine zbg rfl rfl (by omega) ?_)
    all_goals refine zch ?_
    all_goals repeat (first | refine zck ?_ | refine zcl ?_ | refine zcm ?_ | refine zcn ?_)
    refine zci rfl ?_
    repeat (first | refine zck ?_ | refine zcl ?_ | refine zcm ?_ | refine zcn ?_)
    first | refine zcp (by kernel_rfl) ?_ | refine zcq PP_mixed (by kernel_rfl) (by kernel_rfl) ?_
    repeat' (refine zap rfl ?_; first | refine zad rfl (fun hF Γ w h1 h2 => e2 hF Γ w (fun p hp => h1 p (.tail _ (.tail _ hp))) h2) (e3 _ (by omega)) ?_ | refine zar (fun t8 => ?_) | refine zae 4 rfl rfl rfl rfl rfl rfl rfl ?_ | refine zas rfl rfl (by omega) ?_)
    all_goals refine zch ?_
    all_goals repeat (first | refine zck ?_ | refine zcl ?_ | refine zcm ?_ | refine zcn ?_)
    refine run_share [4] rfl ?_
    repeat (first | refine zck ?_ | refine zcl ?_ | refine zcm ?_ | refine zcn ?_)
    first | refine zcp (by kernel_rfl) ?_ | refine zcr [(.quiet, 0), (.quiet, 1), (.quiet, 2), (.quiet, 3), (.read, 4), (.quiet, 5), (.read, 6), (.quiet, 7), (.read, 8), (.loud, 9)] PP_mixed (by kernel_rfl) (by kernel_rfl) ?_ | refine run_drawR PP_mixed (by kernel_rfl) (by kernel_rfl) ?_
    repeat' (refine zap rfl ?_; first | refine reg_mapUpdateS 1 (u := .string x.2) rfl rfl rfl rfl (hput _ _ _) ?_ | refine zan rfl ?_ | refine zaa 0 rfl rfl rfl ?_ | refine zab 3 rfl rfl rfl ?_ | refine zao rfl ?_ | refine zan rfl ?_)
    all_goals refine zch ?_
    all_goals repeat (first | refine zck ?_ | refine zcl ?_ | refine zcm ?_ | refine zcn ?_)
    repeat' (first | refine zcp (by kernel_rfl) ?_ | (refine zap rfl ?_; first | refine zan rfl ?_ | refine zau rfl rfl (by omega) ?_) | refine zch ?_)
    exact cut_end ⟨rfl, j + 1, ⟨rfl, rfl, rfl, rfl, int_eq (by omega), trivial⟩, ⟨rfl, by omega⟩, by omega⟩
  have hjl : j = p.stores.length := by omega
  subst hjl
  rw [List.take_length]
  repeat (first | refine zck ?_ | refine zcl ?_ | refine zcm ?_ | refine zcn ?_)
  first | refine zcp (by kernel_rfl) ?_ | refine zcq PP_mixed (by kernel_rfl) (by kernel_rfl) ?_
  repeat' (refine zap rfl ?_; first | refine zbh rfl rfl (by omega) ?_)
  all_goals refine zch ?_
  all_goals repeat (first | refine zck ?_ | refine zcl ?_ | refine zcm ?_ | refine zcn ?_)
  refine zcj rfl ?_
  refine cut_exit rfl rfl ?_
  refine run_shareM [1] rfl ?_
  intro sh' hsub hR
  refine run_nilslice 9 1 ?_
  refine run_take [2, 0, 0, 0] rfl ?_
  repeat (first | refine zck ?_ | refine zcl ?_ | refine zcm ?_ | refine zcn ?_)
  first | refine zcp (by kernel_rfl) ?_ | refine zcq PP_mixed (by kernel_rfl) (by kernel_rfl) ?_
  repeat' (refine zap rfl ?_; first | refine zad rfl (fun hF Γ w h1 h2 => (h2.frame (h1 _ (hsub _ (.head _)))).2) rfl ?_ | refine zan rfl ?_ | refine zce rfl ?_ | refine zao rfl ?_)
  all_goals refine zch ?_
  all_goals repeat (first | refine zck ?_ | refine zcl ?_ | refine zcm ?_ | refine zcn ?_)
  refine run_loop (S := Nat × Option Addr × Nat) (fun s => [(3, .pointer (some ⟨to, 0, none⟩)), (6, .pointer (some ⟨sb, 0, none⟩)), (36, .slice a3 o.params.length c3), (37, .int .i64 o.params.length), (38, .int .i64 (s.1 : Int))])
    (fun s Γ => Γ = ScA sb mv ms ma s.2.1 s.2.2 ((parV o).take s.1) ((parV o).take s.1) ∧ s.1 ≤ o.params.length) (fun s => o.params.length - s.1) (0, none, 0) ⟨rfl, rfl, rfl, rfl, rfl, trivial⟩ ⟨rfl, Nat.zero_le _⟩ ?_
  rintro ⟨j, a, c⟩ Γ junk2 ⟨rfl, g2⟩
  dsimp only at g2 ⊢
  by_cases hj : j < o.params.length
  · obtain ⟨x, hx⟩ : ∃ x, o.params[j]? = some x := ⟨_, List.getElem?_eq_getElem hj⟩
    obtain ⟨b, off, cc, T, fr, rfl, e2, _, e4⟩ := r1.cells hx
    have hpx : (parV o)[j]? = some (x, 1) := by unfold parV; rw [List.getElem?_map, hx]; rfl
    have hnx : (parV o).take (j + 1) = (parV o).take j ++ [(x, 1)] := take_snoc hpx
    have hnew : x ∉ ((parV o).take j).map (·.1) := fun hm => by
      have hn2 : (((parV o).take (j + 1)).map (·.1)).Nodup := ((List.take_sublist (j + 1) (parV o)).map (fun v : ByteArray × Int => v.1)).nodup hst.ndA
      rw [hnx, List.map_append, List.nodup_append] at hn2
      exact hn2.2.2 x hm x (by simp) rfl
    have hadd := add_spec w0 sb mv ms ma a c ((parV o).take j) ((parV o).take j) x 1 hnew hnew (by rw [List.length_take]; omega)
    rw [← hnx] at hadd
    repeat (first | refine zck ?_ | refine zcl ?_ | refine zcm ?_ | refine zcn ?_)
    first | refine zcp (by kernel_rfl) ?_ | refine zcq PP_mixed (by kernel_rfl) (by kernel_rfl) ?_
    repeat' (refine zap rfl ?_; first | refine zbg rfl rfl (by omega) ?_)
    all_goals refine zch ?_
    all_goals repeat (first | refine zck ?_ | refine zcl ?_ | refine zcm ?_ | refine zcn ?_)
    refine zci rfl ?_
    repeat (first | refine zck ?_ | refine zcl ?_ | refine zcm ?_ | refine zcn ?_)
    first | refine zcp (by kernel_rfl) ?_ | refine zcq PP_mixed (by kernel_rfl) (by kernel_rfl) ?_
    repeat' (refine zap rfl ?_; first | refine zad rfl (fun hF Γ w h1 h2 => e2 hF Γ w (fun p hp => h1 p (hsub p (.tail _ (.tail _ hp)))) h2) (e4 0 _ rfl _ (by omega)) ?_ | refine zan rfl ?_ | refine zas rfl rfl (by omega) ?_)
    all_goals refine zch ?_
    all_goals repeat (first | refine zck ?_ | refine zcl ?_ | refine zcm ?_ | refine zcn ?_)
    repeat (first | refine zck ?_ | refine zcl ?_ | refine zcm ?_ | refine zcn ?_)
    first | refine zcp (by kernel_rfl) ?_ | refine zcq PP_mixed (by kernel_rfl) (by kernel_rfl) ?_
    repeat' (refine zap rfl ?_; first | refine zan rfl ?_ | (refine zai [0, 0, 0, 0] hadd rfl rfl rfl sub_nil ?_; rintro v Γ ⟨rfl, a', c', rfl⟩))
    all_goals refine zch ?_
    all_goals repeat (first | refine zck ?_ | refine zcl ?_ | refine zcm ?_ | refine zcn ?_)
    repeat' (first | refine zcp (by kernel_rfl) ?_ | (refine zap rfl ?_; first | refine zan rfl ?_ | refine zau rfl rfl (by omega) ?_) | refine zch ?_)
    exact cut_end ⟨rfl, (j + 1, a', c'), ⟨rfl, rfl, rfl, rfl, int_eq (by dsimp only; omega), trivial⟩, ⟨rfl, by dsimp only; omega⟩, by dsimp only; omega⟩
  have hjl : (parV o).take j = parV o := List.take_of_length_le (by omega)
  rw [hjl]
  repeat (first | refine zck ?_ | refine zcl ?_ | refine zcm ?_ | refine zcn ?_)
  first | refine zcp (by kernel_rfl) ?_ | refine zcq PP_mixed (by kernel_rfl) (by kernel_rfl) ?_
  repeat' (refine zap rfl ?_; first | refine zbh rfl rfl (by omega) ?_)
  all_goals refine zch ?_
  all_goals repeat (first | refine zck ?_ | refine zcl ?_ | refine zcm ?_ | refine zcn ?_)
  refine zcj rfl ?_
  refine cut_exit rfl rfl ?_
  have hS := stmtsT_spec w0 p.stores sb mv ms ma 90000 (Nat.le_refl _) sh' a c (parV o) (parV o) _ o.body (by omega) (r2.mono fun p hp => hsub p (.tail _ (.tail _ hp))) hR hst (by omega)
  repeat (first | refine zck ?_ | refine zcl ?_ | refine zcm ?_ | refine zcn ?_)
  first | refine zcp (by kernel_rfl) ?_ | refine zcq PP_mixed (by kernel_rfl) (by kernel_rfl) ?_
  repeat' (refine zap rfl ?_; first | refine zad rfl (fun hF Γ w h1 h2 => (h2.frame (h1 _ (hsub _ (.head _)))).2) rfl ?_ | refine zan rfl ?_ | refine zan rfl ?_ | (refine zai [0, 0, 0, 0] hS rfl rfl rfl (fun _ h => h) ?_; rintro v Γ ⟨rfl, a', c', all2, there2, rfl, h2⟩) | refine zao rfl ?_)
  all_goals refine zch ?_
  all_goals repeat (first | refine zck ?_ | refine zcl ?_ | refine zcm ?_ | refine zcn ?_)
  repeat (first | refine zck ?_ | refine zcl ?_ | refine zcm ?_ | refine zcn ?_)
  first | refine zcp (by kernel_rfl) ?_ | refine zcq PP_mixed (by kernel_rfl) (by kernel_rfl) ?_
  repeat' (refine zap rfl ?_; first | refine zan rfl ?_ | refine zan rfl ?_ | refine zab 0 rfl rfl rfl ?_ | refine zao rfl ?_ | refine zan rfl ?_)
  all_goals refine zch ?_
  all_goals repeat (first | refine zck ?_ | refine zcl ?_ | refine zcm ?_ | refine zcn ?_)
  refine run_take [2] rfl ?_
  exact ret_tmp2 rfl ⟨ma, all2, rfl, rfl, fun h => (h2 h).1⟩
set_option maxHeartbeats 8000000 in
theorem typesCheck_spec (w0 : World) (hk : KwOk w0) (sh : Shared) (v : Value) (p : PP') (hp : RdP w0 sh v p) (hs : PP'.small p) (hb : ∀ o ∈ p.opers, PS.sizeL o.body ≤ 10000) :
    FnE PP w0 sh 11 [v] [] (.tuple #[.string (tyP p).1, .int .i64 (tyP p).2]) [] := by
  have hck := check_spec w0 hk sh v p hp hs
  obtain ⟨vs, vo, rfl, h1, h2⟩ := hp
  obtain ⟨a1, c1, hvs, hc1, _⟩ := id h1
  obtain ⟨a2, c2, hvo, hc2⟩ := h2.len
  subst hvs; subst hvo
  obtain ⟨O, hO⟩ : ∃ O, tyP p = O := ⟨_, rfl⟩
  rw [hO]
  unfold tyP at hO
  refine fn_of_run en11 fn11 rfl rfl rfl ?_
  repeat (first | refine zck ?_ | refine zcl ?_ | refine zcm ?_ | refine zcn ?_)
  first | refine zcp (by kernel_rfl) ?_ | refine zcq PP_mixed (by kernel_rfl) (by kernel_rfl) ?_
  repeat' (refine zap rfl ?_; first | refine zaq (cs := [_, _]) rfl (fun tp => ?_) | refine zan rfl ?_)
  all_goals refine zch ?_
  all_goals repeat (first | refine zck ?_ | refine zcl ?_ | refine zcm ?_ | refine zcn ?_)
  refine run_share [0] rfl ?_
  repeat (first | refine zck ?_ | refine zcl ?_ | refine zcm ?_ | refine zcn ?_)
  first | refine zcp (by kernel_rfl) ?_ | refine zcq PP_mixed (by kernel_rfl) (by kernel_rfl) ?_
  repeat' (refine zap rfl ?_; first | refine zan rfl ?_ | refine zaa 0 rfl rfl rfl ?_ | refine zah [] hck rfl rfl rfl (fun p hp => .tail _ hp) rfl ?_)
  all_goals refine zch ?_
  all_goals repeat (first | refine zck ?_ | refine zcl ?_ | refine zcm ?_ | refine zcn ?_)
  by_cases hC : checkP p = 0
  rotate_left
  · rw [if_pos hC] at hO
    subst hO
    repeat (first | refine zck ?_ | refine zcl ?_ | refine zcm ?_ | refine zcn ?_)
    first | refine zcp (by kernel_rfl) ?_ | refine zcq PP_mixed (by kernel_rfl) (by kernel_rfl) ?_
    repeat' (refine zap rfl ?_; first | refine zan rfl ?_ | refine zbe rfl rfl (by omega) ?_)
    all_goals refine zch ?_
    all_goals repeat (first | refine zck ?_ | refine zcl ?_ | refine zcm ?_ | refine zcn ?_)
    refine zci rfl ?_
    repeat' (first | refine zck ?_ | refine zcp (by kernel_rfl) ?_ | (refine zap rfl ?_; first | refine zan rfl ?_ | refine zan rfl ?_) | refine zch ?_)
    exact ret_tmp2 rfl ⟨rfl, rfl⟩
  rw [if_neg (fun q => q hC)] at hO
  obtain ⟨z1, z2, z3, z4, z5⟩ := checkP_iff.1 hC
  repeat (first | refine zck ?_ | refine zcl ?_ | refine zcm ?_ | refine zcn ?_)
  first | refine zcp (by kernel_rfl) ?_ | refine zcq PP_mixed (by kernel_rfl) (by kernel_rfl) ?_
  repeat' (refine zap rfl ?_; first | refine zan rfl ?_ | refine zbf rfl rfl (by omega) ?_)
  all_goals refine zch ?_
  all_goals repeat (first | refine zck ?_ | refine zcl ?_ | refine zcm ?_ | refine zcn ?_)
  refine zcj rfl ?_
  repeat (first | refine zck ?_ | refine zcl ?_ | refine zcm ?_ | refine zcn ?_)
  first | refine zcp (by kernel_rfl) ?_ | refine zcq PP_mixed (by kernel_rfl) (by kernel_rfl) ?_
  repeat' (refine zap rfl ?_; first | refine zan rfl ?_ | refine zaa 0 rfl rfl rfl ?_ | refine zce rfl ?_ | refine zao rfl ?_)
  all_goals refine zch ?_
  all_goals repeat (first | refine zck ?_ | refine zcl ?_ | refine zcm ?_ | refine zcn ?_)
  refine run_loop (S := Nat) (fun j => [(1, .pointer (some ⟨tp, 0, none⟩)), (19, .slice a1 p.stores.length c1), (20, .int .i64 p.stores.length), (21, .int .i64 (j : Int))])
    (fun j Γ => Γ = [] ∧ j ≤ p.stores.length ∧ (p.stores.drop j).find? (fun d => decide (ctKind d.2 = none)) = badStore p) (fun j => p.stores.length - j) 0 ⟨rfl, rfl, rfl, rfl, trivial⟩ ⟨rfl, by omega, rfl⟩ ?_
  rintro j Γ junk ⟨rfl, g1, g2⟩
  by_cases hj : j < p.stores.length
  · obtain ⟨x, hx⟩ : ∃ x, p.stores[j]? = some x := ⟨_, List.getElem?_eq_getElem hj⟩
    obtain ⟨b, off, cc, T, fr, rfl, e2, e3, _⟩ := h1.cells hx
    have hkd := kind_spec w0 x.2
    rw [badStore_drop hx] at g2
    repeat (first | refine zck ?_ | refine zcl ?_ | refine zcm ?_ | refine zcn ?_)
    first | refine zcp (by kernel_rfl) ?_ | refine zcq PP_mixed (by kernel_rfl) (by kernel_rfl) ?_
    repeat' (refine zap rfl ?_; first | refine zbg rfl rfl (by omega) ?_)
    all_goals refine zch ?_
    all_goals repeat (first | refine zck ?_ | refine zcl ?_ | refine zcm ?_ | refine zcn ?_)
    refine zci rfl ?_
    repeat (first | refine zck ?_ | refine zcl ?_ | refine zcm ?_ | refine zcn ?_)
    first | refine zcp (by kernel_rfl) ?_ | refine zcq PP_mixed (by kernel_rfl) (by kernel_rfl) ?_
    repeat' (refine zap rfl ?_; first | refine zad rfl (fun hF Γ w h1 h2 => e2 hF Γ w (fun p hp => h1 p (.tail _ hp)) h2) (e3 _ (by omega)) ?_ | refine zar (fun t6 => ?_) | refine zae 0 rfl rfl rfl rfl rfl rfl rfl ?_ | refine zas rfl rfl (by omega) ?_)
    all_goals refine zch ?_
    all_goals repeat (first | refine zck ?_ | refine zcl ?_ | refine zcm ?_ | refine zcn ?_)
    refine run_share [0] rfl ?_
    cases hq : ctKind x.2 with
    | none =>
      rw [hq] at hkd g2
      dsimp only [Option.getD, Option.isSome] at hkd
      rw [if_pos rfl] at g2
      rw [← g2] at hO
      dsimp only at hO
      subst hO
      repeat (first | refine zck ?_ | refine zcl ?_ | refine zcm ?_ | refine zcn ?_)
      first | refine zcp (by kernel_rfl) ?_ | refine zcq PP_mixed (by kernel_rfl) (by kernel_rfl) ?_
      repeat' (refine zap rfl ?_; first | refine zan rfl ?_ | refine zan rfl ?_ | refine zaa 0 rfl rfl rfl ?_ | refine zah [] hkd rfl rfl rfl sub_nil rfl ?_ | refine zao rfl ?_ | refine zan rfl ?_)
      all_goals refine zch ?_
      all_goals repeat (first | refine zck ?_ | refine zcl ?_ | refine zcm ?_ | refine zcn ?_)
      repeat (first | refine zck ?_ | refine zcl ?_ | refine zcm ?_ | refine zcn ?_)
      first | refine zcp (by kernel_rfl) ?_ | refine zcq PP_mixed (by kernel_rfl) (by kernel_rfl) ?_
      repeat' (refine zap rfl ?_; first | refine zan rfl ?_ | refine zbx rfl ?_)
      all_goals refine zch ?_
      all_goals repeat (first | refine zck ?_ | refine zcl ?_ | refine zcm ?_ | refine zcn ?_)
      refine zci rfl ?_
      repeat (first | refine zck ?_ | refine zcl ?_ | refine zcm ?_ | refine zcn ?_)
      first | refine zcp (by kernel_rfl) ?_ | refine zcq PP_mixed (by kernel_rfl) (by kernel_rfl) ?_
      repeat' (refine zap rfl ?_; first | refine zan rfl ?_ | refine zaa 0 rfl rfl rfl ?_ | refine zao rfl ?_)
      all_goals refine zch ?_
      all_goals repeat (first | refine zck ?_ | refine zcl ?_ | refine zcm ?_ | refine zcn ?_)
      exact qret2 (fun _ _ h => h) rfl ⟨rfl, rfl⟩
    | some i =>
      rw [hq] at hkd g2
      dsimp only [Option.getD, Option.isSome] at hkd
      rw [if_neg (fun q => by cases q)] at g2
      repeat (first | refine zck ?_ | refine zcl ?_ | refine zcm ?_ | refine zcn ?_)
      first | refine zcp (by kernel_rfl) ?_ | refine zcq PP_mixed (by kernel_rfl) (by kernel_rfl) ?_
      repeat' (refine zap rfl ?_; first | refine zan rfl ?_ | refine zan rfl ?_ | refine zaa 0 rfl rfl rfl ?_ | refine zah [] hkd rfl rfl rfl sub_nil rfl ?_ | refine zao rfl ?_ | refine zan rfl ?_)
      all_goals refine zch ?_
      all_goals repeat (first | refine zck ?_ | refine zcl ?_ | refine zcm ?_ | refine zcn ?_)
      repeat (first | refine zck ?_ | refine zcl ?_ | refine zcm ?_ | refine zcn ?_)
      first | refine zcp (by kernel_rfl) ?_ | refine zcq PP_mixed (by kernel_rfl) (by kernel_rfl) ?_
      repeat' (refine zap rfl ?_; first | refine zan rfl ?_ | refine zbx rfl ?_)
      all_goals refine zch ?_
      all_goals repeat (first | refine zck ?_ | refine zcl ?_ | refine zcm ?_ | refine zcn ?_)
      refine zcj rfl ?_
      repeat' (first | refine zcp (by kernel_rfl) ?_ | refine zcm ?_ | refine zcn ?_ | (refine zap rfl ?_; first | refine zan rfl ?_ | refine zau rfl rfl (by omega) ?_) | refine zch ?_)
      exact cut_end ⟨rfl, j + 1, ⟨rfl, rfl, rfl, int_eq (by omega), trivial⟩, ⟨rfl, by omega, g2⟩, by omega⟩
  rw [List.drop_of_length_le (by omega), List.find?_nil] at g2
  rw [← g2] at hO
  dsimp only at hO
  repeat (first | refine zck ?_ | refine zcl ?_ | refine zcm ?_ | refine zcn ?_)
  first | refine zcp (by kernel_rfl) ?_ | refine zcq PP_mixed (by kernel_rfl) (by kernel_rfl) ?_
  repeat' (refine zap rfl ?_; first | refine zbh rfl rfl (by omega) ?_)
  all_goals refine zch ?_
  all_goals repeat (first | refine zck ?_ | refine zcl ?_ | refine zcm ?_ | refine zcn ?_)
  refine zcj rfl ?_
  refine cut_exit rfl rfl ?_
  repeat (first | refine zck ?_ | refine zcl ?_ | refine zcm ?_ | refine zcn ?_)
  first | refine zcp (by kernel_rfl) ?_ | refine zcq PP_mixed (by kernel_rfl) (by kernel_rfl) ?_
  repeat' (refine zap rfl ?_; first | refine zan rfl ?_ | refine zaa 0 rfl rfl rfl ?_ | refine zce rfl ?_ | refine zao rfl ?_)
  all_goals refine zch ?_
  all_goals repeat (first | refine zck ?_ | refine zcl ?_ | refine zcm ?_ | refine zcn ?_)
  refine run_loop (S := Nat) (fun j => [(1, .pointer (some ⟨tp, 0, none⟩)), (37, .slice a2 p.opers.length c2), (38, .int .i64 p.opers.length), (39, .int .i64 (j : Int))])
    (fun j Γ => Γ = [] ∧ j ≤ p.opers.length ∧ (p.opers.drop j).find? (fun o => decide ((tyO p o).2 ≠ 0)) = badOper p) (fun j => p.opers.length - j) 0 ⟨rfl, rfl, rfl, rfl, trivial⟩ ⟨rfl, by omega, rfl⟩ ?_
  rintro j Γ junk2 ⟨rfl, g3, g4⟩
  by_cases hj : j < p.opers.length
  · obtain ⟨o, ho⟩ : ∃ o, p.opers[j]? = some o := ⟨_, List.getElem?_eq_getElem hj⟩
    obtain ⟨b, off, cc, T, fr, cs, rfl, e2, e3, ⟨vp, vb, rfl, r1, r2⟩, _⟩ := h2.at ho
    obtain ⟨a3, c3, hvp, _⟩ := id r1
    obtain ⟨a4, c4, hvb, _⟩ := r2.len
    subst hvp; subst hvb
    have hom := List.mem_of_getElem? ho
    have hbo := hb o hom
    have hct := checkT_spec w0 sh p o a1 a3 a4 c1 c3 c4 (.slice (some ⟨b, off, none⟩) p.opers.length c2) h1 r1 r2 z3 (z4 o hom) (by omega) (by omega)
    rw [badOper_drop ho] at g4
    repeat (first | refine zck ?_ | refine zcl ?_ | refine zcm ?_ | refine zcn ?_)
    first | refine zcp (by kernel_rfl) ?_ | refine zcq PP_mixed (by kernel_rfl) (by kernel_rfl) ?_
    repeat' (refine zap rfl ?_; first | refine zbg rfl rfl (by omega) ?_)
    all_goals refine zch ?_
    all_goals repeat (first | refine zck ?_ | refine zcl ?_ | refine zcm ?_ | refine zcn ?_)
    refine zci rfl ?_
    repeat (first | refine zck ?_ | refine zcl ?_ | refine zcm ?_ | refine zcn ?_)
    first | refine zcp (by kernel_rfl) ?_ | refine zcq PP_mixed (by kernel_rfl) (by kernel_rfl) ?_
    repeat' (refine zap rfl ?_; first | refine zad rfl (fun hF Γ w h1 h2 => e2 hF Γ w (fun p hp => h1 p (.tail _ hp)) h2) (e3 _ (by omega)) ?_ | refine zar (fun t10 => ?_) | refine zae 0 rfl rfl rfl rfl rfl rfl rfl ?_ | refine zas rfl rfl (by omega) ?_)
    all_goals refine zch ?_
    all_goals repeat (first | refine zck ?_ | refine zcl ?_ | refine zcm ?_ | refine zcn ?_)
    refine run_share [0] rfl ?_
    repeat (first | refine zck ?_ | refine zcl ?_ | refine zcm ?_ | refine zcn ?_)
    first | refine zcp (by kernel_rfl) ?_ | refine zcq PP_mixed (by kernel_rfl) (by kernel_rfl) ?_
    repeat' (refine zap rfl ?_; first | refine zan rfl ?_ | refine zan rfl ?_ | refine zaa 0 rfl rfl rfl ?_ | refine zaa 1 rfl rfl rfl ?_ | (refine zai [] hct rfl rfl rfl (fun p hp => .tail _ (.tail _ hp)) ?_; rintro v Γ ⟨ma, all2, rfl, rfl, _⟩) | refine zan rfl ?_)
    all_goals refine zch ?_
    all_goals repeat (first | refine zck ?_ | refine zcl ?_ | refine zcm ?_ | refine zcn ?_)
    refine run_take [] rfl ?_
    by_cases hq : (tyO p o).2 = 0
    · rw [if_neg (fun q => q hq)] at g4
      repeat (first | refine zck ?_ | refine zcl ?_ | refine zcm ?_ | refine zcn ?_)
      first | refine zcp (by kernel_rfl) ?_ | refine zcq PP_mixed (by kernel_rfl) (by kernel_rfl) ?_
      repeat' (refine zap rfl ?_; first | refine zan rfl ?_ | refine zbf rfl rfl (by omega) ?_)
      all_goals refine zch ?_
      all_goals repeat (first | refine zck ?_ | refine zcl ?_ | refine zcm ?_ | refine zcn ?_)
      refine zcj rfl ?_
      repeat' (first | refine zcp (by kernel_rfl) ?_ | refine zcm ?_ | refine zcn ?_ | (refine zap rfl ?_; first | refine zan rfl ?_ | refine zau rfl rfl (by omega) ?_) | refine zch ?_)
      exact cut_end ⟨rfl, j + 1, ⟨rfl, rfl, rfl, int_eq (by omega), trivial⟩, ⟨rfl, by omega, g4⟩, by omega⟩
    · rw [if_pos hq] at g4
      rw [← g4] at hO
      dsimp only at hO
      subst hO
      repeat (first | refine zck ?_ | refine zcl ?_ | refine zcm ?_ | refine zcn ?_)
      first | refine zcp (by kernel_rfl) ?_ | refine zcq PP_mixed (by kernel_rfl) (by kernel_rfl) ?_
      repeat' (refine zap rfl ?_; first | refine zan rfl ?_ | refine zbe rfl rfl (by omega) ?_)
      all_goals refine zch ?_
      all_goals repeat (first | refine zck ?_ | refine zcl ?_ | refine zcm ?_ | refine zcn ?_)
      refine zci rfl ?_
      repeat (first | refine zck ?_ | refine zcl ?_ | refine zcm ?_ | refine zcn ?_)
      first | refine zcp (by kernel_rfl) ?_ | refine zcq PP_mixed (by kernel_rfl) (by kernel_rfl) ?_
      repeat' (refine zap rfl ?_; first | refine zan rfl ?_ | refine zan rfl ?_ | refine zaa 0 rfl rfl rfl ?_ | refine zao rfl ?_)
      all_goals refine zch ?_
      all_goals repeat (first | refine zck ?_ | refine zcl ?_ | refine zcm ?_ | refine zcn ?_)
      exact qret2 (fun _ _ h => h) rfl ⟨rfl, rfl⟩
  rw [List.drop_of_length_le (by omega), List.find?_nil] at g4
  rw [← g4] at hO
  dsimp only at hO
  subst hO
  repeat (first | refine zck ?_ | refine zcl ?_ | refine zcm ?_ | refine zcn ?_)
  first | refine zcp (by kernel_rfl) ?_ | refine zcq PP_mixed (by kernel_rfl) (by kernel_rfl) ?_
  repeat' (refine zap rfl ?_; first | refine zbh rfl rfl (by omega) ?_)
  all_goals refine zch ?_
  all_goals repeat (first | refine zck ?_ | refine zcl ?_ | refine zcm ?_ | refine zcn ?_)
  refine zcj rfl ?_
  refine cut_exit rfl rfl ?_
  repeat' (first | refine zck ?_ | refine zcp (by kernel_rfl) ?_ | (refine zap rfl ?_; first | refine zan rfl ?_) | refine zch ?_)
  exact ret_tmp2 rfl ⟨rfl, rfl⟩
set_option maxHeartbeats 8000000 in
theorem typesVars_spec (w0 : World) (hk : KwOk w0) (sh : Shared) (v : Value) (p : PP') (oper : ByteArray) (hp : RdP w0 sh v p) (hs : PP'.small p) (hb : ∀ o ∈ p.opers, PS.sizeL o.body ≤ 10000) :
    Vc.Fn PP w0 sh 12 [v, .string oper] [] (fun r Γ => ((tyV p oper).2 = 0 → ∃ ma, r = .tuple #[.map (some ma), .int .i64 0] ∧ Γ = [MapB ma (tvS (tyV p oper).1)]) ∧ ((tyV p oper).2 ≠ 0 → r = .tuple #[.map none, .int .i64 (tyV p oper).2] ∧ Γ = [])) := by
  have hck := typesCheck_spec w0 hk sh v p hp hs hb
  have hfd := find_spec w0 sh v p oper hp hs.2.1
  obtain ⟨vs, vo, rfl, h1, h2⟩ := hp
  obtain ⟨a1, c1, hvs, hc1, _⟩ := id h1
  obtain ⟨a2, c2, hvo, hc2⟩ := h2.len
  subst hvs; subst hvo
  obtain ⟨O, hO⟩ : ∃ O, tyV p oper = O := ⟨_, rfl⟩
  rw [hO]
  unfold tyV at hO
  refine fn_of_run en12 fn12 rfl rfl rfl ?_
  repeat (first | refine zck ?_ | refine zcl ?_ | refine zcm ?_ | refine zcn ?_)
  first | refine zcp (by kernel_rfl) ?_ | refine zcq PP_mixed (by kernel_rfl) (by kernel_rfl) ?_
  repeat' (refine zap rfl ?_; first | refine zaq (cs := [_, _]) rfl (fun tp => ?_) | refine zan rfl ?_)
  all_goals refine zch ?_
  all_goals repeat (first | refine zck ?_ | refine zcl ?_ | refine zcm ?_ | refine zcn ?_)
  refine run_share [0] rfl ?_
  repeat (first | refine zck ?_ | refine zcl ?_ | refine zcm ?_ | refine zcn ?_)
  first | refine zcp (by kernel_rfl) ?_ | refine zcq PP_mixed (by kernel_rfl) (by kernel_rfl) ?_
  repeat' (refine zap rfl ?_; first | refine zan rfl ?_ | refine zan rfl ?_ | refine zaa 0 rfl rfl rfl ?_ | refine zah [] hck rfl rfl rfl (fun p hp => .tail _ hp) rfl ?_ | refine zan rfl ?_)
  all_goals refine zch ?_
  all_goals repeat (first | refine zck ?_ | refine zcl ?_ | refine zcm ?_ | refine zcn ?_)
  by_cases hC : (tyP p).2 = 0
  rotate_left
  · rw [if_pos hC] at hO
    subst hO
    repeat (first | refine zck ?_ | refine zcl ?_ | refine zcm ?_ | refine zcn ?_)
    first | refine zcp (by kernel_rfl) ?_ | refine zcq PP_mixed (by kernel_rfl) (by kernel_rfl) ?_
    repeat' (refine zap rfl ?_; first | refine zan rfl ?_ | refine zbe rfl rfl (by omega) ?_)
    all_goals refine zch ?_
    all_goals repeat (first | refine zck ?_ | refine zcl ?_ | refine zcm ?_ | refine zcn ?_)
    refine zci rfl ?_
    repeat' (first | refine zck ?_ | refine zcp (by kernel_rfl) ?_ | (refine zap rfl ?_; first | refine zan rfl ?_ | refine zan rfl ?_) | refine zch ?_)
    exact ret_tmp2 rfl ⟨fun h => absurd h hC, fun _ => ⟨rfl, rfl⟩⟩
  rw [if_neg (fun q => q hC)] at hO
  have hW := wellP_iff.1 hC
  obtain ⟨z1, z2, z3, z4, z5⟩ := checkP_iff.1 hW.check
  repeat (first | refine zck ?_ | refine zcl ?_ | refine zcm ?_ | refine zcn ?_)
  first | refine zcp (by kernel_rfl) ?_ | refine zcq PP_mixed (by kernel_rfl) (by kernel_rfl) ?_
  repeat' (refine zap rfl ?_; first | refine zan rfl ?_ | refine zbf rfl rfl (by omega) ?_)
  all_goals refine zch ?_
  all_goals repeat (first | refine zck ?_ | refine zcl ?_ | refine zcm ?_ | refine zcn ?_)
  refine zcj rfl ?_
  cases hF : findP p oper with
  | none =>
    rw [hF] at hfd hO
    dsimp only at hfd hO
    subst hO
    repeat' (first | refine zck ?_ | refine zcp (by kernel_rfl) ?_ | refine zcm ?_ | (refine zap rfl ?_; first | refine zan rfl ?_ | refine zan rfl ?_ | refine zaa 0 rfl rfl rfl ?_ | (refine zai [] hfd rfl rfl rfl (fun p hp => .tail _ hp) ?_; rintro v Γ ⟨rfl, rfl⟩) | refine zan rfl ?_ | refine zbx rfl ?_ | refine zae 0 rfl rfl rfl rfl rfl rfl rfl ?_ | refine zar (fun nb => ?_)) | refine zch ?_ | refine zci rfl ?_)
    refine run_take [] rfl ?_
    exact ret_tmp2 rfl ⟨fun h => absurd h (by decide), fun _ => ⟨rfl, rfl⟩⟩
  | some o =>
    rw [hF] at hfd hO
    dsimp only at hfd hO
    have hom : o ∈ p.opers := List.mem_of_find?_eq_some hF
    have hbo := hb o hom
    have hz := hW.opers o hom
    repeat (first | refine zck ?_ | refine zcl ?_ | refine zcm ?_ | refine zcn ?_)
    first | refine zcp (by kernel_rfl) ?_ | refine zcq PP_mixed (by kernel_rfl) (by kernel_rfl) ?_
    repeat' (refine zap rfl ?_; first | refine zar (fun t8 => ?_) | refine zan rfl ?_ | refine zan rfl ?_ | refine zaa 0 rfl rfl rfl ?_ | (refine zai [] hfd rfl rfl rfl (fun p hp => .tail _ hp) ?_; rintro v Γ ⟨rfl, v, rfl, cs, rfl, vp, vb, rfl, r1, r2⟩; obtain ⟨a3, c3, hvp, _⟩ := id r1; obtain ⟨a4, c4, hvb, _⟩ := r2.len; subst hvp; subst hvb) | refine zan rfl ?_ | refine zae 0 rfl rfl rfl rfl rfl rfl rfl ?_)
    all_goals refine zch ?_
    all_goals repeat (first | refine zck ?_ | refine zcl ?_ | refine zcm ?_ | refine zcn ?_)
    refine run_share [0] rfl ?_
    have hct := checkT_spec w0 sh p o a1 a3 a4 c1 c3 c4 (.slice a2 p.opers.length c2) h1 r1 r2 z3 (z4 o hom) (by omega) (by omega)
    repeat (first | refine zck ?_ | refine zcl ?_ | refine zcm ?_ | refine zcn ?_)
    first | refine zcp (by kernel_rfl) ?_ | refine zcq PP_mixed (by kernel_rfl) (by kernel_rfl) ?_
    repeat' (refine zap rfl ?_; first | refine zan rfl ?_ | refine zbx rfl ?_)
    all_goals refine zch ?_
    all_goals repeat (first | refine zck ?_ | refine zcl ?_ | refine zcm ?_ | refine zcn ?_)
    refine zcj rfl ?_
    repeat (first | refine zck ?_ | refine zcl ?_ | refine zcm ?_ | refine zcn ?_)
    first | refine zcp (by kernel_rfl) ?_ | refine zcq PP_mixed (by kernel_rfl) (by kernel_rfl) ?_
    repeat' (refine zap rfl ?_; first | refine zan rfl ?_ | refine zaa 0 rfl rfl rfl ?_ | refine zaa 1 rfl rfl rfl ?_ | (refine zai [] hct rfl rfl rfl (fun p hp => .tail _ (.tail _ hp)) ?_; rintro v Γ ⟨ma, all2, rfl, rfl, hall⟩) | refine zan rfl ?_)
    all_goals refine zch ?_
    all_goals repeat (first | refine zck ?_ | refine zcl ?_ | refine zcm ?_ | refine zcn ?_)
    have hall := hall hz
    subst hall
    subst hO
    exact ret_tmp2 rfl ⟨fun _ => ⟨ma, by rw [← hz]; rfl, rfl⟩, fun h => absurd hz h⟩
end Go.Proofs.YtijbnjaackhlcaaGreatDoor

namespace Go.Vc
section
variable {P : Program} {w0 : World} {n : Nat} {sh : Shared} {Q : Exit → Env → List Deferred → List Asn → Prop} {k : List Item} {ρ : Env} {df : List Deferred} {Γ : List Asn}
variable {ops : Array Oper} {l : List (Fl × Nat × Oper)} {b : Fl} {i d : Nat} {ty : TypeId} {pos : String} {aft : Array Edge} {x : Operand} {t kt et : TypeId} {r : Nat} {ml : SM}
end
end Go.Vc
namespace Go.Proofs.YtijbnjaackhlcaaGreatDoor
open Go.Vc Sim
theorem exP_rd (w0 : World) (bl : Shared) (L : List PS) (cll : List (List Value)) (sSt sOp : Nat) (hL : RdSs w0 bl L cll)
    (h : ∃ nEq nAnd nLt nIs s20 s9 s19 sPa a c, (∀ p ∈ exB nEq nAnd nLt nIs s20 s9 s19 sSt sPa sOp a (3 + cll.length) c, p ∈ bl) ∧ RdSl w0 bl (fun x : List Value => x) 11 (.slice a (3 + cll.length) c) ([psC exLetX nilS nilS nilS nilS, psC exIf (sl2 nAnd) nilS (sl1 s9) (sl2 s19), psC exEndK nilS nilS nilS nilS] ++ cll)) :
    RdP w0 bl (.agg #[sl1 sSt, sl1 sOp]) (exP L) := by
  obtain ⟨nEq, nAnd, nLt, nIs, s20, s9, s19, sPa, a, c, hm, hb⟩ := h
  have e0 : ∀ e : PE, e.args = [] → e.or = [] → RdE w0 bl e (cE e nilS nilS) := fun e h1 h2 => RdE.of (by rw [h1]; exact RdEl.nil0) (by rw [h2]; exact RdEl.nil0)
  have lEq : RdEl w0 bl (sl2 nEq) [exX, exK] := RdEl.two (e0 exX rfl rfl) rfl (e0 exK rfl rfl) rfl (hm _ (by repeat (first | exact List.Mem.head _ | refine List.Mem.tail _ ?_)))
  have lLt : RdEl w0 bl (sl2 nLt) [exX, exK] := RdEl.two (e0 exX rfl rfl) rfl (e0 exK rfl rfl) rfl (hm _ (by repeat (first | exact List.Mem.head _ | refine List.Mem.tail _ ?_)))
  have lIs : RdEl w0 bl (sl2 nIs) [exK, exZ] := RdEl.two (e0 exK rfl rfl) rfl (e0 exZ rfl rfl) rfl (hm _ (by repeat (first | exact List.Mem.head _ | refine List.Mem.tail _ ?_)))
  have l20 : RdEl w0 bl (sl1 s20) [exIs] := RdEl.one (e := exIs) (RdE.of lIs RdEl.nil0) rfl (hm _ (by repeat (first | exact List.Mem.head _ | refine List.Mem.tail _ ?_)))
  have lAnd : RdEl w0 bl (sl2 nAnd) [exLt, exNot] := RdEl.two (e := exLt) (e' := exNot) (RdE.of lLt RdEl.nil0) rfl (RdE.of l20 RdEl.nil0) rfl (hm _ (by repeat (first | exact List.Mem.head _ | refine List.Mem.tail _ ?_)))
  have l9 : RdSt w0 bl (sl1 s9) [exEndX] := RdSt.one (RdS.of (s := exEndX) RdEl.nil0 RdEl.nil0 RdSt.nil0 RdSt.nil0) rfl (hm _ (by repeat (first | exact List.Mem.head _ | refine List.Mem.tail _ ?_)))
  have l19 : RdSt w0 bl (sl2 s19) [exLetY, exSetY] := RdSt.two (RdS.of (s := exLetY) lEq RdEl.nil0 RdSt.nil0 RdSt.nil0) rfl (RdS.of (s := exSetY) RdEl.nil0 RdEl.nil0 RdSt.nil0 RdSt.nil0) rfl (hm _ (by repeat (first | exact List.Mem.head _ | refine List.Mem.tail _ ?_)))
  have lB : RdSt w0 bl (.slice a (3 + cll.length) c) ([exLetX, exIf, exEndK] ++ L) := ⟨_, hb, by
    show RdSs w0 bl (exLetX :: exIf :: exEndK :: L) (_ :: _ :: _ :: cll)
    unfold RdSs
    refine ⟨_, _, rfl, RdS.of (s := exLetX) RdEl.nil0 RdEl.nil0 RdSt.nil0 RdSt.nil0, ?_⟩
    unfold RdSs
    refine ⟨_, _, rfl, RdS.of (s := exIf) lAnd RdEl.nil0 l9 l19, ?_⟩
    unfold RdSs
    exact ⟨_, _, rfl, RdS.of (s := exEndK) RdEl.nil0 RdEl.nil0 RdSt.nil0 RdSt.nil0, hL⟩⟩
  have lPa : RdSl w0 bl encY 1 (sl1 sPa) (exO L).params := RdSl.flat (encE := encY) (q := 1) (w0 := w0) (b := sPa) (l := (exO L).params) (fun _ _ => rfl) (hm _ (by repeat (first | exact List.Mem.head _ | refine List.Mem.tail _ ?_)))
  have lOp : RdOl w0 bl (sl1 sOp) [exO L] := RdOl.one (o := exO L) ⟨_, _, rfl, lPa, lB⟩ rfl (hm _ (by repeat (first | exact List.Mem.head _ | refine List.Mem.tail _ ?_)))
  have lSt : RdSl w0 bl encD 2 (sl1 sSt) (exP L).stores := RdSl.flat (encE := encD) (q := 2) (w0 := w0) (b := sSt) (l := (exP L).stores) (fun _ _ => rfl) (hm _ (by repeat (first | exact List.Mem.head _ | refine List.Mem.tail _ ?_)))
  exact ⟨_, _, rfl, lSt, lOp⟩
theorem ex_spec (w0 : World) (sh : Shared) (vl : Value) (L : List PS) (cll : List (List Value)) (hL : ∀ bl, RdSs w0 bl L cll) (hl : RdSl w0 sh (fun x : List Value => x) 11 vl cll) (hq : ∀ x ∈ cll, x.length = 11) (hone : allOne (cll.flatMap fun x => x) = true) (hb : cll.length ≤ 1) :
    Vc.Fn PP w0 sh 22 [vl] [] (fun r Γ => ∃ sSt sOp : Nat, r = .agg #[sl1 sSt, sl1 sOp] ∧ Γ = [Rds fun bl => RdP w0 bl (.agg #[sl1 sSt, sl1 sOp]) (exP L)]) := by
  refine (example_spec w0 sh vl cll hl hq hone hb).post ?_
  rintro v Γ ⟨sSt, sOp, rfl, rfl⟩
  exact ⟨_, ⟨sSt, sOp, rfl, rfl⟩, fun h hs => Stars.one.2 (Rds.mono (fun bl hx => exP_rd w0 bl L cll sSt sOp (hL bl) hx) h (Stars.one.1 hs))⟩
theorem ex0_spec (w0 : World) : Vc.Fn PP w0 [] 22 [nilS] [] (fun r Γ => ∃ sSt sOp : Nat, r = .agg #[sl1 sSt, sl1 sOp] ∧ Γ = [Rds fun bl => RdP w0 bl (.agg #[sl1 sSt, sl1 sOp]) (exP [])]) :=
  ex_spec w0 [] nilS [] [] (fun bl => by unfold RdSs; rfl) RdSl.nil (fun _ h => by cases h) rfl (Nat.zero_le _)
theorem ex1_spec (w0 : World) (s : Nat) : Vc.Fn PP w0 [] 22 [sl1 s] [pt s (.cells (List.toArray (psC exSetO nilS nilS nilS nilS ++ [])) 43 (0, 0))] (fun r Γ => ∃ sSt sOp : Nat, r = .agg #[sl1 sSt, sl1 sOp] ∧ Γ = [Rds fun bl => RdP w0 bl (.agg #[sl1 sSt, sl1 sOp]) (exP [exSetO]), pt s (.cells (List.toArray (psC exSetO nilS nilS nilS nilS ++ [])) 43 (0, 0))]) := by
  refine (ex_spec w0 [(s, .cells (List.toArray (psC exSetO nilS nilS nilS nilS ++ [])) 43 (0, 0))] (sl1 s) [exSetO] [psC exSetO nilS nilS nilS nilS] (fun bl => ?_) (RdC.of (cl := [psC exSetO nilS nilS nilS nilS]) (fun x hx => by rw [List.mem_singleton.1 hx]; rfl) (.head _)) (fun x hx => by rw [List.mem_singleton.1 hx]; rfl) rfl (Nat.le_refl _)).owned.mono ?_
  · unfold RdSs
    exact ⟨_, _, rfl, RdS.of (s := exSetO) RdEl.nil0 RdEl.nil0 RdSt.nil0 RdSt.nil0, by unfold RdSs; rfl⟩
  · rintro v Γ ⟨_, ⟨sSt, sOp, rfl, rfl⟩, rfl⟩
    exact ⟨sSt, sOp, rfl, rfl⟩
theorem ex0_ty (w0 : World) (hk : KwOk w0) (sSt sOp : Nat) : Vc.Fn PP w0 [] 11 [.agg #[sl1 sSt, sl1 sOp]] [Rds fun bl => RdP w0 bl (.agg #[sl1 sSt, sl1 sOp]) (exP [])] (fun r Γ => r = .tuple #[.string (bs []), .int .i64 0] ∧ Γ = [Rds fun bl => RdP w0 bl (.agg #[sl1 sSt, sl1 sOp]) (exP [])]) := by
  refine (Fn.lendR (φ := fun bl => RdP w0 bl (.agg #[sl1 sSt, sl1 sOp]) (exP [])) en11 (fun sh1 bl1 h1 h2 h3 => typesCheck_spec w0 hk sh1 _ (exP []) ((show RdP w0 bl1 _ _ from h3).mono h2) ⟨by decide, by decide, fun o ho => by rw [List.mem_singleton.1 ho]; decide +kernel⟩ (fun o ho => by rw [List.mem_singleton.1 ho]; decide +kernel))).mono ?_
  rintro v Γ ⟨_, ⟨rfl, rfl⟩, rfl⟩
  rw [exP_ty]
  exact ⟨rfl, rfl⟩
theorem ex1_ty (w0 : World) (hk : KwOk w0) (sSt sOp : Nat) : Vc.Fn PP w0 [] 11 [.agg #[sl1 sSt, sl1 sOp]] [Rds fun bl => RdP w0 bl (.agg #[sl1 sSt, sl1 sOp]) (exP [exSetO])] (fun r Γ => r = .tuple #[.string (bs [102]), .int .i64 16] ∧ Γ = [Rds fun bl => RdP w0 bl (.agg #[sl1 sSt, sl1 sOp]) (exP [exSetO])]) := by
  refine (Fn.lendR (φ := fun bl => RdP w0 bl (.agg #[sl1 sSt, sl1 sOp]) (exP [exSetO])) en11 (fun sh1 bl1 h1 h2 h3 => typesCheck_spec w0 hk sh1 _ (exP [exSetO]) ((show RdP w0 bl1 _ _ from h3).mono h2) ⟨by decide, by decide, fun o ho => by rw [List.mem_singleton.1 ho]; decide +kernel⟩ (fun o ho => by rw [List.mem_singleton.1 ho]; decide +kernel))).mono ?_
  rintro v Γ ⟨_, ⟨rfl, rfl⟩, rfl⟩
  rw [exP_bad]
  exact ⟨rfl, rfl⟩
theorem ex0_vars (w0 : World) (hk : KwOk w0) (sSt sOp : Nat) : Vc.Fn PP w0 [] 12 [.agg #[sl1 sSt, sl1 sOp], .string (bs [102])] [Rds fun bl => RdP w0 bl (.agg #[sl1 sSt, sl1 sOp]) (exP [])] (fun r Γ => ∃ ma, r = .tuple #[.map (some ma), .int .i64 0] ∧ Γ = [MapB ma (tvS [(bs [107], 1), (bs [120], 1), (bs [121], 2)]), Rds fun bl => RdP w0 bl (.agg #[sl1 sSt, sl1 sOp]) (exP [])]) := by
  refine (Fn.lendR (φ := fun bl => RdP w0 bl (.agg #[sl1 sSt, sl1 sOp]) (exP [])) en12 (fun sh1 bl1 h1 h2 h3 => typesVars_spec w0 hk sh1 _ (exP []) (bs [102]) ((show RdP w0 bl1 _ _ from h3).mono h2) ⟨by decide, by decide, fun o ho => by rw [List.mem_singleton.1 ho]; decide +kernel⟩ (fun o ho => by rw [List.mem_singleton.1 ho]; decide +kernel))).mono ?_
  rw [exP_vars]
  rintro v Γ ⟨_, ⟨h1, _⟩, rfl⟩
  obtain ⟨ma, rfl, rfl⟩ := h1 rfl
  exact ⟨ma, rfl, rfl⟩
set_option maxHeartbeats 4000000 in
theorem awake_spec (w0 : World) (hk : KwOk w0) : FnE PP w0 [] 10 [] [] (.bool true) [] := by
  have h0 := ex0_spec w0
  have h1 := ex1_spec w0
  have t0 := ex0_ty w0 hk
  have t1 := ex1_ty w0 hk
  have v0 := ex0_vars w0 hk
  refine fn_of_run en10 fn10 rfl rfl rfl ?_
  repeat (first | refine zck ?_ | refine zcl ?_ | refine zcm ?_ | refine zcn ?_)
  first | refine zcp (by kernel_rfl) ?_ | refine zcq PP_mixed (by kernel_rfl) (by kernel_rfl) ?_
  repeat' (refine zap rfl ?_; first | refine zan rfl ?_)
  all_goals refine zch ?_
  all_goals repeat (first | refine zck ?_ | refine zcl ?_ | refine zcm ?_ | refine zcn ?_)
  repeat (first | refine zck ?_ | refine zcl ?_ | refine zcm ?_ | refine zcn ?_)
  first | refine zcp (by kernel_rfl) ?_ | refine zcq PP_mixed (by kernel_rfl) (by kernel_rfl) ?_
  repeat' (refine zap rfl ?_; first | refine zan rfl ?_ | refine zan rfl ?_ | (refine zai [] h0 rfl rfl rfl sub_nil ?_; rintro v Γ ⟨p1, q1, rfl, rfl⟩) | (refine zai [0] (t0 p1 q1) rfl rfl rfl sub_nil ?_; rintro v Γ ⟨rfl, rfl⟩) | refine zan rfl ?_)
  all_goals refine zch ?_
  all_goals repeat (first | refine zck ?_ | refine zcl ?_ | refine zcm ?_ | refine zcn ?_)
  refine run_take [] rfl ?_
  repeat (first | refine zck ?_ | refine zcl ?_ | refine zcm ?_ | refine zcn ?_)
  first | refine zcp (by kernel_rfl) ?_ | refine zcq PP_mixed (by kernel_rfl) (by kernel_rfl) ?_
  repeat' (refine zap rfl ?_; first | refine zan rfl ?_ | refine zan rfl ?_ | (refine zai [] h0 rfl rfl rfl sub_nil ?_; rintro v Γ ⟨p1, q1, rfl, rfl⟩) | (refine zai [0] (v0 p1 q1) rfl rfl rfl sub_nil ?_; rintro v Γ ⟨ma, rfl, rfl⟩) | refine zan rfl ?_)
  all_goals refine zch ?_
  all_goals repeat (first | refine zck ?_ | refine zcl ?_ | refine zcm ?_ | refine zcn ?_)
  refine run_take [0] rfl ?_
  repeat (first | refine zck ?_ | refine zcl ?_ | refine zcm ?_ | refine zcn ?_)
  first | refine zcp (by kernel_rfl) ?_ | refine zcq PP_mixed (by kernel_rfl) (by kernel_rfl) ?_
  repeat' (refine zap rfl ?_; first | refine reg_buildSlice rfl rfl rfl rfl rfl rfl (fun s => ?_) | refine zan rfl ?_ | refine zan rfl ?_ | (refine zai [1] (h1 s) rfl rfl rfl sub_nil ?_; rintro v Γ ⟨p2, q2, rfl, rfl⟩) | (refine zai [0] (t1 p2 q2) rfl rfl rfl sub_nil ?_; rintro v Γ ⟨rfl, rfl⟩) | refine zan rfl ?_ | refine zcb rfl ?_)
  all_goals refine zch ?_
  all_goals repeat (first | refine zck ?_ | refine zcl ?_ | refine zcm ?_ | refine zcn ?_)
  refine run_take [2] rfl ?_
  refine run_shareMB [0] rfl (fun sh' hsub hR => ?_)
  repeat' (first | refine zcp (by kernel_rfl) ?_ | (refine zap rfl ?_; first | refine reg_lookupR (a := bs [107]) (v := .int .i64 1) hR rfl rfl (by kernel_rfl) ?_ | refine reg_lookupR (a := bs [120]) (v := .int .i64 1) hR rfl rfl (by kernel_rfl) ?_ | refine reg_lookupR (a := bs [121]) (v := .int .i64 2) hR rfl rfl (by kernel_rfl) ?_ | refine reg_eqS rfl rfl ?_ | refine zbo rfl rfl ?_ | refine zaj rfl ?_ | refine zan rfl ?_ | refine zan rfl ?_ | refine reg_len_mapR hR rfl ?_ | refine zbu rfl ?_) | refine zch ?_)
  refine run_take [] rfl ?_
  exact ret_tmp1 rfl ⟨by kernel_rfl, rfl⟩
end Go.Proofs.YtijbnjaackhlcaaGreatDoor

namespace Sim
open Go Go.Vc
theorem lastK_none {s : ByteArray} : ∀ {l : List (ByteArray × ByteArray)} {t : Option ByteArray}, s ∉ l.map (·.1) → lastK l s t = t
  | [], _, _ => rfl
  | d :: l, t, h => by
    rw [List.map_cons, List.mem_cons, not_or] at h
    rw [lastK, if_neg (fun e => h.1 e.symm), lastK_none h.2]
theorem lastK_look (s : ByteArray) : ∀ {l : List (ByteArray × ByteArray)}, (l.map (·.1)).Nodup → lastK l s none = lookK l s
  | [], _ => rfl
  | d :: l, hn => by
    rw [List.map_cons, List.nodup_cons] at hn
    rw [lastK, lookK]
    by_cases h : d.1 = s
    · rw [if_pos h, if_pos h, lastK_none (by rw [← h]; exact hn.1)]
    · rw [if_neg h, if_neg h, lastK_look s hn.2]
theorem wrongD_nodup : ∀ {l : List (ByteArray × ByteArray)} {met : List ByteArray}, wrongD met l = 0 → (l.map (·.1)).Nodup ∧ ∀ d ∈ l, d.1 ∉ met
  | [], _, _ => ⟨List.nodup_nil, fun _ h => by cases h⟩
  | d :: l, met, h => by
    rw [wrongD] at h
    by_cases h1 : freshN met d.1 [d.2] = 0
    · rw [if_neg (fun q => q h1)] at h
      obtain ⟨i1, i2⟩ := wrongD_nodup h
      have h2 := inS_mem.1 (freshN_met.1 h1).2
      rw [List.map_cons, List.nodup_cons]
      refine ⟨⟨fun hm => ?_, i1⟩, fun x hx => ?_⟩
      · obtain ⟨e, he, hq⟩ := List.mem_map.1 hm
        exact i2 e he (by rw [hq]; exact List.mem_append_right _ (.head _))
      · rcases List.mem_cons.1 hx with rfl | hx
        · exact h2
        · exact fun hm => i2 x hx (List.mem_append_left _ hm)
    · rw [if_pos h1] at h; exact absurd h h1
theorem lastK_fun {p : PP'} (h : wrongD [] p.stores = 0) : (fun s => lastK p.stores s none) = lookK p.stores := funext fun s => lastK_look s (wrongD_nodup h).1
def wantL (p : PP') (oper : ByteArray) (l : List PO) : TV := match l.find? (fun o => decide (o.name = oper)) with | some o => (tyO p o).1 | none => []
theorem wantL_next {p : PP'} {oper : ByteArray} {l : List PO} {j : Nat} {o : PO} (hn : (l.map (·.name)).Nodup) (ho : l[j]? = some o) : wantL p oper (l.take (j + 1)) = if o.name = oper then (tyO p o).1 else wantL p oper (l.take j) := by
  unfold wantL
  rw [take_snoc ho, List.find?_append]
  by_cases h : o.name = oper
  · have hno : (l.take j).find? (fun o => decide (o.name = oper)) = none := by
      rw [List.find?_eq_none]
      intro x hx e
      have e : x.name = oper := by simpa using e
      have hn2 : ((l.take (j + 1)).map (·.name)).Nodup := ((List.take_sublist (j + 1) l).map PO.name).nodup hn
      rw [take_snoc ho, List.map_append, List.nodup_append] at hn2
      exact hn2.2.2 x.name (List.mem_map_of_mem hx) o.name (by simp) (by rw [e, h])
    rw [hno, if_pos h, List.find?_cons_of_pos (by simpa using h)]
    rfl
  · rw [if_neg h, List.find?_cons_of_neg (by simpa using h), List.find?_nil, Option.or_none]
def wantP (p : PP') (oper : ByteArray) : TV := if (tyP p).2 ≠ 0 then [] else wantL p oper p.opers
end Sim

