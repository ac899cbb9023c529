import Derived.Test.YtijbnjaackhlcaaGreatDoorPart4
import Derived.Test.YtijbnjaackhlcaaGreatDoorPart3
/- Lemmas and walks for the claims of this seat (own work): Yp1 Yr0. -/
namespace Go.Proofs.YtijbnjaackhlcaaGreatDoor
open Go.Vc Sim
set_option maxHeartbeats 4000000 in
theorem binary_spec (w0 : World) (sh : Shared) (mv ms : Nat) (e : PE) (va vo v : Value) (ts : List Int) (a b : Int) (hl : RdSl w0 sh encI 1 v ts) (hn : ts.length = 2) (hs : signT e.meth = some (a, b)) :
    FnE PP w0 sh 75 [tyrV mv ms, .agg (List.toArray (peC e.kind e.num e.name e.meth va vo)), v] []
      (if (a = 0 ∧ ts.getD 0 0 = ts.getD 1 0) ∨ (a ≠ 0 ∧ anyNe ts a = false) then .tuple #[.int .i64 b, .int .i64 0] else .tuple #[.int .i64 0, .int .i64 17]) [] := by
  have ho := other_spec w0 sh v ts a hl (by omega)
  have hlk := sgM_look e.meth
  rw [hs] at hlk
  match ts, hn with
  | [x, y], _ =>
  obtain ⟨av, cv, hv, _⟩ := id hl
  subst hv
  obtain ⟨b1, off, c, T, fr, hav, e2, _, e3⟩ := hl.cells (i := 0) (x := x) rfl
  obtain ⟨b2, off2, c2, T2, fr2, hav2, e4, _, e5⟩ := hl.cells (i := 1) (x := y) rfl
  subst hav
  cases hav2
  have r0 := e3 0 _ rfl
  have r1 := e5 0 _ rfl
  refine fn_of_run en75 fn75 rfl rfl rfl ?_
  repeat (first | refine zck ?_ | refine zcl ?_ | refine zcm ?_ | refine zcn ?_)
  first | refine zcp (by kernel_rfl) ?_ | refine zcq PP_mixed (by kernel_rfl) (by kernel_rfl) ?_
  repeat' (refine zap rfl ?_; first | refine zan rfl ?_ | refine zaq (cs := [_, _]) rfl (fun nb => ?_) | refine zaq (cs := [_, _, _, _, _, _]) rfl (fun nb => ?_))
  all_goals refine zch ?_
  all_goals repeat (first | refine zck ?_ | refine zcl ?_ | refine zcm ?_ | refine zcn ?_)
  refine run_share [0] rfl ?_
  refine run_share [0] rfl ?_
  repeat (first | refine zck ?_ | refine zcl ?_ | refine zcm ?_ | refine zcn ?_)
  first | refine zcp (by kernel_rfl) ?_ | refine zcr [(.loud, 0), (.quiet, 1), (.quiet, 2), (.loud, 3), (.loud, 4), (.loud, 5)] PP_mixed (by kernel_rfl) (by kernel_rfl) ?_ | refine run_drawR PP_mixed (by kernel_rfl) (by kernel_rfl) ?_
  repeat' (refine zap rfl ?_; first | refine reg_lookupS 0 (v := sgV (a, b)) rfl rfl rfl (by rw [hlk]; rfl) ?_ | refine zaa 0 rfl rfl rfl ?_ | (refine zai [] (signs_spec w0) rfl rfl rfl sub_nil ?_; rintro v Γ ⟨m, rfl, rfl⟩) | refine zao rfl ?_ | refine zae 1 rfl rfl rfl rfl rfl rfl rfl ?_ | refine zar (fun nb => ?_))
  all_goals refine zch ?_
  all_goals repeat (first | refine zck ?_ | refine zcl ?_ | refine zcm ?_ | refine zcn ?_)
  refine run_share [1] rfl ?_
  refine run_take [] rfl ?_
  by_cases ha : a = 0
  · subst ha
    by_cases hxy : x = y
    · subst hxy
      rw [if_pos (.inl ⟨rfl, rfl⟩)]
      repeat (first | refine zck ?_ | refine zcl ?_ | refine zcm ?_ | refine zcn ?_)
      first | refine zcp (by kernel_rfl) ?_ | refine zcq PP_mixed (by kernel_rfl) (by kernel_rfl) ?_
      repeat' (refine zap rfl ?_; first | refine zad rfl (fun hF Γ w h1 h2 => e2 hF Γ w (fun p hp => h1 p (by simp [hp])) h2) (r0 _ (by omega)) ?_ | refine zad rfl (fun hF Γ w h1 h2 => e4 hF Γ w (fun p hp => h1 p (by simp [hp])) h2) (r1 _ (by omega)) ?_ | refine zaj rfl ?_ | refine zak rfl ?_ | refine zal rfl ?_ | refine zan rfl ?_ | refine zaa 0 rfl rfl rfl ?_ | refine zao rfl ?_ | refine zbc rfl rfl (by omega) ?_ | refine zbu rfl ?_ | refine zas rfl rfl (by omega) ?_)
      all_goals refine zch ?_
      all_goals repeat (first | refine zck ?_ | refine zcl ?_ | refine zcm ?_ | refine zcn ?_)
      refine zci rfl ?_
      repeat' (first | refine zck ?_ | refine zcp (by kernel_rfl) ?_ | (refine zap rfl ?_; first | refine zan rfl ?_ | refine zaa 0 rfl rfl rfl ?_ | refine zao rfl ?_) | refine zch ?_)
      exact ret_tmp2 rfl ⟨rfl, rfl⟩
    · rw [if_neg (by rintro (h | h); exact hxy h.2; exact h.1 rfl)]
      repeat (first | refine zck ?_ | refine zcl ?_ | refine zcm ?_ | refine zcn ?_)
      first | refine zcp (by kernel_rfl) ?_ | refine zcq PP_mixed (by kernel_rfl) (by kernel_rfl) ?_
      repeat' (refine zap rfl ?_; first | refine zad rfl (fun hF Γ w h1 h2 => e2 hF Γ w (fun p hp => h1 p (by simp [hp])) h2) (r0 _ (by omega)) ?_ | refine zad rfl (fun hF Γ w h1 h2 => e4 hF Γ w (fun p hp => h1 p (by simp [hp])) h2) (r1 _ (by omega)) ?_ | refine zaj rfl ?_ | refine zak rfl ?_ | refine zan rfl ?_ | refine zaa 0 rfl rfl rfl ?_ | refine zao rfl ?_ | refine zbc rfl rfl (by omega) ?_ | refine zbd rfl rfl (by omega) ?_ | refine zbf rfl rfl (by omega) ?_ | refine zbu rfl ?_ | refine zbv rfl ?_ | refine zas rfl rfl (by omega) ?_)
      all_goals refine zch ?_
      all_goals repeat (first | refine zck ?_ | refine zcl ?_ | refine zcm ?_ | refine zcn ?_)
      refine zcj rfl ?_
      repeat' (first | refine zck ?_ | refine zcp (by kernel_rfl) ?_ | refine zcm ?_ | (refine zap rfl ?_; first | refine zan rfl ?_) | refine zch ?_)
      exact ret_tmp2 rfl ⟨rfl, rfl⟩
  · cases hq : anyNe [x, y] a with
    | true =>
      rw [hq] at ho
      rw [if_neg (by rintro (h | h); exact ha h.1; exact absurd h.2 (by decide))]
      repeat (first | refine zck ?_ | refine zcl ?_ | refine zcm ?_ | refine zcn ?_)
      first | refine zcp (by kernel_rfl) ?_ | refine zcq PP_mixed (by kernel_rfl) (by kernel_rfl) ?_
      repeat' (refine zap rfl ?_; first | refine zaj rfl ?_ | refine zak rfl ?_ | refine zan rfl ?_ | refine zaa 0 rfl rfl rfl ?_ | refine zah [] ho rfl rfl rfl (fun p hp => by simp [hp]) rfl ?_ | refine zao rfl ?_ | refine zbd rfl rfl (by omega) ?_ | refine zbe rfl rfl (by omega) ?_ | refine zbx rfl ?_ | refine zbu rfl ?_ | refine zbv rfl ?_)
      all_goals refine zch ?_
      all_goals repeat (first | refine zck ?_ | refine zcl ?_ | refine zcm ?_ | refine zcn ?_)
      refine zcj rfl ?_
      repeat' (first | refine zck ?_ | refine zcp (by kernel_rfl) ?_ | refine zcm ?_ | (refine zap rfl ?_; first | refine zan rfl ?_) | refine zch ?_)
      exact ret_tmp2 rfl ⟨rfl, rfl⟩
    | false =>
      rw [hq] at ho
      rw [if_pos (.inr ⟨ha, rfl⟩)]
      repeat (first | refine zck ?_ | refine zcl ?_ | refine zcm ?_ | refine zcn ?_)
      first | refine zcp (by kernel_rfl) ?_ | refine zcq PP_mixed (by kernel_rfl) (by kernel_rfl) ?_
      repeat' (refine zap rfl ?_; first | refine zaj rfl ?_ | refine zak rfl ?_ | refine zan rfl ?_ | refine zaa 0 rfl rfl rfl ?_ | refine zah [] ho rfl rfl rfl (fun p hp => by simp [hp]) rfl ?_ | refine zao rfl ?_ | refine zbd rfl rfl (by omega) ?_ | refine zbe rfl rfl (by omega) ?_ | refine zbx rfl ?_ | refine zbu rfl ?_ | refine zbv rfl ?_)
      all_goals refine zch ?_
      all_goals repeat (first | refine zck ?_ | refine zcl ?_ | refine zcm ?_ | refine zcn ?_)
      refine zci rfl ?_
      repeat' (first | refine zck ?_ | refine zcp (by kernel_rfl) ?_ | (refine zap rfl ?_; first | refine zan rfl ?_ | refine zaa 0 rfl rfl rfl ?_ | refine zao rfl ?_) | refine zch ?_)
      exact ret_tmp2 rfl ⟨rfl, rfl⟩
theorem shapes_spec (w0 : World) : FnE PP w0 [] 70 [] [] (.agg (List.toArray shV)) [] := by
  refine fn_of_run en70 fn70 rfl rfl rfl ?_
  repeat (first | refine zck ?_ | refine zcl ?_ | refine zcm ?_ | refine zcn ?_)
  first | refine zcp (by kernel_rfl) ?_ | refine zcq PP_mixed (by kernel_rfl) (by kernel_rfl) ?_
  repeat' (refine zap rfl ?_; first | refine zar (fun nb => ?_))
  all_goals refine zch ?_
  all_goals repeat (first | refine zck ?_ | refine zcl ?_ | refine zcm ?_ | refine zcn ?_)
  repeat (first | refine zck ?_ | refine zcl ?_ | refine zcm ?_ | refine zcn ?_)
  first | refine zcp (by kernel_rfl) ?_ | refine zcq PP_mixed (by kernel_rfl) (by kernel_rfl) ?_
  repeat' (refine zap rfl ?_; first | refine zae 0 rfl rfl rfl rfl rfl rfl rfl ?_ | refine zcb rfl ?_ | refine reg_buildA rfl ?_)
  all_goals refine zch ?_
  all_goals repeat (first | refine zck ?_ | refine zcl ?_ | refine zcm ?_ | refine zcn ?_)
  exact run_ret (leaves_nil (ends_take [] rfl (ends_one rfl (resOk_pt 0 rfl rfl rfl) ⟨rfl, rfl, rfl⟩)))
set_option maxHeartbeats 4000000 in
theorem form_core (w0 : World) (e : PE) (va vo : Value) (a m o : Nat) (k : Int) (sh : Shared) (ha : RdEl w0 sh va e.args) (ho : RdEl w0 sh vo e.or) (hk : e.kind = k) (hk0 : 0 ≤ k ∧ k ≤ 7)
    (hidx : ∀ q, q = k.toNat * 3 → rd true 3 shV q = some (.agg (List.toArray [.int .i64 a, .int .i64 m, .int .i64 o]))) (hs : ∃ S, lookS sgM e.meth = S ∧ (k = 5 → ∃ p, S = some (sgV p))) :
    FnE PP w0 sh 53 [.agg (List.toArray (peC e.kind e.num e.name e.meth va vo))] [] (.bool (decide (a ≤ e.args.length) && (decide (e.args.length ≤ m) && decide (e.or.length ≤ o)))) [] := by
  obtain ⟨S, hS, hS5⟩ := hs
  obtain ⟨a1, c1, hva, _⟩ := ha.len
  obtain ⟨a2, c2, hvo, _⟩ := ho.len
  subst hva; subst hvo
  rw [hk]
  refine fn_of_run en53 fn53 rfl rfl rfl ?_
  repeat (first | refine zck ?_ | refine zcl ?_ | refine zcm ?_ | refine zcn ?_)
  first | refine zcp (by kernel_rfl) ?_ | refine zcq PP_mixed (by kernel_rfl) (by kernel_rfl) ?_
  repeat' (refine zap rfl ?_; first | refine zaq (cs := [_, _, _, _, _, _]) rfl (fun t1 => ?_) | refine zan rfl ?_)
  all_goals refine zch ?_
  all_goals repeat (first | refine zck ?_ | refine zcl ?_ | refine zcm ?_ | refine zcn ?_)
  refine run_share [0] rfl ?_
  repeat (first | refine zck ?_ | refine zcl ?_ | refine zcm ?_ | refine zcn ?_)
  first | refine zcp (by kernel_rfl) ?_ | refine zcq PP_mixed (by kernel_rfl) (by kernel_rfl) ?_
  repeat' (refine zap rfl ?_; first | refine zar (fun t3 => ?_) | refine reg_indexA (cs := shV) (sz := 3) rfl rfl ⟨hk0.1, by omega⟩ (hidx _ rfl) ?_ | refine zaa 0 rfl rfl rfl ?_ | refine zah [] (shapes_spec w0) rfl rfl rfl sub_nil rfl ?_ | refine zao rfl ?_ | refine zae 0 rfl rfl rfl rfl rfl rfl rfl ?_)
  all_goals refine zch ?_
  all_goals repeat (first | refine zck ?_ | refine zcl ?_ | refine zcm ?_ | refine zcn ?_)
  refine run_share [0] rfl ?_
  repeat (first | refine zck ?_ | refine zcl ?_ | refine zcm ?_ | refine zcn ?_)
  first | refine zcp (by kernel_rfl) ?_ | refine zcq PP_mixed (by kernel_rfl) (by kernel_rfl) ?_
  repeat' (refine zap rfl ?_; first | refine zbo rfl rfl ?_ | refine zaa 1 rfl rfl rfl ?_ | refine zao rfl ?_)
  all_goals refine zch ?_
  all_goals repeat (refine zck ?_)
  refine run_bind_eq (l' := [(1, .pointer (some ⟨t1, 0, none⟩)), (3, .pointer (some ⟨t3, 0, none⟩))]) (Γ' := []) ?_ ?_
  · by_cases h5 : k = 5
    · obtain ⟨p, hp⟩ := hS5 h5
      subst hp
      refine run_condV rfl (fun _ => ?_) (fun h => absurd h5 (of_decide_eq_false h))
      repeat (first | refine zck ?_ | refine zcl ?_ | refine zcm ?_ | refine zcn ?_)
      first | refine zcp (by kernel_rfl) ?_ | refine zcr [(.loud, 0), (.quiet, 1), (.quiet, 2), (.loud, 3), (.quiet, 4), (.quiet, 5), (.quiet, 6), (.loud, 7), (.loud, 8), (.quiet, 9)] PP_mixed (by kernel_rfl) (by kernel_rfl) ?_ | refine run_drawR PP_mixed (by kernel_rfl) (by kernel_rfl) ?_
      repeat' (refine zap rfl ?_; first | refine zar (fun t4 => ?_) | refine reg_lookupS 0 (v := .tuple #[sgV p, .bool true]) rfl rfl rfl (by rw [hS]; rfl) ?_ | refine zan rfl ?_ | refine zan rfl ?_ | refine zaa 1 rfl rfl rfl ?_ | (refine zai [] (signs_spec w0) rfl rfl rfl sub_nil ?_; rintro v Γ ⟨m, rfl, rfl⟩) | refine zao rfl ?_ | refine zan rfl ?_ | refine zae 1 rfl rfl rfl rfl rfl rfl rfl ?_)
      all_goals refine zch ?_
      all_goals repeat (first | refine zck ?_ | refine zcl ?_ | refine zcm ?_ | refine zcn ?_)
      repeat (first | refine zck ?_ | refine zcl ?_ | refine zcm ?_ | refine zcn ?_)
      first | refine zcp (by kernel_rfl) ?_ | refine zcq PP_mixed (by kernel_rfl) (by kernel_rfl) ?_
      repeat' (refine zap rfl ?_; first | refine zan rfl ?_ | refine zbx rfl ?_)
      all_goals refine zch ?_
      all_goals repeat (first | refine zck ?_ | refine zcl ?_ | refine zcm ?_ | refine zcn ?_)
      refine zcj rfl ?_
      repeat (first | refine zck ?_ | refine zcl ?_ | refine zcm ?_ | refine zcn ?_ | refine zco ?_)
      refine run_take [] rfl ?_
      exact cut_end ⟨rfl, ⟨rfl, rfl, trivial⟩, rfl⟩
    · refine run_condV rfl (fun h => absurd (of_decide_eq_true h) h5) (fun _ => ?_)
      repeat (first | refine zck ?_ | refine zcl ?_ | refine zcm ?_ | refine zcn ?_ | refine zco ?_)
      exact cut_end ⟨rfl, ⟨rfl, rfl, trivial⟩, rfl⟩
  intro junk
  by_cases h0 : a ≤ e.args.length
  rotate_left
  · repeat (first | refine zck ?_ | refine zcl ?_ | refine zcm ?_ | refine zcn ?_)
    first | refine zcp (by kernel_rfl) ?_ | refine zcq PP_mixed (by kernel_rfl) (by kernel_rfl) ?_
    repeat' (refine zap rfl ?_; first | refine zak rfl ?_ | refine zan rfl ?_ | refine zan rfl ?_ | refine zaa 0 rfl rfl rfl ?_ | refine zaa 1 rfl rfl rfl ?_ | refine zce rfl ?_ | refine zao rfl ?_ | refine zbn rfl rfl (by omega) ?_ | refine zbv rfl ?_)
    all_goals refine zch ?_
    all_goals repeat (first | refine zck ?_ | refine zcl ?_ | refine zcm ?_ | refine zcn ?_)
    exact ret_tmp1 rfl ⟨bool_eq (by simp [h0]), rfl⟩
  by_cases h1 : e.args.length ≤ m
  rotate_left
  · repeat (first | refine zck ?_ | refine zcl ?_ | refine zcm ?_ | refine zcn ?_)
    first | refine zcp (by kernel_rfl) ?_ | refine zcq PP_mixed (by kernel_rfl) (by kernel_rfl) ?_
    repeat' (refine zap rfl ?_; first | refine zaj rfl ?_ | refine zak rfl ?_ | refine zan rfl ?_ | refine zan rfl ?_ | refine zaa 0 rfl rfl rfl ?_ | refine zaa 1 rfl rfl rfl ?_ | refine zce rfl ?_ | refine zao rfl ?_ | refine zbj rfl rfl (by omega) ?_ | refine zbm rfl rfl (by omega) ?_ | refine zbu rfl ?_ | refine zbv rfl ?_)
    all_goals refine zch ?_
    all_goals repeat (first | refine zck ?_ | refine zcl ?_ | refine zcm ?_ | refine zcn ?_)
    exact ret_tmp1 rfl ⟨bool_eq (by simp [h1]), rfl⟩
  by_cases h2 : e.or.length ≤ o
  · repeat (first | refine zck ?_ | refine zcl ?_ | refine zcm ?_ | refine zcn ?_)
    first | refine zcp (by kernel_rfl) ?_ | refine zcq PP_mixed (by kernel_rfl) (by kernel_rfl) ?_
    repeat' (refine zap rfl ?_; first | refine zaj rfl ?_ | refine zan rfl ?_ | refine zan rfl ?_ | refine zaa 0 rfl rfl rfl ?_ | refine zaa 1 rfl rfl rfl ?_ | refine zce rfl ?_ | refine zao rfl ?_ | refine zbi rfl rfl (by omega) ?_ | refine zbm rfl rfl (by omega) ?_ | refine zbu rfl ?_)
    all_goals refine zch ?_
    all_goals repeat (first | refine zck ?_ | refine zcl ?_ | refine zcm ?_ | refine zcn ?_)
    exact ret_tmp1 rfl ⟨bool_eq (by simp [h0, h1, h2]), rfl⟩
  · repeat (first | refine zck ?_ | refine zcl ?_ | refine zcm ?_ | refine zcn ?_)
    first | refine zcp (by kernel_rfl) ?_ | refine zcq PP_mixed (by kernel_rfl) (by kernel_rfl) ?_
    repeat' (refine zap rfl ?_; first | refine zaj rfl ?_ | refine zan rfl ?_ | refine zan rfl ?_ | refine zaa 0 rfl rfl rfl ?_ | refine zaa 1 rfl rfl rfl ?_ | refine zce rfl ?_ | refine zao rfl ?_ | refine zbi rfl rfl (by omega) ?_ | refine zbj rfl rfl (by omega) ?_ | refine zbm rfl rfl (by omega) ?_ | refine zbu rfl ?_)
    all_goals refine zch ?_
    all_goals repeat (first | refine zck ?_ | refine zcl ?_ | refine zcm ?_ | refine zcn ?_)
    exact ret_tmp1 rfl ⟨bool_eq (by simp [h2]), rfl⟩
set_option maxHeartbeats 4000000 in
theorem form_none (w0 : World) (e : PE) (va vo : Value) (sh : Shared) (_ : RdEl w0 sh va e.args) (_ : RdEl w0 sh vo e.or) (hk : e.kind = 5) (hs : signT e.meth = none) :
    FnE PP w0 sh 53 [.agg (List.toArray (peC e.kind e.num e.name e.meth va vo))] [] (.bool false) [] := by
  have hS := sgM_look e.meth
  rw [hs] at hS
  rw [hk]
  refine fn_of_run en53 fn53 rfl rfl rfl ?_
  repeat (first | refine zck ?_ | refine zcl ?_ | refine zcm ?_ | refine zcn ?_)
  first | refine zcp (by kernel_rfl) ?_ | refine zcq PP_mixed (by kernel_rfl) (by kernel_rfl) ?_
  repeat' (refine zap rfl ?_; first | refine zaq (cs := [_, _, _, _, _, _]) rfl (fun t1 => ?_) | refine zan rfl ?_)
  all_goals refine zch ?_
  all_goals repeat (first | refine zck ?_ | refine zcl ?_ | refine zcm ?_ | refine zcn ?_)
  refine run_share [0] rfl ?_
  repeat (first | refine zck ?_ | refine zcl ?_ | refine zcm ?_ | refine zcn ?_)
  first | refine zcp (by kernel_rfl) ?_ | refine zcq PP_mixed (by kernel_rfl) (by kernel_rfl) ?_
  repeat' (refine zap rfl ?_; first | refine zar (fun t3 => ?_) | refine reg_indexA (cs := shV) (sz := 3) rfl rfl (by decide) rfl ?_ | refine zaa 0 rfl rfl rfl ?_ | refine zah [] (shapes_spec w0) rfl rfl rfl sub_nil rfl ?_ | refine zao rfl ?_ | refine zae 0 rfl rfl rfl rfl rfl rfl rfl ?_)
  all_goals refine zch ?_
  all_goals repeat (first | refine zck ?_ | refine zcl ?_ | refine zcm ?_ | refine zcn ?_)
  refine run_share [0] rfl ?_
  repeat (first | refine zck ?_ | refine zcl ?_ | refine zcm ?_ | refine zcn ?_)
  first | refine zcp (by kernel_rfl) ?_ | refine zcq PP_mixed (by kernel_rfl) (by kernel_rfl) ?_
  repeat' (refine zap rfl ?_; first | refine zaa 1 rfl rfl rfl ?_ | refine zao rfl ?_ | refine zbc rfl rfl (by omega) ?_)
  all_goals refine zch ?_
  all_goals repeat (first | refine zck ?_ | refine zcl ?_ | refine zcm ?_ | refine zcn ?_)
  refine zci rfl ?_
  repeat (first | refine zck ?_ | refine zcl ?_ | refine zcm ?_ | refine zcn ?_)
  first | refine zcp (by kernel_rfl) ?_ | refine zcr [(.loud, 0), (.quiet, 1), (.quiet, 2), (.loud, 3), (.quiet, 4), (.quiet, 5), (.quiet, 6), (.loud, 7), (.loud, 8), (.quiet, 9)] PP_mixed (by kernel_rfl) (by kernel_rfl) ?_ | refine run_drawR PP_mixed (by kernel_rfl) (by kernel_rfl) ?_
  repeat' (refine zap rfl ?_; first | refine zar (fun t4 => ?_) | refine reg_lookupS 0 (v := .tuple #[sgV (0, 0), .bool false]) rfl rfl rfl (by rw [hS]; rfl) ?_ | refine zan rfl ?_ | refine zan rfl ?_ | refine zaa 1 rfl rfl rfl ?_ | (refine zai [] (signs_spec w0) rfl rfl rfl sub_nil ?_; rintro v Γ ⟨m, rfl, rfl⟩) | refine zao rfl ?_ | refine zan rfl ?_ | refine zae 1 rfl rfl rfl rfl rfl rfl rfl ?_)
  all_goals refine zch ?_
  all_goals repeat (first | refine zck ?_ | refine zcl ?_ | refine zcm ?_ | refine zcn ?_)
  repeat (first | refine zck ?_ | refine zcl ?_ | refine zcm ?_ | refine zcn ?_)
  first | refine zcp (by kernel_rfl) ?_ | refine zcq PP_mixed (by kernel_rfl) (by kernel_rfl) ?_
  repeat' (refine zap rfl ?_; first | refine zan rfl ?_ | refine zbx rfl ?_)
  all_goals refine zch ?_
  all_goals repeat (first | refine zck ?_ | refine zcl ?_ | refine zcm ?_ | refine zcn ?_)
  refine zci rfl ?_
  repeat (first | refine zck ?_ | refine zcl ?_ | refine zcm ?_ | refine zcn ?_)
  first | refine zcp (by kernel_rfl) ?_ | refine zcq PP_mixed (by kernel_rfl) (by kernel_rfl) ?_
  repeat' (refine zap rfl ?_; first | refine zan rfl ?_)
  all_goals refine zch ?_
  all_goals repeat (first | refine zck ?_ | refine zcl ?_ | refine zcm ?_ | refine zcn ?_)
  refine run_take [] rfl ?_
  exact ret_tmp1 rfl ⟨rfl, rfl⟩
theorem formTy_spec (w0 : World) (e : PE) (va vo : Value) (sh : Shared) (ha : RdEl w0 sh va e.args) (ho : RdEl w0 sh vo e.or) (hk : 0 ≤ e.kind ∧ e.kind ≤ 7) :
    FnE PP w0 sh 53 [.agg (List.toArray (peC e.kind e.num e.name e.meth va vo))] [] (.bool (formT e)) [] := by
  by_cases h5 : e.kind = 5 ∧ signT e.meth = none
  · have hf : formT e = false := by unfold formT; rw [if_pos h5]
    rw [hf]
    exact form_none w0 e va vo sh ha ho h5.1 h5.2
  have hs5 : ∀ k : Int, e.kind = k → ∃ S, lookS sgM e.meth = S ∧ (k = 5 → ∃ p, S = some (sgV p)) := fun k hk' => ⟨_, rfl, fun h => by
    cases hq : signT e.meth with
    | none => exact absurd ⟨hk'.trans h, hq⟩ h5
    | some p => exact ⟨p, by rw [sgM_look, hq]; rfl⟩⟩
  have go : ∀ (a m o : Nat) (k : Int), e.kind = k → 0 ≤ k ∧ k ≤ 7 → (∀ q, q = k.toNat * 3 → rd true 3 shV q = some (.agg (List.toArray [.int .i64 a, .int .i64 m, .int .i64 o]))) → (decide (a ≤ e.args.length) && (decide (e.args.length ≤ m) && decide (e.or.length ≤ o))) = formT e →
      FnE PP w0 sh 53 [.agg (List.toArray (peC e.kind e.num e.name e.meth va vo))] [] (.bool (formT e)) [] := fun a m o k hk' hk0 hidx hq => by
    have := form_core w0 e va vo a m o k sh ha ho hk' hk0 hidx (hs5 k hk')
    rw [hq] at this
    exact this
  have hB : ∀ B1 B2 : Bool, (B1 = true ↔ B2 = true) → B1 = B2 := fun B1 B2 h => Bool.eq_iff_iff.2 h
  have hfT : formT e = if e.kind ≤ 2 then decide (e.args.length = 0) && decide (e.or.length = 0)
    else if e.kind ≤ 4 then decide (e.args.length = 1) && decide (e.or.length = 0)
    else if e.kind = 5 then decide (e.args.length = 2) && decide (e.or.length = 0)
    else if e.kind = 6 then decide (e.args.length ≤ 4) && decide (e.or.length ≤ 1)
    else decide (e.args.length ≤ 4) && decide (e.or.length = 0) := by unfold formT; rw [if_neg h5]
  rcases (by omega : e.kind = 0 ∨ e.kind = 1 ∨ e.kind = 2 ∨ e.kind = 3 ∨ e.kind = 4 ∨ e.kind = 5 ∨ e.kind = 6 ∨ e.kind = 7) with h | h | h | h | h | h | h | h
  · exact go 0 0 0 0 h (by decide) (fun q hq => by subst hq; rfl) (by rw [hfT, h, if_pos (by decide)]; refine hB _ _ ?_; simp only [Bool.and_eq_true, decide_eq_true_eq]; omega)
  · exact go 0 0 0 1 h (by decide) (fun q hq => by subst hq; rfl) (by rw [hfT, h, if_pos (by decide)]; refine hB _ _ ?_; simp only [Bool.and_eq_true, decide_eq_true_eq]; omega)
  · exact go 0 0 0 2 h (by decide) (fun q hq => by subst hq; rfl) (by rw [hfT, h, if_pos (by decide)]; refine hB _ _ ?_; simp only [Bool.and_eq_true, decide_eq_true_eq]; omega)
  · exact go 1 1 0 3 h (by decide) (fun q hq => by subst hq; rfl) (by rw [hfT, h, if_neg (by decide), if_pos (by decide)]; refine hB _ _ ?_; simp only [Bool.and_eq_true, decide_eq_true_eq]; omega)
  · exact go 1 1 0 4 h (by decide) (fun q hq => by subst hq; rfl) (by rw [hfT, h, if_neg (by decide), if_pos (by decide)]; refine hB _ _ ?_; simp only [Bool.and_eq_true, decide_eq_true_eq]; omega)
  · exact go 2 2 0 5 h (by decide) (fun q hq => by subst hq; rfl) (by rw [hfT, h, if_neg (by decide), if_neg (by decide), if_pos rfl]; refine hB _ _ ?_; simp only [Bool.and_eq_true, decide_eq_true_eq]; omega)
  · exact go 0 4 1 6 h (by decide) (fun q hq => by subst hq; rfl) (by rw [hfT, h, if_neg (by decide), if_neg (by decide), if_neg (by decide), if_pos rfl]; refine hB _ _ ?_; simp only [Bool.and_eq_true, decide_eq_true_eq]; omega)
  · exact go 0 4 0 7 h (by decide) (fun q hq => by subst hq; rfl) (by rw [hfT, h, if_neg (by decide), if_neg (by decide), if_neg (by decide), if_neg (by decide)]; refine hB _ _ ?_; simp only [Bool.and_eq_true, decide_eq_true_eq]; omega)
theorem idxE_spec (w0 : World) (sh : Shared) (v : Value) (l : List PE) (p : PE → Bool) (f : FuncId) (caps : Array Value) (hl : RdEl w0 sh v l) (hb : l.length ≤ 1099511627776)
    (hf : ∀ x ∈ l, ∀ va vo, RdEl w0 sh va x.args → RdEl w0 sh vo x.or → FnE PP w0 sh f (.agg (List.toArray (peC x.kind x.num x.name x.meth va vo)) :: caps.toList) [] (.bool (p x)) []) :
    FnE PP w0 sh 69 [v, .func (.func f) #[] caps] [] (.int .i64 (idxP p l 0)) [] := by
  obtain ⟨a, cap, hv, _⟩ := hl.len
  subst hv
  refine fn_of_run en69 fn69 rfl rfl rfl ?_
  repeat' (first | refine zck ?_ | refine zcp (by kernel_rfl) ?_ | refine zcl ?_ | (refine zap rfl ?_; first | refine zan rfl ?_ | refine zan rfl ?_ | refine zce rfl ?_) | refine zch ?_)
  refine run_loop (S := Nat) (fun j => [(0, .slice a l.length cap), (1, .func (.func f) #[] caps), (7, .int .i64 l.length), (8, .int .i64 j)])
    (fun j Γ => Γ = [] ∧ j ≤ l.length ∧ idxP p (l.drop j) j = idxP p l 0) (fun j => l.length - j) 0 ⟨rfl, rfl, rfl, rfl, trivial⟩ ⟨rfl, by omega, rfl⟩ ?_
  rintro j Γ junk ⟨rfl, g1, g2⟩
  by_cases hj : j < l.length
  · obtain ⟨x, hx⟩ : ∃ x, l[j]? = some x := ⟨_, List.getElem?_eq_getElem hj⟩
    obtain ⟨b, off, cc, T, fr, cs, rfl, e2, e3, e4, _⟩ := hl.at hx
    obtain ⟨va, vo, rfl, r1, r2⟩ := e4.cs
    have hd : l.drop j = x :: l.drop (j + 1) := by
      rw [List.drop_eq_getElem_cons hj]
      congr 1
      exact (List.getElem?_eq_some_iff.1 hx).2
    have hc := hf x (List.mem_of_getElem? hx) va vo r1 r2
    rw [hd, idxP] at g2
    by_cases hs : p x = true
    · rw [if_pos hs] at g2
      rw [hs] at hc
      repeat' (first | refine zck ?_ | refine zcp (by kernel_rfl) ?_ | refine zcm ?_ | refine zcl ?_ | (refine zap rfl ?_; first | refine zad rfl e2 (e3 _ (by omega)) ?_ | refine zan rfl ?_ | refine zan rfl ?_ | refine zah [] hc rfl rfl rfl (fun _ h => h) rfl ?_ | refine zbg rfl rfl (by omega) ?_ | refine zas rfl rfl (by omega) ?_) | refine zch ?_ | refine zci rfl ?_)
      exact qret1 (fun _ _ h => h) rfl ⟨by rw [← g2]; rfl, rfl⟩
    · rw [if_neg hs] at g2
      rw [Bool.eq_false_iff.2 hs] at hc
      repeat' (first | refine zck ?_ | refine zcp (by kernel_rfl) ?_ | refine zcm ?_ | refine zcl ?_ | refine zcn ?_ | (refine zap rfl ?_; first | refine zad rfl e2 (e3 _ (by omega)) ?_ | refine zan rfl ?_ | refine zan rfl ?_ | refine zah [] hc rfl rfl rfl (fun _ h => h) rfl ?_ | refine zbg rfl rfl (by omega) ?_ | refine zau rfl rfl (by omega) ?_ | refine zas rfl rfl (by omega) ?_) | refine zch ?_ | refine zci rfl ?_ | refine zcj rfl ?_)
      exact cut_end ⟨rfl, j + 1, ⟨rfl, rfl, rfl, int_eq (by omega), trivial⟩, ⟨rfl, by omega, by rw [← g2]; rfl⟩, by omega⟩
  · repeat' (first | refine zck ?_ | refine zcp (by kernel_rfl) ?_ | (refine zap rfl ?_; first | refine zbh rfl rfl (by omega) ?_) | refine zch ?_ | refine zcj rfl ?_)
    refine cut_exit rfl rfl ?_
    repeat' (first | refine zck ?_ | refine zcp (by kernel_rfl) ?_ | (refine zap rfl ?_; first | refine zan rfl ?_) | refine zch ?_)
    rw [List.drop_of_length_le (by omega)] at g2
    exact ret_tmp1 rfl ⟨by rw [← g2]; rfl, rfl⟩
theorem conE_spec (w0 : World) (sh : Shared) (v : Value) (l : List PE) (p : PE → Bool) (f : FuncId) (caps : Array Value) (hl : RdEl w0 sh v l) (hb : l.length ≤ 1099511627776)
    (hf : ∀ x ∈ l, ∀ va vo, RdEl w0 sh va x.args → RdEl w0 sh vo x.or → FnE PP w0 sh f (.agg (List.toArray (peC x.kind x.num x.name x.meth va vo)) :: caps.toList) [] (.bool (p x)) []) :
    FnE PP w0 sh 52 [v, .func (.func f) #[] caps] [] (.bool (l.any p)) [] := by
  refine fn_of_run en52 fn52 rfl rfl rfl ?_
  repeat' (first | refine zck ?_ | refine zcp (by kernel_rfl) ?_ | (refine zap rfl ?_; first | refine zan rfl ?_ | refine zan rfl ?_ | refine zah [] (idxE_spec w0 sh v l p f caps hl hb hf) rfl rfl rfl (fun _ h => h) rfl ?_ | refine zbt rfl rfl ?_) | refine zch ?_)
  exact ret_tmp1 rfl ⟨bool_eq (idxP_any p l 0 (Int.le_refl _)), rfl⟩
def DSpec (w0 : World) (k : Nat) : Prop := ∀ (sh : Shared) (e : PE) (va vo : Value), e.size ≤ 1000000 → RdEl w0 sh va e.args → RdEl w0 sh vo e.or →
  FnE PP w0 sh 28 [.agg (List.toArray (peC e.kind e.num e.name e.meth va vo)), .int .i64 (k : Int)] [] (.bool (deepB k e)) []
theorem deep1_of (w0 : World) (k : Nat) (hk : k ≤ 1000) (hD : DSpec w0 k) (sh : Shared) (xc : Nat) (e : PE) (va vo : Value) (hs : e.size ≤ 1000000) (ha : RdEl w0 (bxI xc ((k + 1 : Nat) : Int) :: sh) va e.args) (ho : RdEl w0 (bxI xc ((k + 1 : Nat) : Int) :: sh) vo e.or) :
    FnE PP w0 (bxI xc ((k + 1 : Nat) : Int) :: sh) 51 [.agg (List.toArray (peC e.kind e.num e.name e.meth va vo)), .pointer (some ⟨xc, 0, none⟩)] [] (.bool (deepB k e)) [] := by
  have hd := hD _ e va vo hs ha ho
  have hkk : ((k + 1 : Nat) : Int) - 1 = (k : Int) := by omega
  refine fn_of_run en51 fn51 rfl rfl rfl ?_
  repeat (first | refine zck ?_ | refine zcl ?_ | refine zcm ?_ | refine zcn ?_)
  first | refine zcp (by kernel_rfl) ?_ | refine zcq PP_mixed (by kernel_rfl) (by kernel_rfl) ?_
  repeat' (refine zap rfl ?_; first | refine zan rfl ?_ | refine zaq (cs := [_, _, _, _, _, _]) rfl (fun nb => ?_))
  all_goals refine zch ?_
  all_goals repeat (first | refine zck ?_ | refine zcl ?_ | refine zcm ?_ | refine zcn ?_)
  refine run_share [0] rfl ?_
  repeat (first | refine zck ?_ | refine zcl ?_ | refine zcm ?_ | refine zcn ?_)
  first | refine zcp (by kernel_rfl) ?_ | refine zcq PP_mixed (by kernel_rfl) (by kernel_rfl) ?_
  repeat' (refine zap rfl ?_; first | (refine zav rfl rfl (by omega) ?_; rw [hkk]) | refine zan rfl ?_ | refine zaa 0 rfl rfl rfl ?_ | refine zaa 1 rfl rfl rfl ?_ | refine zah [] hd rfl rfl rfl (fun p hp => List.mem_cons_of_mem _ hp) rfl ?_)
  all_goals refine zch ?_
  all_goals repeat (first | refine zck ?_ | refine zcl ?_ | refine zcm ?_ | refine zcn ?_)
  exact ret_tmp1 rfl ⟨rfl, rfl⟩
set_option maxHeartbeats 2000000 in
theorem deep_spec (w0 : World) : ∀ k, k ≤ 1000 → DSpec w0 k
  | 0, _ => by
    intro sh e va vo _ ha ho
    refine fn_of_run en28 fn28 rfl rfl rfl ?_
    repeat (first | refine zck ?_ | refine zcl ?_ | refine zcm ?_ | refine zcn ?_)
    first | refine zcp (by kernel_rfl) ?_ | refine zcq PP_mixed (by kernel_rfl) (by kernel_rfl) ?_
    repeat' (refine zap rfl ?_; first | refine zan rfl ?_ | refine zaq (cs := [_]) rfl (fun nb => ?_) | refine zaq (cs := [_, _, _, _, _, _]) rfl (fun nb => ?_))
    all_goals refine zch ?_
    all_goals repeat (first | refine zck ?_ | refine zcl ?_ | refine zcm ?_ | refine zcn ?_)
    refine run_share [0] rfl ?_
    refine run_share [0] rfl ?_
    repeat (first | refine zck ?_ | refine zcl ?_ | refine zcm ?_ | refine zcn ?_)
    first | refine zcp (by kernel_rfl) ?_ | refine zcq PP_mixed (by kernel_rfl) (by kernel_rfl) ?_
    repeat' (refine zap rfl ?_; first | refine zan rfl ?_ | refine zan rfl ?_)
    all_goals refine zch ?_
    all_goals repeat (first | refine zck ?_ | refine zcl ?_ | refine zcm ?_ | refine zcn ?_)
    repeat (first | refine zck ?_ | refine zcl ?_ | refine zcm ?_ | refine zcn ?_)
    first | refine zcp (by kernel_rfl) ?_ | refine zcq PP_mixed (by kernel_rfl) (by kernel_rfl) ?_
    repeat' (refine zap rfl ?_; first | refine zak rfl ?_ | refine zan rfl ?_ | refine zan rfl ?_ | refine zaa 0 rfl rfl rfl ?_ | refine zbc rfl rfl (by omega) ?_ | refine zbu rfl ?_)
    all_goals refine zch ?_
    all_goals repeat (first | refine zck ?_ | refine zcl ?_ | refine zcm ?_ | refine zcn ?_)
    exact ret_tmp1 rfl ⟨rfl, rfl⟩
  | k + 1, hk => by
    intro sh e va vo hs ha ho
    have ih := deep_spec w0 k (by omega)
    have hsz := e.size_eq
    have la := PE.sizeL_len e.args
    have lo := PE.sizeL_len e.or
    refine fn_of_run en28 fn28 rfl rfl rfl ?_
    repeat (first | refine zck ?_ | refine zcl ?_ | refine zcm ?_ | refine zcn ?_)
    first | refine zcp (by kernel_rfl) ?_ | refine zcq PP_mixed (by kernel_rfl) (by kernel_rfl) ?_
    repeat' (refine zap rfl ?_; first | refine zaq (cs := [_, _, _, _, _, _]) rfl (fun te => ?_) | refine zaq (cs := [_]) rfl (fun tm => ?_) | refine zan rfl ?_)
    all_goals refine zch ?_
    all_goals repeat (first | refine zck ?_ | refine zcl ?_ | refine zcm ?_ | refine zcn ?_)
    refine run_share [0] rfl ?_
    refine run_share [0] rfl ?_
    have cA := conE_spec w0 (bxI tm ((k + 1 : Nat) : Int) :: sh) va e.args (deepB k) 51 #[.pointer (some ⟨tm, 0, none⟩)] (ha.mono fun p hp => List.mem_cons_of_mem _ hp) (by omega)
      (fun x hx va vo r1 r2 => deep1_of w0 k (by omega) ih sh tm x va vo (by have := PE.size_args hx; omega) r1 r2)
    have cO := conE_spec w0 (bxI tm ((k + 1 : Nat) : Int) :: sh) vo e.or (deepB k) 51 #[.pointer (some ⟨tm, 0, none⟩)] (ho.mono fun p hp => List.mem_cons_of_mem _ hp) (by omega)
      (fun x hx va vo r1 r2 => deep1_of w0 k (by omega) ih sh tm x va vo (by have := PE.size_or hx; omega) r1 r2)
    have hsub : ∀ p ∈ bxI tm ((k + 1 : Nat) : Int) :: sh, p ∈ bxI tm ((k + 1 : Nat) : Int) :: (te, Obj.cells (List.toArray (peC e.kind e.num e.name e.meth va vo)) 41 (0, 0)) :: sh := fun p hp => by
      rcases List.mem_cons.1 hp with hp | hp
      · rw [hp]; exact .head _
      · exact .tail _ (.tail _ hp)
    rw [deepB]
    cases hA : e.args.any (deepB k) with
    | true =>
      rw [hA] at cA
      repeat (first | refine zck ?_ | refine zcl ?_ | refine zcm ?_ | refine zcn ?_)
      first | refine zcp (by kernel_rfl) ?_ | refine zcq PP_mixed (by kernel_rfl) (by kernel_rfl) ?_
      repeat' (refine zap rfl ?_; first | refine zan rfl ?_ | refine zan rfl ?_)
      all_goals refine zch ?_
      all_goals repeat (first | refine zck ?_ | refine zcl ?_ | refine zcm ?_ | refine zcn ?_)
      repeat (first | refine zck ?_ | refine zcl ?_ | refine zcm ?_ | refine zcn ?_)
      first | refine zcp (by kernel_rfl) ?_ | refine zcq PP_mixed (by kernel_rfl) (by kernel_rfl) ?_
      repeat' (refine zap rfl ?_; first | refine zaj rfl ?_ | refine zak rfl ?_ | refine zan rfl ?_ | refine zan rfl ?_ | refine zaa 0 rfl rfl rfl ?_ | refine zaa 1 rfl rfl rfl ?_ | refine zah [] cA rfl rfl rfl hsub rfl ?_ | refine zao rfl ?_ | refine zbd rfl rfl (by omega) ?_ | refine zbu rfl ?_ | refine zbv rfl ?_)
      all_goals refine zch ?_
      all_goals repeat (first | refine zck ?_ | refine zcl ?_ | refine zcm ?_ | refine zcn ?_)
      exact ret_tmp1 rfl ⟨rfl, rfl⟩
    | false =>
      rw [hA] at cA
      repeat (first | refine zck ?_ | refine zcl ?_ | refine zcm ?_ | refine zcn ?_)
      first | refine zcp (by kernel_rfl) ?_ | refine zcq PP_mixed (by kernel_rfl) (by kernel_rfl) ?_
      repeat' (refine zap rfl ?_; first | refine zan rfl ?_ | refine zan rfl ?_)
      all_goals refine zch ?_
      all_goals repeat (first | refine zck ?_ | refine zcl ?_ | refine zcm ?_ | refine zcn ?_)
      repeat (first | refine zck ?_ | refine zcl ?_ | refine zcm ?_ | refine zcn ?_)
      first | refine zcp (by kernel_rfl) ?_ | refine zcq PP_mixed (by kernel_rfl) (by kernel_rfl) ?_
      repeat' (refine zap rfl ?_; first | refine zaj rfl ?_ | refine zan rfl ?_ | refine zan rfl ?_ | refine zaa 0 rfl rfl rfl ?_ | refine zaa 1 rfl rfl rfl ?_ | refine zah [] cA rfl rfl rfl hsub rfl ?_ | refine zah [] cO rfl rfl rfl hsub rfl ?_ | refine zao rfl ?_ | refine zbd rfl rfl (by omega) ?_ | refine zbv rfl ?_)
      all_goals refine zch ?_
      all_goals repeat (first | refine zck ?_ | refine zcl ?_ | refine zcm ?_ | refine zcn ?_)
      exact ret_tmp1 rfl ⟨rfl, rfl⟩
end Go.Proofs.YtijbnjaackhlcaaGreatDoor

namespace Sim
open Go Go.Vc
theorem ctG_look (k : ByteArray) : lookG ctG k = (ctKind k).map fun i => ctMeths (i : Nat) := by
  show lookG ctG k = Option.map _ (ixS ctNames k 0)
  have e : ctG = [(ctNames.getD 0 (bs []), ctRows.getD 0 []), (ctNames.getD 1 (bs []), ctRows.getD 1 []), (ctNames.getD 2 (bs []), ctRows.getD 2 []), (ctNames.getD 3 (bs []), ctRows.getD 3 []), (ctNames.getD 4 (bs []), ctRows.getD 4 []), (ctNames.getD 5 (bs []), ctRows.getD 5 []), (ctNames.getD 6 (bs []), ctRows.getD 6 []), (ctNames.getD 7 (bs []), ctRows.getD 7 []), (ctNames.getD 8 (bs []), ctRows.getD 8 []), (ctNames.getD 9 (bs []), ctRows.getD 9 [])] := rfl
  have e2 : ctNames = [ctNames.getD 0 (bs []), ctNames.getD 1 (bs []), ctNames.getD 2 (bs []), ctNames.getD 3 (bs []), ctNames.getD 4 (bs []), ctNames.getD 5 (bs []), ctNames.getD 6 (bs []), ctNames.getD 7 (bs []), ctNames.getD 8 (bs []), ctNames.getD 9 (bs [])] := rfl
  rw [e]
  conv => rhs; rw [e2]
  generalize ctNames.getD 0 (bs []) = n0
  generalize ctNames.getD 1 (bs []) = n1
  generalize ctNames.getD 2 (bs []) = n2
  generalize ctNames.getD 3 (bs []) = n3
  generalize ctNames.getD 4 (bs []) = n4
  generalize ctNames.getD 5 (bs []) = n5
  generalize ctNames.getD 6 (bs []) = n6
  generalize ctNames.getD 7 (bs []) = n7
  generalize ctNames.getD 8 (bs []) = n8
  generalize ctNames.getD 9 (bs []) = n9
  simp only [lookG, ixS]
  repeat (split; rfl)
  rfl
abbrev MA := ByteArray × ByteArray × Int
def scanA (k m : ByteArray) : List MA → Option Int
  | [] => none
  | x :: l => if x.1 = k ∧ x.2.1 = m then some x.2.2 else scanA k m l
def grpA (nm : ByteArray) (ms : List (ByteArray × Int × Bool)) : List MA := ms.map fun r => (nm, r.1, r.2.1)
def allA : List (ByteArray × List (ByteArray × Int × Bool)) → List MA
  | [] => []
  | g :: gs => grpA g.1 g.2 ++ allA gs
theorem scanA_skip {k m nm : ByteArray} (h : nm ≠ k) : ∀ (ms : List (ByteArray × Int × Bool)) (l : List MA), scanA k m (grpA nm ms ++ l) = scanA k m l
  | [], l => rfl
  | r :: ms, l => by
    show scanA k m ((nm, r.1, r.2.1) :: (grpA nm ms ++ l)) = _
    rw [scanA, if_neg (fun q => h q.1), scanA_skip h ms l]
theorem scanA_here {k m : ByteArray} : ∀ (ms : List (ByteArray × Int × Bool)) (l : List MA), scanA k m (grpA k ms ++ l) = match ms.find? (fun r => decide (r.1 = m)) with | some r => some r.2.1 | none => scanA k m l
  | [], l => rfl
  | r :: ms, l => by
    show scanA k m ((k, r.1, r.2.1) :: (grpA k ms ++ l)) = _
    rw [scanA]
    by_cases h : r.1 = m
    · rw [if_pos ⟨rfl, h⟩, List.find?_cons_of_pos (by simpa using h)]
    · rw [if_neg (fun q => h q.2), List.find?_cons_of_neg (by simpa using h), scanA_here ms l]
theorem allA_none {k m : ByteArray} : ∀ (gs : List (ByteArray × List (ByteArray × Int × Bool))), (∀ g ∈ gs, g.1 ≠ k) → scanA k m (allA gs) = none
  | [], _ => rfl
  | g :: gs, h => by rw [allA, scanA_skip (h g (.head _)), allA_none gs fun x hx => h x (.tail _ hx)]
theorem allA_scan {k m : ByteArray} : ∀ (gs : List (ByteArray × List (ByteArray × Int × Bool))), (gs.map (·.1)).Nodup → scanA k m (allA gs) = match lookG gs k with | none => none | some ms => (ms.find? (fun r => decide (r.1 = m))).map (·.2.1)
  | [], _ => rfl
  | g :: gs, hn => by
    rw [List.map_cons, List.nodup_cons] at hn
    rw [allA, lookG]
    by_cases h : g.1 = k
    · subst h
      rw [if_pos rfl, scanA_here]
      dsimp only
      cases g.2.find? (fun r => decide (r.1 = m)) with
      | some r => rfl
      | none =>
        dsimp only
        rw [allA_none gs fun x hx hq => hn.1 (by rw [← hq]; exact List.mem_map_of_mem hx)]
        rfl
    · rw [if_neg h, scanA_skip h, allA_scan gs hn.2]
def ctA : List MA := allA ctG
theorem ctA_ok (k m : ByteArray) : scanA k m ctA = match ctKind k with | none => none | some i => (ctFind (i : Nat) m).map (·.2.1) := by
  unfold ctA
  rw [allA_scan ctG ctG_nodup, ctG_look]
  cases ctKind k with
  | none => rfl
  | some i => rfl
theorem ctNames_in (k : ByteArray) : inS ctNames k = (ctKind k).isSome := by
  unfold ctKind
  have h : ∀ (l : List ByteArray) (n : Nat), inS l k = (ixS l k n).isSome := by
    intro l
    induction l with
    | nil => intro n; rfl
    | cons x l ih =>
      intro n
      unfold inS
      rw [List.any_cons, ixS]
      by_cases e : x = k
      · rw [if_pos e, decide_eq_true e]; rfl
      · rw [if_neg e, decide_eq_false e, Bool.false_or]; exact ih (n + 1)
  exact h _ _
def lastK : List (ByteArray × ByteArray) → ByteArray → Option ByteArray → Option ByteArray
  | [], _, o => o
  | d :: l, s, o => lastK l s (if d.1 = s then some d.2 else o)
def methR (st : List (ByteArray × ByteArray)) (name meth : ByteArray) (n : Int) : Int :=
  match lastK st name none with
  | none => 16
  | some nm => if inS ctNames nm = false then 2 else match scanA nm meth ctA with
    | none => 14
    | some m => if m ≠ n then 1 else 0
def envR (st : List (ByteArray × ByteArray)) (vs : TV) : TEnv := ⟨typT vs, fun s => lastK st s none⟩
theorem methR_call {st : List (ByteArray × ByteArray)} {vs : TV} {e : PE} {ts : List Int} : callT (envR st vs) e ts = if methR st e.name e.meth ts.length ≠ 0 then methR st e.name e.meth ts.length else if anyNe ts 1 = true then 17 else 0 := by
  unfold callT methR
  rw [show (envR st vs).stores e.name = lastK st e.name none from rfl]
  cases lastK st e.name none with
  | none => rfl
  | some nm =>
    have hin := ctNames_in nm
    have hsc := ctA_ok nm e.meth
    cases hk : ctKind nm with
    | none =>
      rw [hk] at hin
      simp [hk, hin]
    | some i =>
      rw [hk] at hin hsc
      dsimp only at hsc
      cases hf : ctFind (i : Nat) e.meth with
      | none =>
        rw [hf] at hsc
        simp [hk, hin, hsc, hf]
      | some m =>
        rw [hf] at hsc
        by_cases h : m.2.1 = ts.length
        · simp [hk, hin, hsc, hf, h]
        · simp [hk, hin, hsc, hf, h]
def sgnL : List ByteArray := [bs [43], bs [45], bs [42], bs [47], bs [37], bs [61, 61], bs [33, 61], bs [60], bs [60, 61], bs [62], bs [62, 61], bs [97, 110, 100], bs [111, 114]]
theorem lastT_drop {l : TV} {j : Nat} {x : ByteArray × Int} {s : ByteArray} {t : Int} (h : l[j]? = some x) : lastT (l.drop j) s t = lastT (l.drop (j + 1)) s (if x.1 = s then x.2 else t) := by
  have hj := (List.getElem?_eq_some_iff.1 h).1
  rw [List.drop_eq_getElem_cons hj, (List.getElem?_eq_some_iff.1 h).2, lastT]
theorem lastK_drop {l : List (ByteArray × ByteArray)} {j : Nat} {x : ByteArray × ByteArray} {s : ByteArray} {t : Option ByteArray} (h : l[j]? = some x) : lastK (l.drop j) s t = lastK (l.drop (j + 1)) s (if x.1 = s then some x.2 else t) := by
  have hj := (List.getElem?_eq_some_iff.1 h).1
  rw [List.drop_eq_getElem_cons hj, (List.getElem?_eq_some_iff.1 h).2, lastK]
theorem scanA_drop {k m : ByteArray} {l : List MA} {j : Nat} {x : MA} (h : l[j]? = some x) : scanA k m (l.drop j) = if x.1 = k ∧ x.2.1 = m then some x.2.2 else scanA k m (l.drop (j + 1)) := by
  have hj := (List.getElem?_eq_some_iff.1 h).1
  rw [List.drop_eq_getElem_cons hj, (List.getElem?_eq_some_iff.1 h).2, scanA]
theorem anyNe_drop {l : List Int} {j : Nat} {x t : Int} (h : l[j]? = some x) : anyNe (l.drop j) t = (decide (x ≠ t) || anyNe (l.drop (j + 1)) t) := by
  have hj := (List.getElem?_eq_some_iff.1 h).1
  rw [List.drop_eq_getElem_cons hj, (List.getElem?_eq_some_iff.1 h).2]; rfl
theorem dpL_drop {f : PE → Nat} {l : List PE} {j d : Nat} {x : PE} (h : l[j]? = some x) : dpL f (l.drop j) d = dpL f (l.drop (j + 1)) (max d (f x)) := by
  have hj := (List.getElem?_eq_some_iff.1 h).1
  rw [List.drop_eq_getElem_cons hj, (List.getElem?_eq_some_iff.1 h).2, dpL]
end Sim
namespace Go.Vc
open Sim
abbrev encT (x : ByteArray × Int) : List Value := [.string x.1, .int .i64 x.2]
abbrev encMA (x : MA) : List Value := [.string x.1, .string x.2.1, .int .i64 x.2.2]
end Go.Vc
namespace Go.Proofs.YtijbnjaackhlcaaGreatDoor
open Go.Vc Sim
theorem typeR_spec (w0 : World) (sh : Shared) (v : Value) (l : TV) (s : ByteArray) (h : RdSl w0 sh encT 2 v l) (hb : l.length ≤ 8796093022208) :
    FnE PP w0 sh 56 [v, .string s] [] (.int .i64 (typT l s)) [] := by
  obtain ⟨a, c, hv, _⟩ := id h
  subst hv
  refine fn_of_run en56 fn56 rfl rfl rfl ?_
  repeat (first | refine zck ?_ | refine zcl ?_ | refine zcm ?_ | refine zcn ?_)
  first | refine zcp (by kernel_rfl) ?_ | refine zcq PP_mixed (by kernel_rfl) (by kernel_rfl) ?_
  repeat' (refine zap rfl ?_; first | refine zan rfl ?_)
  all_goals refine zch ?_
  all_goals repeat (first | refine zck ?_ | refine zcl ?_ | refine zcm ?_ | refine zcn ?_)
  repeat (first | refine zck ?_ | refine zcl ?_ | refine zcm ?_ | refine zcn ?_)
  first | refine zcp (by kernel_rfl) ?_ | refine zcq PP_mixed (by kernel_rfl) (by kernel_rfl) ?_
  repeat' (refine zap rfl ?_; first | refine zan rfl ?_)
  all_goals refine zch ?_
  all_goals repeat (first | refine zck ?_ | refine zcl ?_ | refine zcm ?_ | refine zcn ?_)
  repeat (first | refine zck ?_ | refine zcl ?_ | refine zcm ?_ | refine zcn ?_)
  first | refine zcp (by kernel_rfl) ?_ | refine zcq PP_mixed (by kernel_rfl) (by kernel_rfl) ?_
  repeat' (refine zap rfl ?_; first | refine zan rfl ?_)
  all_goals refine zch ?_
  all_goals repeat (first | refine zck ?_ | refine zcl ?_ | refine zcm ?_ | refine zcn ?_)
  refine run_loop (S := Nat × Int) (fun q => [(0, .slice a l.length c), (1, .string s), (5, .int .i64 q.2), (6, .int .i64 (q.1 : Int))]) (fun q Γ => Γ = [] ∧ q.1 ≤ l.length ∧ lastT (l.drop q.1) s q.2 = lastT l s 0) (fun q => l.length - q.1) (0, 0) ⟨rfl, rfl, rfl, rfl, trivial⟩ ⟨rfl, Nat.zero_le _, rfl⟩ ?_
  rintro ⟨j, t⟩ Γ junk ⟨rfl, g1, g2⟩
  dsimp only at g1 g2 ⊢
  by_cases hj : j < l.length
  · obtain ⟨x, hx⟩ : ∃ x, l[j]? = some x := ⟨_, List.getElem?_eq_getElem hj⟩
    obtain ⟨b, off, cc, T, fr, rfl, e2, _, e4⟩ := h.cells hx
    have r0 : ∀ o, o = off + j * 2 + 0 → rd false 1 cc.toList o = some (.string x.1) := fun o ho => e4 0 _ rfl o ho
    have r1 : ∀ o, o = off + j * 2 + 1 → rd false 1 cc.toList o = some (.int .i64 x.2) := fun o ho => e4 1 _ rfl o ho
    rw [lastT_drop hx] at g2
    by_cases he : x.1 = s
    · rw [if_pos he] at g2
      repeat' (first | refine zck ?_ | refine zcp (by kernel_rfl) ?_ | refine zcm ?_ | refine zcl ?_ | refine zcn ?_ | (refine zap rfl ?_; first | refine zad rfl e2 (r0 _ (by omega)) ?_ | refine zad rfl e2 (r1 _ (by omega)) ?_ | refine reg_eqST rfl rfl he ?_ | refine zan rfl ?_ | refine zan rfl ?_ | refine zce rfl ?_ | refine zao rfl ?_ | refine zbg rfl rfl (by omega) ?_ | refine zau rfl rfl (by omega) ?_ | refine zas rfl rfl (by omega) ?_) | refine zch ?_ | refine zci rfl ?_)
      exact cut_end ⟨rfl, (j + 1, x.2), ⟨rfl, rfl, rfl, int_eq (by dsimp only; omega), trivial⟩, ⟨rfl, by dsimp only; omega, g2⟩, by dsimp only; omega⟩
    · rw [if_neg he] at g2
      repeat' (first | refine zck ?_ | refine zcp (by kernel_rfl) ?_ | refine zcm ?_ | refine zcl ?_ | refine zcn ?_ | (refine zap rfl ?_; first | refine zad rfl e2 (r0 _ (by omega)) ?_ | refine reg_eqSF rfl rfl he ?_ | refine zan rfl ?_ | refine zan rfl ?_ | refine zce rfl ?_ | refine zao rfl ?_ | refine zbg rfl rfl (by omega) ?_ | refine zau rfl rfl (by omega) ?_ | refine zas rfl rfl (by omega) ?_) | refine zch ?_ | refine zci rfl ?_ | refine zcj rfl ?_)
      exact cut_end ⟨rfl, (j + 1, t), ⟨rfl, rfl, rfl, int_eq (by dsimp only; omega), trivial⟩, ⟨rfl, by dsimp only; omega, g2⟩, by dsimp only; omega⟩
  · rw [List.drop_of_length_le (by omega), lastT] at g2
    repeat (first | refine zck ?_ | refine zcl ?_ | refine zcm ?_ | refine zcn ?_)
    first | refine zcp (by kernel_rfl) ?_ | refine zcq PP_mixed (by kernel_rfl) (by kernel_rfl) ?_
    repeat' (refine zap rfl ?_; first | refine zan rfl ?_ | refine zce rfl ?_ | refine zbh rfl rfl (by omega) ?_)
    all_goals refine zch ?_
    all_goals repeat (first | refine zck ?_ | refine zcl ?_ | refine zcm ?_ | refine zcn ?_)
    refine zcj rfl ?_
    refine cut_exit rfl rfl ?_
    repeat' (first | refine zck ?_ | refine zcp (by kernel_rfl) ?_ | (refine zap rfl ?_; first | refine zan rfl ?_ | refine zan rfl ?_) | refine zch ?_)
    exact ret_tmp1 rfl ⟨int_eq g2, rfl⟩
theorem allR_spec (w0 : World) (sh : Shared) (v : Value) (ts : List Int) (t mk : Int) (h : RdSl w0 sh encI 1 v ts) (hb : ts.length ≤ 1099511627776) :
    FnE PP w0 sh 57 [v, .int .i64 t, .int .i64 mk] [] (resT (if anyNe ts t = true then (0, 17) else (mk, 0))) [] := by
  obtain ⟨a, c, hv, _⟩ := id h
  subst hv
  refine fn_of_run en57 fn57 rfl rfl rfl ?_
  repeat (first | refine zck ?_ | refine zcl ?_ | refine zcm ?_ | refine zcn ?_)
  first | refine zcp (by kernel_rfl) ?_ | refine zcq PP_mixed (by kernel_rfl) (by kernel_rfl) ?_
  repeat' (refine zap rfl ?_; first | refine zan rfl ?_)
  all_goals refine zch ?_
  all_goals repeat (first | refine zck ?_ | refine zcl ?_ | refine zcm ?_ | refine zcn ?_)
  repeat (first | refine zck ?_ | refine zcl ?_ | refine zcm ?_ | refine zcn ?_)
  first | refine zcp (by kernel_rfl) ?_ | refine zcq PP_mixed (by kernel_rfl) (by kernel_rfl) ?_
  repeat' (refine zap rfl ?_; first | refine zan rfl ?_)
  all_goals refine zch ?_
  all_goals repeat (first | refine zck ?_ | refine zcl ?_ | refine zcm ?_ | refine zcn ?_)
  refine run_loop (S := Nat) (fun q => [(0, .slice a ts.length c), (1, .int .i64 t), (2, .int .i64 mk), (8, .int .i64 (q : Int))]) (fun q Γ => Γ = [] ∧ q ≤ ts.length ∧ anyNe (ts.drop q) t = anyNe ts t) (fun q => ts.length - q) 0 ⟨rfl, rfl, rfl, rfl, trivial⟩ ⟨rfl, Nat.zero_le _, rfl⟩ ?_
  rintro j Γ junk ⟨rfl, g1, g2⟩
  by_cases hj : j < ts.length
  · obtain ⟨x, hx⟩ : ∃ x, ts[j]? = some x := ⟨_, List.getElem?_eq_getElem hj⟩
    obtain ⟨b, off, cc, T, fr, rfl, e2, _, e4⟩ := h.cells hx
    rw [anyNe_drop hx] at g2
    by_cases he : x = t
    · rw [decide_eq_false (fun q => q he), Bool.false_or] at g2
      repeat' (first | refine zck ?_ | refine zcp (by kernel_rfl) ?_ | refine zcm ?_ | refine zcl ?_ | refine zcn ?_ | (refine zap rfl ?_; first | refine zad rfl e2 (e4 0 _ rfl _ (by omega)) ?_ | refine zan rfl ?_ | refine zan rfl ?_ | refine zce rfl ?_ | refine zbf rfl rfl (by omega) ?_ | refine zbg rfl rfl (by omega) ?_ | refine zau rfl rfl (by omega) ?_ | refine zas rfl rfl (by omega) ?_) | refine zch ?_ | refine zci rfl ?_ | refine zcj rfl ?_)
      exact cut_end ⟨rfl, j + 1, ⟨rfl, rfl, rfl, int_eq (by omega), trivial⟩, ⟨rfl, by omega, g2⟩, by omega⟩
    · rw [decide_eq_true he, Bool.true_or] at g2
      rw [← g2, if_pos rfl]
      repeat' (first | refine zck ?_ | refine zcp (by kernel_rfl) ?_ | refine zcm ?_ | refine zcl ?_ | (refine zap rfl ?_; first | refine zad rfl e2 (e4 0 _ rfl _ (by omega)) ?_ | refine zan rfl ?_ | refine zan rfl ?_ | refine zce rfl ?_ | refine zbe rfl rfl (by omega) ?_ | refine zbg rfl rfl (by omega) ?_ | refine zas rfl rfl (by omega) ?_) | refine zch ?_ | refine zci rfl ?_)
      exact qret2 (fun _ _ h => h) rfl ⟨rfl, rfl⟩
  · rw [List.drop_of_length_le (by omega), show anyNe ([] : List Int) t = false from rfl] at g2
    rw [← g2, if_neg (by decide)]
    repeat (first | refine zck ?_ | refine zcl ?_ | refine zcm ?_ | refine zcn ?_)
    first | refine zcp (by kernel_rfl) ?_ | refine zcq PP_mixed (by kernel_rfl) (by kernel_rfl) ?_
    repeat' (refine zap rfl ?_; first | refine zan rfl ?_ | refine zce rfl ?_ | refine zbh rfl rfl (by omega) ?_)
    all_goals refine zch ?_
    all_goals repeat (first | refine zck ?_ | refine zcl ?_ | refine zcm ?_ | refine zcn ?_)
    refine zcj rfl ?_
    refine cut_exit rfl rfl ?_
    repeat' (first | refine zck ?_ | refine zcp (by kernel_rfl) ?_ | (refine zap rfl ?_; first | refine zan rfl ?_ | refine zan rfl ?_) | refine zch ?_)
    exact ret_tmp2 rfl ⟨rfl, rfl⟩
end Go.Proofs.YtijbnjaackhlcaaGreatDoor

