import Derived.Test.YtijbnjaackhlcaaGreatDoorPart5
/- Lemmas and walks for the claims of this seat (own work): Yr1. -/
namespace Sim
theorem signT_cases {s : ByteArray} {a b : Int} (h : signT s = some (a, b)) :
    (inS [bs [43], bs [45], bs [42], bs [47], bs [37]] s = true ∧ a = 1 ∧ b = 1) ∨
    (inS [bs [43], bs [45], bs [42], bs [47], bs [37]] s = false ∧ inS [bs [60], bs [60, 61], bs [62], bs [62, 61]] s = true ∧ a = 1 ∧ b = 2) ∨
    (inS [bs [43], bs [45], bs [42], bs [47], bs [37]] s = false ∧ inS [bs [60], bs [60, 61], bs [62], bs [62, 61]] s = false ∧ (s = bs [97, 110, 100] ∨ (s ≠ bs [97, 110, 100] ∧ s = bs [111, 114])) ∧ a = 2 ∧ b = 2) ∨
    (inS [bs [43], bs [45], bs [42], bs [47], bs [37]] s = false ∧ inS [bs [60], bs [60, 61], bs [62], bs [62, 61]] s = false ∧ s ≠ bs [97, 110, 100] ∧ s ≠ bs [111, 114] ∧ a = 0 ∧ b = 2) := by
  unfold signT at h
  split at h
  · rename_i h1; cases h; exact .inl ⟨h1, rfl, rfl⟩
  rename_i h1
  have h1 := Bool.eq_false_iff.2 h1
  split at h
  · rename_i h2; cases h; exact .inr (.inl ⟨h1, h2, rfl, rfl⟩)
  rename_i h2
  have h2 := Bool.eq_false_iff.2 h2
  split at h
  · rename_i h3
    cases h
    refine .inr (.inr (.inr ⟨h1, h2, ?_, ?_, rfl, rfl⟩))
    all_goals
      intro e; subst e; exact absurd h3 (by decide +kernel)
  rename_i h3
  split at h
  · rename_i h4
    cases h
    refine .inr (.inr (.inl ⟨h1, h2, ?_, rfl, rfl⟩))
    by_cases e : s = bs [97, 110, 100]
    · exact .inl e
    · refine .inr ⟨e, ?_⟩
      unfold inS at h4
      simp only [List.any_cons, List.any_nil, Bool.or_false, Bool.or_eq_true, decide_eq_true_eq] at h4
      rcases h4 with h4 | h4
      · exact absurd h4.symm e
      · exact h4.symm
  · cases h
theorem sgnL_in (s : ByteArray) : inS sgnL s = (signT s).isSome := by
  unfold signT
  cases h1 : inS [bs [43], bs [45], bs [42], bs [47], bs [37]] s <;> cases h2 : inS [bs [60], bs [60, 61], bs [62], bs [62, 61]] s <;> cases h3 : inS [bs [61, 61], bs [33, 61]] s <;> cases h4 : inS [bs [97, 110, 100], bs [111, 114]] s
  all_goals
    have e : inS sgnL s = (inS [bs [43], bs [45], bs [42], bs [47], bs [37]] s || (inS [bs [61, 61], bs [33, 61]] s || (inS [bs [60], bs [60, 61], bs [62], bs [62, 61]] s || inS [bs [97, 110, 100], bs [111, 114]] s))) := by
      unfold inS sgnL
      simp only [List.any_cons, List.any_nil, Bool.or_false, Bool.or_assoc]
    rw [e, h1, h2, h3, h4]
    rfl
end Sim
namespace Go.Proofs.YtijbnjaackhlcaaGreatDoor
open Go.Vc Sim
theorem signsR_spec (w0 : World) : Vc.Fn PP w0 [] 77 [] [] (fun v Γ => ∃ nb, v = .slice (some ⟨nb, 0, none⟩) 13 13 ∧ Γ = [Rds fun bl => RdSl w0 bl encY 1 (.slice (some ⟨nb, 0, none⟩) 13 13) sgnL]) := by
  refine fn_of_run en77 fn77 rfl rfl rfl ?_
  repeat' (first | refine zck ?_ | refine zcp (by kernel_rfl) ?_ | (refine zap rfl ?_; first | refine reg_buildSlice rfl rfl rfl rfl rfl rfl (fun nb => ?_) | refine zan rfl ?_) | refine zch ?_)
  refine run_exch 0 (Rds fun bl => RdSl w0 bl encY 1 (.slice (some ⟨nb, 0, none⟩) 13 13) sgnL) rfl (fun g hg => Rds.mono (fun _ hb => RdSl.flat (encE := encY) (q := 1) (w0 := w0) (b := nb) (l := sgnL) (fun _ _ => rfl) hb) g (Rds.of_pt g hg)) rfl ?_
  exact ret_tmp1 rfl ⟨nb, rfl, rfl⟩
theorem in_own (w0 : World) (a : Option Addr) (n c : Nat) (l : List ByteArray) (s : ByteArray) (_ : l.length = n) (hb : l.length ≤ 1099511627776) :
    Vc.Fn PP w0 [] 33 [.slice a n c, .string s] [Rds fun bl => RdSl w0 bl encY 1 (.slice a n c) l] (fun v Γ => v = .bool (inS l s) ∧ Γ = [Rds fun bl => RdSl w0 bl encY 1 (.slice a n c) l]) := by
  refine (Fn.lendR (φ := fun bl => RdSl w0 bl encY 1 (.slice a n c) l) en33 (fun sh1 bl h1 h2 h3 => in_spec w0 sh1 _ l s (h3.mono h2) hb)).mono ?_
  rintro v Γ ⟨_, ⟨rfl, rfl⟩, rfl⟩
  exact ⟨rfl, rfl⟩
theorem in_pt (w0 : World) (b : Nat) (l : List ByteArray) (s : ByteArray) (n : Nat) (cs : List Value) (hcs : cs = l.flatMap encY) (hn : l.length = n) (hb : l.length ≤ 1000) (B : Bool) (hB : inS l s = B) :
    Vc.Fn PP w0 [] 33 [.slice (some ⟨b, 0, none⟩) n n, .string s] [pt b (.cells (List.toArray cs) 9 (0, 0))] (fun v Γ => v = .bool B ∧ Γ = [pt b (.cells (List.toArray cs) 9 (0, 0))]) := by
  subst hcs; subst hn; subst hB
  refine ((in_spec w0 ((b, Obj.cells (List.toArray (l.flatMap encY)) 9 (0, 0)) :: []) _ l s (RdSl.flat (encE := encY) (q := 1) (w0 := w0) (b := b) (l := l) (fun _ _ => rfl) (.head _)) (by omega)).owned).mono ?_
  rintro v Γ ⟨_, ⟨rfl, rfl⟩, rfl⟩
  exact ⟨rfl, rfl⟩
set_option maxHeartbeats 4000000 in
theorem binaryR_spec (w0 : World) (sh : Shared) (v : Value) (s : ByteArray) (ts : List Int) (a b : Int) (hl : RdSl w0 sh encI 1 v ts) (hn : ts.length = 2) (hs : signT s = some (a, b)) :
    FnE PP w0 sh 58 [.string s, v] [] (resT (if (a = 0 ∧ ts.getD 0 0 = ts.getD 1 0) ∨ (a ≠ 0 ∧ anyNe ts a = false) then (b, 0) else (0, 17))) [] := by
  have k11 := allR_spec w0 sh v ts 1 1 hl (by omega)
  have k12 := allR_spec w0 sh v ts 1 2 hl (by omega)
  have k22 := allR_spec w0 sh v ts 2 2 hl (by omega)
  have key : ∀ t mk : Int, t ≠ 0 → a = t → b = mk → (if (a = 0 ∧ ts.getD 0 0 = ts.getD 1 0) ∨ (a ≠ 0 ∧ anyNe ts a = false) then (b, (0 : Int)) else (0, 17)) = (if anyNe ts t = true then (0, 17) else (mk, 0)) := fun t mk h0 h1 h2 => by
    subst h1; subst h2
    cases hq : anyNe ts a with
    | true => rw [if_neg (by rintro (⟨q, _⟩ | ⟨_, q⟩); exact h0 q; cases q)]; rfl
    | false => rw [if_pos (.inr ⟨h0, rfl⟩)]; rfl
  have hq0 : ∀ t, (if anyNe ts t = true then ((0 : Int), (17 : Int)) else (t, 0)) = (if anyNe ts t = true then ((0 : Int), (17 : Int)) else (t, 0)) := fun _ => rfl
  rcases signT_cases hs with ⟨h1, ha, hb⟩ | ⟨h1, h2, ha, hb⟩ | ⟨h1, h2, h3, ha, hb⟩ | ⟨h1, h2, h3, h4, ha, hb⟩
  · rw [key 1 1 (by decide) ha hb]
    refine fn_of_run en58 fn58 rfl rfl rfl ?_
    repeat (first | refine zck ?_ | refine zcl ?_ | refine zcm ?_ | refine zcn ?_)
    first | refine zcp (by kernel_rfl) ?_ | refine zcq PP_mixed (by kernel_rfl) (by kernel_rfl) ?_
    repeat' (refine zap rfl ?_; first | refine zan rfl ?_)
    all_goals refine zch ?_
    all_goals repeat (first | refine zck ?_ | refine zcl ?_ | refine zcm ?_ | refine zcn ?_)
    repeat (first | refine zck ?_ | refine zcl ?_ | refine zcm ?_ | refine zcn ?_)
    first | refine zcp (by kernel_rfl) ?_ | refine zcq PP_mixed (by kernel_rfl) (by kernel_rfl) ?_
    repeat' (refine zap rfl ?_; first | refine reg_buildSlice rfl rfl rfl rfl rfl rfl (fun nb => ?_) | refine zan rfl ?_ | (refine zai [0] (in_pt w0 _ [bs [43], bs [45], bs [42], bs [47], bs [37]] s 5 _ rfl rfl (by decide) _ h1) rfl rfl rfl sub_nil ?_; rintro v Γ ⟨rfl, rfl⟩))
    all_goals refine zch ?_
    all_goals repeat (first | refine zck ?_ | refine zcl ?_ | refine zcm ?_ | refine zcn ?_)
    refine zci rfl ?_
    repeat' (first | refine zck ?_ | refine zcp (by kernel_rfl) ?_ | (refine zap rfl ?_; first | refine zan rfl ?_ | refine zan rfl ?_ | refine zah [] k11 rfl rfl rfl (fun _ h => h) rfl ?_ | refine zan rfl ?_) | refine zch ?_)
    refine run_take [] rfl ?_
    cases anyNe ts 1 <;> exact ret_tmp2 rfl ⟨rfl, rfl⟩
  · rw [key 1 2 (by decide) ha hb]
    refine fn_of_run en58 fn58 rfl rfl rfl ?_
    repeat (first | refine zck ?_ | refine zcl ?_ | refine zcm ?_ | refine zcn ?_)
    first | refine zcp (by kernel_rfl) ?_ | refine zcq PP_mixed (by kernel_rfl) (by kernel_rfl) ?_
    repeat' (refine zap rfl ?_; first | refine zan rfl ?_)
    all_goals refine zch ?_
    all_goals repeat (first | refine zck ?_ | refine zcl ?_ | refine zcm ?_ | refine zcn ?_)
    repeat (first | refine zck ?_ | refine zcl ?_ | refine zcm ?_ | refine zcn ?_)
    first | refine zcp (by kernel_rfl) ?_ | refine zcq PP_mixed (by kernel_rfl) (by kernel_rfl) ?_
    repeat' (refine zap rfl ?_; first | refine reg_buildSlice rfl rfl rfl rfl rfl rfl (fun nb => ?_) | refine zan rfl ?_ | (refine zai [0] (in_pt w0 _ [bs [43], bs [45], bs [42], bs [47], bs [37]] s 5 _ rfl rfl (by decide) _ h1) rfl rfl rfl sub_nil ?_; rintro v Γ ⟨rfl, rfl⟩))
    all_goals refine zch ?_
    all_goals repeat (first | refine zck ?_ | refine zcl ?_ | refine zcm ?_ | refine zcn ?_)
    refine zcj rfl ?_
    repeat (first | refine zck ?_ | refine zcl ?_ | refine zcm ?_ | refine zcn ?_)
    first | refine zcp (by kernel_rfl) ?_ | refine zcq PP_mixed (by kernel_rfl) (by kernel_rfl) ?_
    repeat' (refine zap rfl ?_; first | refine reg_buildSlice rfl rfl rfl rfl rfl rfl (fun nb => ?_) | refine zan rfl ?_ | (refine zai [1] (in_pt w0 _ [bs [60], bs [60, 61], bs [62], bs [62, 61]] s 4 _ rfl rfl (by decide) _ h2) rfl rfl rfl sub_nil ?_; rintro v Γ ⟨rfl, rfl⟩))
    all_goals refine zch ?_
    all_goals repeat (first | refine zck ?_ | refine zcl ?_ | refine zcm ?_ | refine zcn ?_)
    refine zci rfl ?_
    repeat' (first | refine zck ?_ | refine zcp (by kernel_rfl) ?_ | (refine zap rfl ?_; first | refine zan rfl ?_ | refine zan rfl ?_ | refine zah [] k12 rfl rfl rfl (fun _ h => h) rfl ?_ | refine zan rfl ?_) | refine zch ?_)
    refine run_take [] rfl ?_
    cases anyNe ts 1 <;> exact ret_tmp2 rfl ⟨rfl, rfl⟩
  · rw [key 2 2 (by decide) ha hb]
    refine fn_of_run en58 fn58 rfl rfl rfl ?_
    repeat (first | refine zck ?_ | refine zcl ?_ | refine zcm ?_ | refine zcn ?_)
    first | refine zcp (by kernel_rfl) ?_ | refine zcq PP_mixed (by kernel_rfl) (by kernel_rfl) ?_
    repeat' (refine zap rfl ?_; first | refine zan rfl ?_)
    all_goals refine zch ?_
    all_goals repeat (first | refine zck ?_ | refine zcl ?_ | refine zcm ?_ | refine zcn ?_)
    repeat (first | refine zck ?_ | refine zcl ?_ | refine zcm ?_ | refine zcn ?_)
    first | refine zcp (by kernel_rfl) ?_ | refine zcq PP_mixed (by kernel_rfl) (by kernel_rfl) ?_
    repeat' (refine zap rfl ?_; first | refine reg_buildSlice rfl rfl rfl rfl rfl rfl (fun nb => ?_) | refine zan rfl ?_ | (refine zai [0] (in_pt w0 _ [bs [43], bs [45], bs [42], bs [47], bs [37]] s 5 _ rfl rfl (by decide) _ h1) rfl rfl rfl sub_nil ?_; rintro v Γ ⟨rfl, rfl⟩))
    all_goals refine zch ?_
    all_goals repeat (first | refine zck ?_ | refine zcl ?_ | refine zcm ?_ | refine zcn ?_)
    refine zcj rfl ?_
    repeat (first | refine zck ?_ | refine zcl ?_ | refine zcm ?_ | refine zcn ?_)
    first | refine zcp (by kernel_rfl) ?_ | refine zcq PP_mixed (by kernel_rfl) (by kernel_rfl) ?_
    repeat' (refine zap rfl ?_; first | refine reg_buildSlice rfl rfl rfl rfl rfl rfl (fun nb => ?_) | refine zan rfl ?_ | (refine zai [1] (in_pt w0 _ [bs [60], bs [60, 61], bs [62], bs [62, 61]] s 4 _ rfl rfl (by decide) _ h2) rfl rfl rfl sub_nil ?_; rintro v Γ ⟨rfl, rfl⟩))
    all_goals refine zch ?_
    all_goals repeat (first | refine zck ?_ | refine zcl ?_ | refine zcm ?_ | refine zcn ?_)
    refine zcj rfl ?_
    rcases h3 with h3 | ⟨h3, h4⟩
    · repeat (first | refine zck ?_ | refine zcl ?_ | refine zcm ?_ | refine zcn ?_)
      first | refine zcp (by kernel_rfl) ?_ | refine zcq PP_mixed (by kernel_rfl) (by kernel_rfl) ?_
      repeat' (refine zap rfl ?_; first | refine reg_eqST rfl rfl h3 ?_ | refine zak rfl ?_ | refine zan rfl ?_ | refine zbu rfl ?_)
      all_goals refine zch ?_
      all_goals repeat (first | refine zck ?_ | refine zcl ?_ | refine zcm ?_ | refine zcn ?_)
      refine zci rfl ?_
      repeat' (first | refine zck ?_ | refine zcp (by kernel_rfl) ?_ | (refine zap rfl ?_; first | refine zan rfl ?_ | refine zan rfl ?_ | refine zah [] k22 rfl rfl rfl (fun _ h => h) rfl ?_ | refine zan rfl ?_) | refine zch ?_)
      refine run_take [] rfl ?_
      cases anyNe ts 2 <;> exact ret_tmp2 rfl ⟨rfl, rfl⟩
    · repeat (first | refine zck ?_ | refine zcl ?_ | refine zcm ?_ | refine zcn ?_)
      first | refine zcp (by kernel_rfl) ?_ | refine zcq PP_mixed (by kernel_rfl) (by kernel_rfl) ?_
      repeat' (refine zap rfl ?_; first | refine reg_eqSF rfl rfl h3 ?_ | refine reg_eqST rfl rfl h4 ?_ | refine zaj rfl ?_ | refine zan rfl ?_ | refine zbv rfl ?_)
      all_goals refine zch ?_
      all_goals repeat (first | refine zck ?_ | refine zcl ?_ | refine zcm ?_ | refine zcn ?_)
      refine zci rfl ?_
      repeat' (first | refine zck ?_ | refine zcp (by kernel_rfl) ?_ | (refine zap rfl ?_; first | refine zan rfl ?_ | refine zan rfl ?_ | refine zah [] k22 rfl rfl rfl (fun _ h => h) rfl ?_ | refine zan rfl ?_) | refine zch ?_)
      refine run_take [] rfl ?_
      cases anyNe ts 2 <;> exact ret_tmp2 rfl ⟨rfl, rfl⟩
  · subst ha; subst hb
    match ts, hn with
    | [x, y], _ =>
    obtain ⟨av, cv, hv, _⟩ := id hl
    subst hv
    obtain ⟨b1, off, c, T, fr, hav, e2, _, e3⟩ := hl.cells (i := 0) (x := x) rfl
    obtain ⟨b2, off2, c2, T2, fr2, hav2, e4, _, e5⟩ := hl.cells (i := 1) (x := y) rfl
    subst hav
    cases hav2
    have r0 := e3 0 _ rfl
    have r1 := e5 0 _ rfl
    refine fn_of_run en58 fn58 rfl rfl rfl ?_
    repeat (first | refine zck ?_ | refine zcl ?_ | refine zcm ?_ | refine zcn ?_)
    first | refine zcp (by kernel_rfl) ?_ | refine zcq PP_mixed (by kernel_rfl) (by kernel_rfl) ?_
    repeat' (refine zap rfl ?_; first | refine zan rfl ?_)
    all_goals refine zch ?_
    all_goals repeat (first | refine zck ?_ | refine zcl ?_ | refine zcm ?_ | refine zcn ?_)
    repeat (first | refine zck ?_ | refine zcl ?_ | refine zcm ?_ | refine zcn ?_)
    first | refine zcp (by kernel_rfl) ?_ | refine zcq PP_mixed (by kernel_rfl) (by kernel_rfl) ?_
    repeat' (refine zap rfl ?_; first | refine reg_buildSlice rfl rfl rfl rfl rfl rfl (fun nb => ?_) | refine zan rfl ?_ | (refine zai [0] (in_pt w0 _ [bs [43], bs [45], bs [42], bs [47], bs [37]] s 5 _ rfl rfl (by decide) _ h1) rfl rfl rfl sub_nil ?_; rintro v Γ ⟨rfl, rfl⟩))
    all_goals refine zch ?_
    all_goals repeat (first | refine zck ?_ | refine zcl ?_ | refine zcm ?_ | refine zcn ?_)
    refine zcj rfl ?_
    repeat (first | refine zck ?_ | refine zcl ?_ | refine zcm ?_ | refine zcn ?_)
    first | refine zcp (by kernel_rfl) ?_ | refine zcq PP_mixed (by kernel_rfl) (by kernel_rfl) ?_
    repeat' (refine zap rfl ?_; first | refine reg_buildSlice rfl rfl rfl rfl rfl rfl (fun nb => ?_) | refine zan rfl ?_ | (refine zai [1] (in_pt w0 _ [bs [60], bs [60, 61], bs [62], bs [62, 61]] s 4 _ rfl rfl (by decide) _ h2) rfl rfl rfl sub_nil ?_; rintro v Γ ⟨rfl, rfl⟩))
    all_goals refine zch ?_
    all_goals repeat (first | refine zck ?_ | refine zcl ?_ | refine zcm ?_ | refine zcn ?_)
    refine zcj rfl ?_
    repeat (first | refine zck ?_ | refine zcl ?_ | refine zcm ?_ | refine zcn ?_)
    first | refine zcp (by kernel_rfl) ?_ | refine zcq PP_mixed (by kernel_rfl) (by kernel_rfl) ?_
    repeat' (refine zap rfl ?_; first | refine reg_eqSF rfl rfl h3 ?_ | refine reg_eqSF rfl rfl h4 ?_ | refine zaj rfl ?_ | refine zan rfl ?_ | refine zbv rfl ?_)
    all_goals refine zch ?_
    all_goals repeat (first | refine zck ?_ | refine zcl ?_ | refine zcm ?_ | refine zcn ?_)
    refine zcj rfl ?_
    by_cases hxy : x = y
    · rw [if_pos (.inl ⟨rfl, hxy⟩)]
      repeat (first | refine zck ?_ | refine zcl ?_ | refine zcm ?_ | refine zcn ?_)
      first | refine zcp (by kernel_rfl) ?_ | refine zcq PP_mixed (by kernel_rfl) (by kernel_rfl) ?_
      repeat' (refine zap rfl ?_; first | refine zad rfl e2 (r0 _ (by omega)) ?_ | refine zad rfl e4 (r1 _ (by omega)) ?_ | refine zan rfl ?_ | refine zbf rfl rfl (by omega) ?_ | refine zas rfl rfl (by omega) ?_)
      all_goals refine zch ?_
      all_goals repeat (first | refine zck ?_ | refine zcl ?_ | refine zcm ?_ | refine zcn ?_)
      refine zcj rfl ?_
      repeat' (first | refine zck ?_ | refine zcp (by kernel_rfl) ?_ | refine zcm ?_ | (refine zap rfl ?_; first | refine zan rfl ?_) | refine zch ?_)
      refine run_take [] rfl ?_
      exact ret_tmp2 rfl ⟨rfl, rfl⟩
    · rw [if_neg (by rintro (⟨_, q⟩ | ⟨q, _⟩); exact hxy q; exact q rfl)]
      repeat (first | refine zck ?_ | refine zcl ?_ | refine zcm ?_ | refine zcn ?_)
      first | refine zcp (by kernel_rfl) ?_ | refine zcq PP_mixed (by kernel_rfl) (by kernel_rfl) ?_
      repeat' (refine zap rfl ?_; first | refine zad rfl e2 (r0 _ (by omega)) ?_ | refine zad rfl e4 (r1 _ (by omega)) ?_ | refine zan rfl ?_ | refine zbe rfl rfl (by omega) ?_ | refine zas rfl rfl (by omega) ?_)
      all_goals refine zch ?_
      all_goals repeat (first | refine zck ?_ | refine zcl ?_ | refine zcm ?_ | refine zcn ?_)
      refine zci rfl ?_
      repeat' (first | refine zck ?_ | refine zcp (by kernel_rfl) ?_ | (refine zap rfl ?_; first | refine zan rfl ?_) | refine zch ?_)
      refine run_take [] rfl ?_
      exact ret_tmp2 rfl ⟨rfl, rfl⟩
set_option maxHeartbeats 4000000 in
theorem formR_spec (w0 : World) (sh : Shared) (e : PE) (va vo : Value) (ha : RdEl w0 sh va e.args) (ho : RdEl w0 sh vo e.or) :
    FnE PP w0 sh 55 [.agg (List.toArray (peC e.kind e.num e.name e.meth va vo))] [] (.bool (formT e)) [] := by
  obtain ⟨a1, c1, hva, _⟩ := ha.len
  obtain ⟨a2, c2, hvo, _⟩ := ho.len
  subst hva; subst hvo
  obtain ⟨B, hB⟩ : ∃ B, formT e = B := ⟨_, rfl⟩
  rw [hB]
  unfold formT at hB
  have hin := sgnL_in e.meth
  refine fn_of_run en55 fn55 rfl rfl rfl ?_
  repeat (first | refine zck ?_ | refine zcl ?_ | refine zcm ?_ | refine zcn ?_)
  first | refine zcp (by kernel_rfl) ?_ | refine zcq PP_mixed (by kernel_rfl) (by kernel_rfl) ?_
  repeat' (refine zap rfl ?_; first | refine zaq (cs := [_, _, _, _, _, _]) rfl (fun te => ?_) | refine zan rfl ?_)
  all_goals refine zch ?_
  all_goals repeat (first | refine zck ?_ | refine zcl ?_ | refine zcm ?_ | refine zcn ?_)
  refine run_share [0] rfl ?_
  repeat (first | refine zck ?_ | refine zcl ?_ | refine zcm ?_ | refine zcn ?_)
  first | refine zcp (by kernel_rfl) ?_ | refine zcq PP_mixed (by kernel_rfl) (by kernel_rfl) ?_
  repeat' (refine zap rfl ?_; first | refine zan rfl ?_ | refine zaa 0 rfl rfl rfl ?_ | refine zce rfl ?_ | refine zao rfl ?_)
  all_goals refine zch ?_
  all_goals repeat (first | refine zck ?_ | refine zcl ?_ | refine zcm ?_ | refine zcn ?_)
  by_cases h5 : e.kind = 5
  · repeat (first | refine zck ?_ | refine zcl ?_ | refine zcm ?_ | refine zcn ?_)
    first | refine zcp (by kernel_rfl) ?_ | refine zcq PP_mixed (by kernel_rfl) (by kernel_rfl) ?_
    repeat' (refine zap rfl ?_; first | refine zaa 0 rfl rfl rfl ?_ | refine zao rfl ?_ | refine zbj rfl rfl (by omega) ?_)
    all_goals refine zch ?_
    all_goals repeat (first | refine zck ?_ | refine zcl ?_ | refine zcm ?_ | refine zcn ?_)
    refine zcj rfl ?_
    repeat (first | refine zck ?_ | refine zcl ?_ | refine zcm ?_ | refine zcn ?_)
    first | refine zcp (by kernel_rfl) ?_ | refine zcq PP_mixed (by kernel_rfl) (by kernel_rfl) ?_
    repeat' (refine zap rfl ?_; first | refine zaa 0 rfl rfl rfl ?_ | refine zao rfl ?_ | refine zbj rfl rfl (by omega) ?_)
    all_goals refine zch ?_
    all_goals repeat (first | refine zck ?_ | refine zcl ?_ | refine zcm ?_ | refine zcn ?_)
    refine zcj rfl ?_
    repeat (first | refine zck ?_ | refine zcl ?_ | refine zcm ?_ | refine zcn ?_)
    first | refine zcp (by kernel_rfl) ?_ | refine zcq PP_mixed (by kernel_rfl) (by kernel_rfl) ?_
    repeat' (refine zap rfl ?_; first | refine zaa 0 rfl rfl rfl ?_ | refine zao rfl ?_ | refine zbc rfl rfl (by omega) ?_)
    all_goals refine zch ?_
    all_goals repeat (first | refine zck ?_ | refine zcl ?_ | refine zcm ?_ | refine zcn ?_)
    refine zci rfl ?_
    cases hsg : signT e.meth with
    | none =>
      rw [if_pos ⟨h5, hsg⟩] at hB
      subst hB
      rw [hsg] at hin
      by_cases l1 : e.args.length = 2
      · by_cases l2 : e.or.length = 0
        · repeat (first | refine zck ?_ | refine zcl ?_ | refine zcm ?_ | refine zcn ?_)
          first | refine zcp (by kernel_rfl) ?_ | refine zcq PP_mixed (by kernel_rfl) (by kernel_rfl) ?_
          repeat' (refine zap rfl ?_; first | refine zaj rfl ?_ | refine zan rfl ?_ | refine zan rfl ?_ | refine zaa 0 rfl rfl rfl ?_ | (refine zai [] (signsR_spec w0) rfl rfl rfl sub_nil ?_; rintro v Γ ⟨nb, rfl, rfl⟩) | (refine zai [0] ((in_own w0 _ 13 13 sgnL e.meth rfl (by decide)).mono (fun v Γ h => And.intro (h.1.trans (bool_eq hin)) h.2)) rfl rfl rfl sub_nil ?_; rintro v Γ ⟨rfl, rfl⟩) | refine zao rfl ?_ | refine zbc rfl rfl (by omega) ?_ | refine zbu rfl ?_)
          all_goals refine zch ?_
          all_goals repeat (first | refine zck ?_ | refine zcl ?_ | refine zcm ?_ | refine zcn ?_)
          refine run_take [] rfl ?_
          exact ret_tmp1 rfl ⟨rfl, rfl⟩
        · repeat (first | refine zck ?_ | refine zcl ?_ | refine zcm ?_ | refine zcn ?_)
          first | refine zcp (by kernel_rfl) ?_ | refine zcq PP_mixed (by kernel_rfl) (by kernel_rfl) ?_
          repeat' (refine zap rfl ?_; first | refine zaj rfl ?_ | refine zak rfl ?_ | refine zan rfl ?_ | refine zan rfl ?_ | refine zbc rfl rfl (by omega) ?_ | refine zbd rfl rfl (by omega) ?_ | refine zbu rfl ?_ | refine zbv rfl ?_)
          all_goals refine zch ?_
          all_goals repeat (first | refine zck ?_ | refine zcl ?_ | refine zcm ?_ | refine zcn ?_)
          exact ret_tmp1 rfl ⟨rfl, rfl⟩
      · repeat (first | refine zck ?_ | refine zcl ?_ | refine zcm ?_ | refine zcn ?_)
        first | refine zcp (by kernel_rfl) ?_ | refine zcq PP_mixed (by kernel_rfl) (by kernel_rfl) ?_
        repeat' (refine zap rfl ?_; first | refine zak rfl ?_ | refine zan rfl ?_ | refine zan rfl ?_ | refine zbd rfl rfl (by omega) ?_ | refine zbv rfl ?_)
        all_goals refine zch ?_
        all_goals repeat (first | refine zck ?_ | refine zcl ?_ | refine zcm ?_ | refine zcn ?_)
        exact ret_tmp1 rfl ⟨rfl, rfl⟩
    | some ab =>
      rw [if_neg (by rw [hsg]; rintro ⟨_, q⟩; cases q), if_neg (by omega), if_neg (by omega), if_pos h5] at hB
      rw [hsg] at hin
      by_cases l1 : e.args.length = 2
      · by_cases l2 : e.or.length = 0
        · rw [decide_eq_true l1, decide_eq_true l2] at hB
          subst hB
          repeat (first | refine zck ?_ | refine zcl ?_ | refine zcm ?_ | refine zcn ?_)
          first | refine zcp (by kernel_rfl) ?_ | refine zcq PP_mixed (by kernel_rfl) (by kernel_rfl) ?_
          repeat' (refine zap rfl ?_; first | refine zaj rfl ?_ | refine zan rfl ?_ | refine zan rfl ?_ | refine zaa 0 rfl rfl rfl ?_ | (refine zai [] (signsR_spec w0) rfl rfl rfl sub_nil ?_; rintro v Γ ⟨nb, rfl, rfl⟩) | (refine zai [0] ((in_own w0 _ 13 13 sgnL e.meth rfl (by decide)).mono (fun v Γ h => And.intro (h.1.trans (bool_eq hin)) h.2)) rfl rfl rfl sub_nil ?_; rintro v Γ ⟨rfl, rfl⟩) | refine zao rfl ?_ | refine zbc rfl rfl (by omega) ?_ | refine zbu rfl ?_)
          all_goals refine zch ?_
          all_goals repeat (first | refine zck ?_ | refine zcl ?_ | refine zcm ?_ | refine zcn ?_)
          refine run_take [] rfl ?_
          exact ret_tmp1 rfl ⟨rfl, rfl⟩
        · rw [decide_eq_false l2, Bool.and_false] at hB
          subst hB
          repeat (first | refine zck ?_ | refine zcl ?_ | refine zcm ?_ | refine zcn ?_)
          first | refine zcp (by kernel_rfl) ?_ | refine zcq PP_mixed (by kernel_rfl) (by kernel_rfl) ?_
          repeat' (refine zap rfl ?_; first | refine zaj rfl ?_ | refine zak rfl ?_ | refine zan rfl ?_ | refine zan rfl ?_ | refine zbc rfl rfl (by omega) ?_ | refine zbd rfl rfl (by omega) ?_ | refine zbu rfl ?_ | refine zbv rfl ?_)
          all_goals refine zch ?_
          all_goals repeat (first | refine zck ?_ | refine zcl ?_ | refine zcm ?_ | refine zcn ?_)
          exact ret_tmp1 rfl ⟨rfl, rfl⟩
      · rw [decide_eq_false l1, Bool.false_and] at hB
        subst hB
        repeat (first | refine zck ?_ | refine zcl ?_ | refine zcm ?_ | refine zcn ?_)
        first | refine zcp (by kernel_rfl) ?_ | refine zcq PP_mixed (by kernel_rfl) (by kernel_rfl) ?_
        repeat' (refine zap rfl ?_; first | refine zak rfl ?_ | refine zan rfl ?_ | refine zan rfl ?_ | refine zbd rfl rfl (by omega) ?_ | refine zbv rfl ?_)
        all_goals refine zch ?_
        all_goals repeat (first | refine zck ?_ | refine zcl ?_ | refine zcm ?_ | refine zcn ?_)
        exact ret_tmp1 rfl ⟨rfl, rfl⟩
  rw [if_neg (fun q => h5 q.1)] at hB
  by_cases k2 : e.kind ≤ 2
  · rw [if_pos k2] at hB
    repeat (first | refine zck ?_ | refine zcl ?_ | refine zcm ?_ | refine zcn ?_)
    first | refine zcp (by kernel_rfl) ?_ | refine zcq PP_mixed (by kernel_rfl) (by kernel_rfl) ?_
    repeat' (refine zap rfl ?_; first | refine zaa 0 rfl rfl rfl ?_ | refine zao rfl ?_ | refine zbi rfl rfl (by omega) ?_)
    all_goals refine zch ?_
    all_goals repeat (first | refine zck ?_ | refine zcl ?_ | refine zcm ?_ | refine zcn ?_)
    refine zci rfl ?_
    by_cases l1 : e.args.length = 0
    · by_cases l2 : e.or.length = 0
      · rw [decide_eq_true l1, decide_eq_true l2] at hB
        subst hB
        repeat (first | refine zck ?_ | refine zcl ?_ | refine zcm ?_ | refine zcn ?_)
        first | refine zcp (by kernel_rfl) ?_ | refine zcq PP_mixed (by kernel_rfl) (by kernel_rfl) ?_
        repeat' (refine zap rfl ?_; first | refine zaj rfl ?_ | refine zan rfl ?_ | refine zan rfl ?_ | refine zbc rfl rfl (by omega) ?_ | refine zbu rfl ?_)
        all_goals refine zch ?_
        all_goals repeat (first | refine zck ?_ | refine zcl ?_ | refine zcm ?_ | refine zcn ?_)
        exact ret_tmp1 rfl ⟨rfl, rfl⟩
      · rw [decide_eq_false l2, Bool.and_false] at hB
        subst hB
        repeat (first | refine zck ?_ | refine zcl ?_ | refine zcm ?_ | refine zcn ?_)
        first | refine zcp (by kernel_rfl) ?_ | refine zcq PP_mixed (by kernel_rfl) (by kernel_rfl) ?_
        repeat' (refine zap rfl ?_; first | refine zaj rfl ?_ | refine zan rfl ?_ | refine zan rfl ?_ | refine zbc rfl rfl (by omega) ?_ | refine zbd rfl rfl (by omega) ?_ | refine zbu rfl ?_)
        all_goals refine zch ?_
        all_goals repeat (first | refine zck ?_ | refine zcl ?_ | refine zcm ?_ | refine zcn ?_)
        exact ret_tmp1 rfl ⟨rfl, rfl⟩
    · rw [decide_eq_false l1, Bool.false_and] at hB
      subst hB
      repeat (first | refine zck ?_ | refine zcl ?_ | refine zcm ?_ | refine zcn ?_)
      first | refine zcp (by kernel_rfl) ?_ | refine zcq PP_mixed (by kernel_rfl) (by kernel_rfl) ?_
      repeat' (refine zap rfl ?_; first | refine zak rfl ?_ | refine zan rfl ?_ | refine zan rfl ?_ | refine zbd rfl rfl (by omega) ?_ | refine zbv rfl ?_)
      all_goals refine zch ?_
      all_goals repeat (first | refine zck ?_ | refine zcl ?_ | refine zcm ?_ | refine zcn ?_)
      exact ret_tmp1 rfl ⟨rfl, rfl⟩
  rw [if_neg k2] at hB
  repeat (first | refine zck ?_ | refine zcl ?_ | refine zcm ?_ | refine zcn ?_)
  first | refine zcp (by kernel_rfl) ?_ | refine zcq PP_mixed (by kernel_rfl) (by kernel_rfl) ?_
  repeat' (refine zap rfl ?_; first | refine zaa 0 rfl rfl rfl ?_ | refine zao rfl ?_ | refine zbj rfl rfl (by omega) ?_)
  all_goals refine zch ?_
  all_goals repeat (first | refine zck ?_ | refine zcl ?_ | refine zcm ?_ | refine zcn ?_)
  refine zcj rfl ?_
  by_cases k4 : e.kind ≤ 4
  · rw [if_pos k4] at hB
    repeat (first | refine zck ?_ | refine zcl ?_ | refine zcm ?_ | refine zcn ?_)
    first | refine zcp (by kernel_rfl) ?_ | refine zcq PP_mixed (by kernel_rfl) (by kernel_rfl) ?_
    repeat' (refine zap rfl ?_; first | refine zaa 0 rfl rfl rfl ?_ | refine zao rfl ?_ | refine zbi rfl rfl (by omega) ?_)
    all_goals refine zch ?_
    all_goals repeat (first | refine zck ?_ | refine zcl ?_ | refine zcm ?_ | refine zcn ?_)
    refine zci rfl ?_
    by_cases l1 : e.args.length = 1
    · by_cases l2 : e.or.length = 0
      · rw [decide_eq_true l1, decide_eq_true l2] at hB
        subst hB
        repeat (first | refine zck ?_ | refine zcl ?_ | refine zcm ?_ | refine zcn ?_)
        first | refine zcp (by kernel_rfl) ?_ | refine zcq PP_mixed (by kernel_rfl) (by kernel_rfl) ?_
        repeat' (refine zap rfl ?_; first | refine zaj rfl ?_ | refine zan rfl ?_ | refine zan rfl ?_ | refine zbc rfl rfl (by omega) ?_ | refine zbu rfl ?_)
        all_goals refine zch ?_
        all_goals repeat (first | refine zck ?_ | refine zcl ?_ | refine zcm ?_ | refine zcn ?_)
        exact ret_tmp1 rfl ⟨rfl, rfl⟩
      · rw [decide_eq_false l2, Bool.and_false] at hB
        subst hB
        repeat (first | refine zck ?_ | refine zcl ?_ | refine zcm ?_ | refine zcn ?_)
        first | refine zcp (by kernel_rfl) ?_ | refine zcq PP_mixed (by kernel_rfl) (by kernel_rfl) ?_
        repeat' (refine zap rfl ?_; first | refine zaj rfl ?_ | refine zan rfl ?_ | refine zan rfl ?_ | refine zbc rfl rfl (by omega) ?_ | refine zbd rfl rfl (by omega) ?_ | refine zbu rfl ?_)
        all_goals refine zch ?_
        all_goals repeat (first | refine zck ?_ | refine zcl ?_ | refine zcm ?_ | refine zcn ?_)
        exact ret_tmp1 rfl ⟨rfl, rfl⟩
    · rw [decide_eq_false l1, Bool.false_and] at hB
      subst hB
      repeat (first | refine zck ?_ | refine zcl ?_ | refine zcm ?_ | refine zcn ?_)
      first | refine zcp (by kernel_rfl) ?_ | refine zcq PP_mixed (by kernel_rfl) (by kernel_rfl) ?_
      repeat' (refine zap rfl ?_; first | refine zak rfl ?_ | refine zan rfl ?_ | refine zan rfl ?_ | refine zbd rfl rfl (by omega) ?_ | refine zbv rfl ?_)
      all_goals refine zch ?_
      all_goals repeat (first | refine zck ?_ | refine zcl ?_ | refine zcm ?_ | refine zcn ?_)
      exact ret_tmp1 rfl ⟨rfl, rfl⟩
  rw [if_neg k4, if_neg h5] at hB
  repeat (first | refine zck ?_ | refine zcl ?_ | refine zcm ?_ | refine zcn ?_)
  first | refine zcp (by kernel_rfl) ?_ | refine zcq PP_mixed (by kernel_rfl) (by kernel_rfl) ?_
  repeat' (refine zap rfl ?_; first | refine zaa 0 rfl rfl rfl ?_ | refine zao rfl ?_ | refine zbj rfl rfl (by omega) ?_)
  all_goals refine zch ?_
  all_goals repeat (first | refine zck ?_ | refine zcl ?_ | refine zcm ?_ | refine zcn ?_)
  refine zcj rfl ?_
  repeat (first | refine zck ?_ | refine zcl ?_ | refine zcm ?_ | refine zcn ?_)
  first | refine zcp (by kernel_rfl) ?_ | refine zcq PP_mixed (by kernel_rfl) (by kernel_rfl) ?_
  repeat' (refine zap rfl ?_; first | refine zaa 0 rfl rfl rfl ?_ | refine zao rfl ?_ | refine zbd rfl rfl (by omega) ?_)
  all_goals refine zch ?_
  all_goals repeat (first | refine zck ?_ | refine zcl ?_ | refine zcm ?_ | refine zcn ?_)
  refine zcj rfl ?_
  by_cases k6 : e.kind = 6
  · rw [if_pos k6] at hB
    repeat (first | refine zck ?_ | refine zcl ?_ | refine zcm ?_ | refine zcn ?_)
    first | refine zcp (by kernel_rfl) ?_ | refine zcq PP_mixed (by kernel_rfl) (by kernel_rfl) ?_
    repeat' (refine zap rfl ?_; first | refine zaa 0 rfl rfl rfl ?_ | refine zao rfl ?_ | refine zbc rfl rfl (by omega) ?_)
    all_goals refine zch ?_
    all_goals repeat (first | refine zck ?_ | refine zcl ?_ | refine zcm ?_ | refine zcn ?_)
    refine zci rfl ?_
    by_cases l1 : e.args.length ≤ 4
    · by_cases l2 : e.or.length ≤ 1
      · rw [decide_eq_true l1, decide_eq_true l2] at hB
        subst hB
        repeat (first | refine zck ?_ | refine zcl ?_ | refine zcm ?_ | refine zcn ?_)
        first | refine zcp (by kernel_rfl) ?_ | refine zcq PP_mixed (by kernel_rfl) (by kernel_rfl) ?_
        repeat' (refine zap rfl ?_; first | refine zaj rfl ?_ | refine zan rfl ?_ | refine zan rfl ?_ | refine zbi rfl rfl (by omega) ?_ | refine zbu rfl ?_)
        all_goals refine zch ?_
        all_goals repeat (first | refine zck ?_ | refine zcl ?_ | refine zcm ?_ | refine zcn ?_)
        exact ret_tmp1 rfl ⟨rfl, rfl⟩
      · rw [decide_eq_false l2, Bool.and_false] at hB
        subst hB
        repeat (first | refine zck ?_ | refine zcl ?_ | refine zcm ?_ | refine zcn ?_)
        first | refine zcp (by kernel_rfl) ?_ | refine zcq PP_mixed (by kernel_rfl) (by kernel_rfl) ?_
        repeat' (refine zap rfl ?_; first | refine zaj rfl ?_ | refine zan rfl ?_ | refine zan rfl ?_ | refine zbi rfl rfl (by omega) ?_ | refine zbj rfl rfl (by omega) ?_ | refine zbu rfl ?_)
        all_goals refine zch ?_
        all_goals repeat (first | refine zck ?_ | refine zcl ?_ | refine zcm ?_ | refine zcn ?_)
        exact ret_tmp1 rfl ⟨rfl, rfl⟩
    · rw [decide_eq_false l1, Bool.false_and] at hB
      subst hB
      repeat (first | refine zck ?_ | refine zcl ?_ | refine zcm ?_ | refine zcn ?_)
      first | refine zcp (by kernel_rfl) ?_ | refine zcq PP_mixed (by kernel_rfl) (by kernel_rfl) ?_
      repeat' (refine zap rfl ?_; first | refine zak rfl ?_ | refine zan rfl ?_ | refine zan rfl ?_ | refine zbj rfl rfl (by omega) ?_ | refine zbv rfl ?_)
      all_goals refine zch ?_
      all_goals repeat (first | refine zck ?_ | refine zcl ?_ | refine zcm ?_ | refine zcn ?_)
      exact ret_tmp1 rfl ⟨rfl, rfl⟩
  rw [if_neg k6] at hB
  repeat (first | refine zck ?_ | refine zcl ?_ | refine zcm ?_ | refine zcn ?_)
  first | refine zcp (by kernel_rfl) ?_ | refine zcq PP_mixed (by kernel_rfl) (by kernel_rfl) ?_
  repeat' (refine zap rfl ?_; first | refine zaa 0 rfl rfl rfl ?_ | refine zao rfl ?_ | refine zbd rfl rfl (by omega) ?_)
  all_goals refine zch ?_
  all_goals repeat (first | refine zck ?_ | refine zcl ?_ | refine zcm ?_ | refine zcn ?_)
  refine zcj rfl ?_
  by_cases l1 : e.args.length ≤ 4
  · by_cases l2 : e.or.length = 0
    · rw [decide_eq_true l1, decide_eq_true l2] at hB
      subst hB
      repeat (first | refine zck ?_ | refine zcl ?_ | refine zcm ?_ | refine zcn ?_)
      first | refine zcp (by kernel_rfl) ?_ | refine zcq PP_mixed (by kernel_rfl) (by kernel_rfl) ?_
      repeat' (refine zap rfl ?_; first | refine zaj rfl ?_ | refine zan rfl ?_ | refine zan rfl ?_ | refine zbc rfl rfl (by omega) ?_ | refine zbi rfl rfl (by omega) ?_ | refine zbu rfl ?_)
      all_goals refine zch ?_
      all_goals repeat (first | refine zck ?_ | refine zcl ?_ | refine zcm ?_ | refine zcn ?_)
      exact ret_tmp1 rfl ⟨rfl, rfl⟩
    · rw [decide_eq_false l2, Bool.and_false] at hB
      subst hB
      repeat (first | refine zck ?_ | refine zcl ?_ | refine zcm ?_ | refine zcn ?_)
      first | refine zcp (by kernel_rfl) ?_ | refine zcq PP_mixed (by kernel_rfl) (by kernel_rfl) ?_
      repeat' (refine zap rfl ?_; first | refine zaj rfl ?_ | refine zan rfl ?_ | refine zan rfl ?_ | refine zbd rfl rfl (by omega) ?_ | refine zbi rfl rfl (by omega) ?_ | refine zbu rfl ?_)
      all_goals refine zch ?_
      all_goals repeat (first | refine zck ?_ | refine zcl ?_ | refine zcm ?_ | refine zcn ?_)
      exact ret_tmp1 rfl ⟨rfl, rfl⟩
  · rw [decide_eq_false l1, Bool.false_and] at hB
    subst hB
    repeat (first | refine zck ?_ | refine zcl ?_ | refine zcm ?_ | refine zcn ?_)
    first | refine zcp (by kernel_rfl) ?_ | refine zcq PP_mixed (by kernel_rfl) (by kernel_rfl) ?_
    repeat' (refine zap rfl ?_; first | refine zak rfl ?_ | refine zan rfl ?_ | refine zan rfl ?_ | refine zbj rfl rfl (by omega) ?_ | refine zbv rfl ?_)
    all_goals refine zch ?_
    all_goals repeat (first | refine zck ?_ | refine zcl ?_ | refine zcm ?_ | refine zcn ?_)
    exact ret_tmp1 rfl ⟨rfl, rfl⟩
def DpSpec (w0 : World) (k : Nat) : Prop := ∀ (sh : Shared) (e : PE) (va vo : Value), e.size ≤ 1000000 → RdEl w0 sh va e.args → RdEl w0 sh vo e.or →
  FnE PP w0 sh 30 [.agg (List.toArray (peC e.kind e.num e.name e.meth va vo)), .int .i64 (k : Int)] [] (.int .i64 (deepN k e : Nat)) []
set_option maxHeartbeats 4000000 in
theorem deepR_spec (w0 : World) : ∀ k, k ≤ 1000 → DpSpec w0 k
  | 0, _ => by
    intro sh e va vo _ ha ho
    refine fn_of_run en30 fn30 rfl rfl rfl ?_
    repeat (first | refine zck ?_ | refine zcl ?_ | refine zcm ?_ | refine zcn ?_)
    first | refine zcp (by kernel_rfl) ?_ | refine zcq PP_mixed (by kernel_rfl) (by kernel_rfl) ?_
    repeat' (refine zap rfl ?_; first | refine zan rfl ?_ | refine zaq (cs := [_, _, _, _, _, _]) rfl (fun nb => ?_))
    all_goals refine zch ?_
    all_goals repeat (first | refine zck ?_ | refine zcl ?_ | refine zcm ?_ | refine zcn ?_)
    refine run_share [0] rfl ?_
    repeat (first | refine zck ?_ | refine zcl ?_ | refine zcm ?_ | refine zcn ?_)
    first | refine zcp (by kernel_rfl) ?_ | refine zcq PP_mixed (by kernel_rfl) (by kernel_rfl) ?_
    repeat' (refine zap rfl ?_; first | refine zan rfl ?_)
    all_goals refine zch ?_
    all_goals repeat (first | refine zck ?_ | refine zcl ?_ | refine zcm ?_ | refine zcn ?_)
    repeat (first | refine zck ?_ | refine zcl ?_ | refine zcm ?_ | refine zcn ?_)
    first | refine zcp (by kernel_rfl) ?_ | refine zcq PP_mixed (by kernel_rfl) (by kernel_rfl) ?_
    repeat' (refine zap rfl ?_; first | refine zan rfl ?_ | refine zbi rfl rfl (by omega) ?_)
    all_goals refine zch ?_
    all_goals repeat (first | refine zck ?_ | refine zcl ?_ | refine zcm ?_ | refine zcn ?_)
    refine zci rfl ?_
    repeat' (first | refine zck ?_ | refine zcp (by kernel_rfl) ?_ | (refine zap rfl ?_; first | refine zan rfl ?_) | refine zch ?_)
    exact ret_tmp1 rfl ⟨rfl, rfl⟩
  | k + 1, hk => by
    intro sh e va vo hs ha ho
    have ih := deepR_spec w0 k (by omega)
    have hsz := e.size_eq
    have la := PE.sizeL_len e.args
    have lo := PE.sizeL_len e.or
    obtain ⟨a1, c1, hva, _⟩ := ha.len
    obtain ⟨a2, c2, hvo, _⟩ := ho.len
    subst hva; subst hvo
    have hkk : ((k + 1 : Nat) : Int) - 1 = (k : Int) := by omega
    have hdk := deepN_le (k + 1) e
    rw [deepN] at hdk ⊢
    refine fn_of_run en30 fn30 rfl rfl rfl ?_
    repeat (first | refine zck ?_ | refine zcl ?_ | refine zcm ?_ | refine zcn ?_)
    first | refine zcp (by kernel_rfl) ?_ | refine zcq PP_mixed (by kernel_rfl) (by kernel_rfl) ?_
    repeat' (refine zap rfl ?_; first | refine zaq (cs := [_, _, _, _, _, _]) rfl (fun te => ?_) | refine zan rfl ?_)
    all_goals refine zch ?_
    all_goals repeat (first | refine zck ?_ | refine zcl ?_ | refine zcm ?_ | refine zcn ?_)
    refine run_share [0] rfl ?_
    repeat (first | refine zck ?_ | refine zcl ?_ | refine zcm ?_ | refine zcn ?_)
    first | refine zcp (by kernel_rfl) ?_ | refine zcq PP_mixed (by kernel_rfl) (by kernel_rfl) ?_
    repeat' (refine zap rfl ?_; first | refine zan rfl ?_)
    all_goals refine zch ?_
    all_goals repeat (first | refine zck ?_ | refine zcl ?_ | refine zcm ?_ | refine zcn ?_)
    repeat (first | refine zck ?_ | refine zcl ?_ | refine zcm ?_ | refine zcn ?_)
    first | refine zcp (by kernel_rfl) ?_ | refine zcq PP_mixed (by kernel_rfl) (by kernel_rfl) ?_
    repeat' (refine zap rfl ?_; first | refine zan rfl ?_ | refine zbj rfl rfl (by omega) ?_)
    all_goals refine zch ?_
    all_goals repeat (first | refine zck ?_ | refine zcl ?_ | refine zcm ?_ | refine zcn ?_)
    refine zcj rfl ?_
    repeat (first | refine zck ?_ | refine zcl ?_ | refine zcm ?_ | refine zcn ?_)
    first | refine zcp (by kernel_rfl) ?_ | refine zcq PP_mixed (by kernel_rfl) (by kernel_rfl) ?_
    repeat' (refine zap rfl ?_; first | refine zan rfl ?_)
    all_goals refine zch ?_
    all_goals repeat (first | refine zck ?_ | refine zcl ?_ | refine zcm ?_ | refine zcn ?_)
    refine run_loop (S := Nat × Nat) (fun s => [(1, .int .i64 ((k + 1 : Nat) : Int)), (2, .pointer (some ⟨te, 0, none⟩)), (5, .int .i64 (s.2 : Int)), (6, .int .i64 (s.1 : Int))]) (fun s Γ => Γ = [] ∧ s.1 ≤ e.args.length ∧ dpL (deepN k) (e.args.drop s.1) s.2 = dpL (deepN k) e.args 0) (fun s => e.args.length - s.1) (0, 0) ⟨rfl, rfl, rfl, rfl, trivial⟩ ⟨rfl, Nat.zero_le _, rfl⟩ ?_
    rintro ⟨j, d⟩ Γ junk ⟨rfl, g1, g2⟩
    dsimp only at g1 g2 ⊢
    by_cases hj : j < e.args.length
    · obtain ⟨x, hx⟩ : ∃ x, e.args[j]? = some x := ⟨_, List.getElem?_eq_getElem hj⟩
      obtain ⟨b, off, cc, T, fr, cs, rfl, e2, e3, e4, _⟩ := ha.at hx
      obtain ⟨va', vo', rfl, r1, r2⟩ := e4.cs
      have hcall := ih sh x va' vo' (by have := PE.size_args (List.mem_of_getElem? hx); omega) r1 r2
      have hdx := deepN_le k x
      rw [dpL_drop hx] at g2
      repeat (first | refine zck ?_ | refine zcl ?_ | refine zcm ?_ | refine zcn ?_)
      first | refine zcp (by kernel_rfl) ?_ | refine zcq PP_mixed (by kernel_rfl) (by kernel_rfl) ?_
      repeat' (refine zap rfl ?_; first | refine zan rfl ?_ | refine zaa 0 rfl rfl rfl ?_ | refine zce rfl ?_ | refine zao rfl ?_ | refine zbg rfl rfl (by omega) ?_)
      all_goals refine zch ?_
      all_goals repeat (first | refine zck ?_ | refine zcl ?_ | refine zcm ?_ | refine zcn ?_)
      refine zci rfl ?_
      repeat (first | refine zck ?_ | refine zcl ?_ | refine zcm ?_ | refine zcn ?_)
      first | refine zcp (by kernel_rfl) ?_ | refine zcq PP_mixed (by kernel_rfl) (by kernel_rfl) ?_
      repeat' (refine zap rfl ?_; first | refine zad rfl (fun hF Γ w h1 h2 => e2 hF Γ w (fun p hp => h1 p (.tail _ hp)) h2) (e3 _ (by omega)) ?_ | (refine zav rfl rfl (by omega) ?_; rw [hkk]) | refine zan rfl ?_ | refine zan rfl ?_ | refine zaa 0 rfl rfl rfl ?_ | refine zah [] hcall rfl rfl rfl (fun p hp => .tail _ hp) rfl ?_ | refine zcf rfl rfl ?_ | refine zao rfl ?_ | refine zas rfl rfl (by omega) ?_)
      all_goals refine zch ?_
      all_goals repeat (first | refine zck ?_ | refine zcl ?_ | refine zcm ?_ | refine zcn ?_)
      repeat' (first | refine zcp (by kernel_rfl) ?_ | (refine zap rfl ?_; first | refine zan rfl ?_ | refine zan rfl ?_ | refine zau rfl rfl (by omega) ?_) | refine zch ?_)
      exact cut_end ⟨rfl, (j + 1, max d (deepN k x)), ⟨rfl, rfl, int_eq (by dsimp only; split <;> omega), int_eq (by dsimp only; omega), trivial⟩, ⟨rfl, by dsimp only; omega, g2⟩, by dsimp only; omega⟩
    rw [List.drop_of_length_le (by omega), dpL] at g2
    repeat (first | refine zck ?_ | refine zcl ?_ | refine zcm ?_ | refine zcn ?_)
    first | refine zcp (by kernel_rfl) ?_ | refine zcq PP_mixed (by kernel_rfl) (by kernel_rfl) ?_
    repeat' (refine zap rfl ?_; first | refine zan rfl ?_ | refine zaa 0 rfl rfl rfl ?_ | refine zce rfl ?_ | refine zao rfl ?_ | refine zbh rfl rfl (by omega) ?_)
    all_goals refine zch ?_
    all_goals repeat (first | refine zck ?_ | refine zcl ?_ | refine zcm ?_ | refine zcn ?_)
    refine zcj rfl ?_
    refine cut_exit rfl rfl ?_
    repeat (first | refine zck ?_ | refine zcl ?_ | refine zcm ?_ | refine zcn ?_)
    first | refine zcp (by kernel_rfl) ?_ | refine zcq PP_mixed (by kernel_rfl) (by kernel_rfl) ?_
    repeat' (refine zap rfl ?_; first | refine zan rfl ?_)
    all_goals refine zch ?_
    all_goals repeat (first | refine zck ?_ | refine zcl ?_ | refine zcm ?_ | refine zcn ?_)
    refine run_loop (S := Nat × Nat) (fun s => [(1, .int .i64 ((k + 1 : Nat) : Int)), (2, .pointer (some ⟨te, 0, none⟩)), (5, .int .i64 (s.2 : Int)), (7, .int .i64 (s.1 : Int))]) (fun s Γ => Γ = [] ∧ s.1 ≤ e.or.length ∧ dpL (deepN k) (e.or.drop s.1) s.2 = dpL (deepN k) e.or d) (fun s => e.or.length - s.1) (0, d) ⟨rfl, rfl, rfl, rfl, trivial⟩ ⟨rfl, Nat.zero_le _, rfl⟩ ?_
    rintro ⟨j2, d2⟩ Γ junk2 ⟨rfl, g3, g4⟩
    dsimp only at g3 g4 ⊢
    by_cases hj2 : j2 < e.or.length
    · obtain ⟨x, hx⟩ : ∃ x, e.or[j2]? = some x := ⟨_, List.getElem?_eq_getElem hj2⟩
      obtain ⟨b, off, cc, T, fr, cs, rfl, e2, e3, e4, _⟩ := ho.at hx
      obtain ⟨va', vo', rfl, r1, r2⟩ := e4.cs
      have hcall := ih sh x va' vo' (by have := PE.size_or (List.mem_of_getElem? hx); omega) r1 r2
      have hdx := deepN_le k x
      rw [dpL_drop hx] at g4
      repeat (first | refine zck ?_ | refine zcl ?_ | refine zcm ?_ | refine zcn ?_)
      first | refine zcp (by kernel_rfl) ?_ | refine zcq PP_mixed (by kernel_rfl) (by kernel_rfl) ?_
      repeat' (refine zap rfl ?_; first | refine zan rfl ?_ | refine zaa 0 rfl rfl rfl ?_ | refine zce rfl ?_ | refine zao rfl ?_ | refine zbg rfl rfl (by omega) ?_)
      all_goals refine zch ?_
      all_goals repeat (first | refine zck ?_ | refine zcl ?_ | refine zcm ?_ | refine zcn ?_)
      refine zci rfl ?_
      repeat (first | refine zck ?_ | refine zcl ?_ | refine zcm ?_ | refine zcn ?_)
      first | refine zcp (by kernel_rfl) ?_ | refine zcq PP_mixed (by kernel_rfl) (by kernel_rfl) ?_
      repeat' (refine zap rfl ?_; first | refine zad rfl (fun hF Γ w h1 h2 => e2 hF Γ w (fun p hp => h1 p (.tail _ hp)) h2) (e3 _ (by omega)) ?_ | (refine zav rfl rfl (by omega) ?_; rw [hkk]) | refine zan rfl ?_ | refine zan rfl ?_ | refine zaa 0 rfl rfl rfl ?_ | refine zah [] hcall rfl rfl rfl (fun p hp => .tail _ hp) rfl ?_ | refine zcf rfl rfl ?_ | refine zao rfl ?_ | refine zas rfl rfl (by omega) ?_)
      all_goals refine zch ?_
      all_goals repeat (first | refine zck ?_ | refine zcl ?_ | refine zcm ?_ | refine zcn ?_)
      repeat' (first | refine zcp (by kernel_rfl) ?_ | (refine zap rfl ?_; first | refine zan rfl ?_ | refine zan rfl ?_ | refine zau rfl rfl (by omega) ?_) | refine zch ?_)
      exact cut_end ⟨rfl, (j2 + 1, max d2 (deepN k x)), ⟨rfl, rfl, int_eq (by dsimp only; split <;> omega), int_eq (by dsimp only; omega), trivial⟩, ⟨rfl, by dsimp only; omega, g4⟩, by dsimp only; omega⟩
    rw [List.drop_of_length_le (by omega), dpL] at g4
    rw [← g2, ← g4] at hdk ⊢
    repeat (first | refine zck ?_ | refine zcl ?_ | refine zcm ?_ | refine zcn ?_)
    first | refine zcp (by kernel_rfl) ?_ | refine zcq PP_mixed (by kernel_rfl) (by kernel_rfl) ?_
    repeat' (refine zap rfl ?_; first | refine zan rfl ?_ | refine zaa 0 rfl rfl rfl ?_ | refine zce rfl ?_ | refine zao rfl ?_ | refine zbh rfl rfl (by omega) ?_)
    all_goals refine zch ?_
    all_goals repeat (first | refine zck ?_ | refine zcl ?_ | refine zcm ?_ | refine zcn ?_)
    refine zcj rfl ?_
    refine cut_exit rfl rfl ?_
    repeat' (first | refine zck ?_ | refine zcp (by kernel_rfl) ?_ | (refine zap rfl ?_; first | refine zan rfl ?_ | refine zan rfl ?_ | refine zau rfl rfl (by omega) ?_) | refine zch ?_)
    exact ret_tmp1 rfl ⟨int_eq (by omega), rfl⟩
end Go.Proofs.YtijbnjaackhlcaaGreatDoor

