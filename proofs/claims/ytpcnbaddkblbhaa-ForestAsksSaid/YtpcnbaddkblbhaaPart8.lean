import Derived.Test.YtpcnbaddkblbhaaPart7
/- Lemmas and walks for the claims of this seat (own work): Fo2 Fo3 Fo4 Fo5 Fo6. -/
/- The walks of package forest: place, Find, both, Same, Size, Sets. -/
namespace Sim.Fo
open Pg
variable (F : Fo)
theorem all_cell (x : Int) : All (fun r => 0 ≤ r.1 ∧ r.1 ≤ 4103) (F.cell x) := fun v => by
  have := nodeN_bd v
  refine all_pure ?_
  dsimp only
  omega
theorem all_place (x : Int) : All (fun r => 0 ≤ r.1 ∧ r.1 ≤ 4100) (F.place x) := by
  refine all_then fun c => all_ite (fun _ => ?_) fun _ => all_pure (by dsimp only; omega)
  refine all_then fun v => all_pure ?_
  have := nodeN_bd v
  dsimp only
  omega
theorem all_many : All (fun r => r.2 = true → 0 ≤ r.1 ∧ r.1 ≤ 64) F.many := fun v => by
  refine all_pure ?_
  dsimp only
  simp
theorem all_check (x : Int) : All (fun e => e = 0 → 1 ≤ x) (F.check x) := by
  refine all_ite (fun _ => ?_) (fun h => all_then fun n => all_ite (fun _ => ?_) fun _ => ?_)
  · exact all_pure (fun h => absurd h (by decide))
  · exact all_pure (fun h => absurd h (by decide))
  · exact all_pure (fun _ => by omega)
def InX (x : Int) : Prop := x ≤ 9223372036854775807
def Good (r : Int × Int) : Prop := r.2 = 0 → 1 ≤ r.1 ∧ InX r.1
theorem good_lost : Good (0, 24) := fun h => absurd h (by decide)
theorem good_err {e : Int} (h : e ≠ 0) : Good (0, e) := fun h2 => absurd h2 h
theorem all_climb (n : Int) (hn : n ≤ 64) : ∀ (k : Nat) (x : Int), 1 ≤ x → InX x → All Good (F.climb n k x)
  | 0, _, _, _ => all_pure good_lost
  | k + 1, x, h1, h2 => by
    refine all_then fun c => all_ite (fun _ => ?_) fun _ => all_pure good_lost
    refine all_then fun up => all_ite (fun _ => all_pure (fun _ => ⟨h1, h2⟩)) fun _ => all_ite (fun _ => all_pure good_lost) fun h => ?_
    exact all_climb n hn k up (by omega) (by unfold InX; omega)
theorem all_find (x : Int) (hx : InX x) : All Good (F.find x) := by
  refine all_bind (ψ := fun e => e = 0 → 1 ≤ x) (fun e he => all_ite (fun h => all_pure (good_err h)) fun h => ?_) (F.all_check x)
  refine all_bind (ψ := fun r => r.2 = true → 0 ≤ r.1 ∧ r.1 ≤ 64) (fun n hn => all_ite (fun h2 => ?_) fun _ => all_pure good_lost) F.all_many
  exact F.all_climb n.1 (hn h2).2 65 x (he (by omega)) hx
def Good2 (r : (Int × Int) × Int) : Prop := r.2 = 0 → (1 ≤ r.1.1 ∧ InX r.1.1) ∧ 1 ≤ r.1.2 ∧ InX r.1.2
theorem good2_err {e : Int} (h : e ≠ 0) : Good2 ((0, 0), e) := fun h2 => absurd h2 h
theorem all_both (x y : Int) (hx : InX x) (hy : InX y) : All Good2 (F.both x y) := by
  refine all_then fun e => all_ite (fun h => all_pure (good2_err h)) fun _ => all_then fun e => all_ite (fun h => all_pure (good2_err h)) fun _ => ?_
  refine all_bind (ψ := Good) (fun a ha => all_ite (fun h => all_pure (good2_err h)) fun h => ?_) (F.all_find x hx)
  refine all_bind (ψ := Good) (fun b hb => all_ite (fun h => all_pure (good2_err h)) fun h2 => ?_) (F.all_find y hy)
  exact all_pure (fun _ => ⟨ha (by omega), hb (by omega)⟩)
end Sim.Fo
namespace Go.Proofs.Ytpcnbaddkblbhaa
open Go.Vc Sim
set_option maxHeartbeats 4000000
theorem foPlace (w0 : World) (p : Nat) (F : Fo) (hF : F.Ok) (x : Int) (hx : 1 ≤ x ∧ x ≤ 9223372036854775807) : FnG w0 [] 44 [foV F, spP p, .int .i64 x] p (F.place x) encIB := by
  obtain ⟨_, h1, h2⟩ := id hF
  intro s hS; have hG := At.start hS; generalize Pg.run _ s = R at hG ⊢
  refine fn_of_run en44 fn44 rfl rfl rfl ?_
  repeat (first | refine zck ?_ | refine zcl ?_ | refine zcm ?_ | refine zcn ?_)
  first | refine zcp (by kernel_rfl) ?_ | refine zcq PP_mixed (by kernel_rfl) (by kernel_rfl) ?_
  repeat' (refine zap rfl ?_; first | ((with_reducible refine zcv ?_); refine zan rfl ?_) | ((with_reducible refine zdg ?_); refine zaq (cs := [_, _, _, _]) rfl (fun nb => ?_)))
  all_goals refine zch ?_
  all_goals repeat (first | refine zck ?_ | refine zcl ?_ | refine zcm ?_ | refine zcn ?_)
  refine run_share [1] rfl ?_
  repeat' (first | refine zck ?_ | refine zcp (by kernel_rfl) ?_ | (refine zap rfl ?_; first | ((with_reducible refine zcu ?_); refine zan rfl ?_) | ((with_reducible refine zcv ?_); refine zan rfl ?_) | ((with_reducible refine zcw ?_); refine zaa 0 rfl rfl rfl ?_) | ((with_reducible refine zcx ?_); refine reg_callG [0] hG (foCell w0 p F hF x hx) rfl rfl rfl sub_nil (fun u s hG => ?_)) | ((with_reducible refine zcz ?_); refine zan rfl ?_) | ((with_reducible refine zdb ?_); refine zbx rfl ?_)) | refine zch ?_)
  refine run_condV rfl (fun hE => ?_) (fun hE => ?_)
  · have hE : u.2 = false := by simpa using hE
    simp only [hE, Bool.false_eq_true, if_false] at hG
    rw [hG.done]
    repeat' (first | refine zck ?_ | refine zcp (by kernel_rfl) ?_ | (refine zap rfl ?_; first | ((with_reducible refine zcv ?_); refine zan rfl ?_)) | refine zch ?_)
    exact ret_tmp2 rfl ⟨rfl, rfl⟩
  · have hE : u.2 = true := by simpa using hE
    simp only [hE, if_true] at hG
    repeat' (first | refine zck ?_ | refine zcp (by kernel_rfl) ?_ | refine zcq PP_mixed (by kernel_rfl) (by kernel_rfl) ?_ | refine zcm ?_ | (refine zap rfl ?_; first | refine zau rfl rfl (by have := Fo.nodeN_bd u; omega) ?_ | ((with_reducible refine zcu ?_); refine zan rfl ?_) | ((with_reducible refine zcv ?_); refine zan rfl ?_) | ((with_reducible refine zcw ?_); refine zaa 0 rfl rfl rfl ?_) | ((with_reducible refine zcx ?_); first | refine reg_callG [0] hG (getG w0 p _) rfl rfl rfl sub_nil (fun u s hG => ?_) | refine zah [] (foNode w0 F hF _) rfl rfl rfl sub_nil rfl ?_) | ((with_reducible refine zcz ?_); refine zan rfl ?_) | ((with_reducible refine zda ?_); first | refine zav rfl rfl (by omega) ?_ | refine zaw rfl rfl (by omega) ?_ | refine zay rfl rfl (by omega) ?_)) | refine zch ?_)
    rw [hG.done]
    exact ret_tmp2 rfl ⟨rfl, rfl⟩
theorem foSets (w0 : World) (p : Nat) (F : Fo) (hF : F.Ok) : FnG w0 [] 27 [foV F, spP p] p F.sets (.int .i64) := by
  obtain ⟨_, h1, h2⟩ := id hF
  intro s hS
  have hG := (At.start hS).to (Pg.bind_pure _).symm
  generalize Pg.run _ s = R at hG ⊢
  unfold Fo.sets at hG
  refine fn_of_run en27 fn27 rfl rfl rfl ?_
  repeat (first | refine zck ?_ | refine zcl ?_ | refine zcm ?_ | refine zcn ?_)
  first | refine zcp (by kernel_rfl) ?_ | refine zcq PP_mixed (by kernel_rfl) (by kernel_rfl) ?_
  repeat' (refine zap rfl ?_; first | ((with_reducible refine zcv ?_); refine zan rfl ?_) | ((with_reducible refine zdg ?_); refine zaq (cs := [_, _, _, _]) rfl (fun nb => ?_)))
  all_goals refine zch ?_
  all_goals repeat (first | refine zck ?_ | refine zcl ?_ | refine zcm ?_ | refine zcn ?_)
  refine run_share [1] rfl ?_
  repeat' (first | refine zcp (by kernel_rfl) ?_ | (refine zap rfl ?_; first | ((with_reducible refine zcu ?_); refine zan rfl ?_) | ((with_reducible refine zcv ?_); refine zan rfl ?_) | ((with_reducible refine zcw ?_); refine zaa 0 rfl rfl rfl ?_) | ((with_reducible refine zcx ?_); refine reg_callG [0] hG (getG w0 p _) rfl rfl rfl sub_nil (fun u s hG => ?_)) | ((with_reducible refine zcy ?_); refine zao rfl ?_) | ((with_reducible refine zda ?_); refine zau rfl rfl (by omega) ?_)) | refine zch ?_)
  rw [hG.done]
  exact ret_tmp1 rfl ⟨rfl, rfl⟩
theorem foFind (w0 : World) (p : Nat) (F : Fo) (hF : F.Ok) (x : Int) (hx : x ≤ 9223372036854775807) : FnG w0 [] 15 [foV F, spP p, .int .i64 x] p (F.find x) encI2 := by
  obtain ⟨_, h1, h2⟩ := id hF
  intro s hS; have hG := At.start hS; generalize Pg.run _ s = R at hG ⊢
  refine fn_of_run en15 fn15 rfl rfl rfl ?_
  repeat (first | refine zck ?_ | refine zcl ?_ | refine zcm ?_ | refine zcn ?_)
  first | refine zcp (by kernel_rfl) ?_ | refine zcq PP_mixed (by kernel_rfl) (by kernel_rfl) ?_
  repeat' (refine zap rfl ?_; first | ((with_reducible refine zcv ?_); refine zan rfl ?_) | ((with_reducible refine zdg ?_); refine zaq (cs := [_, _, _, _]) rfl (fun nb => ?_)))
  all_goals refine zch ?_
  all_goals repeat (first | refine zck ?_ | refine zcl ?_ | refine zcm ?_ | refine zcn ?_)
  refine run_share [1] rfl ?_
  repeat' (first | refine zck ?_ | refine zcp (by kernel_rfl) ?_ | (refine zap rfl ?_; first | ((with_reducible refine zcu ?_); refine zan rfl ?_) | ((with_reducible refine zcv ?_); refine zan rfl ?_) | ((with_reducible refine zcw ?_); refine zaa 0 rfl rfl rfl ?_) | ((with_reducible refine zcx ?_); refine reg_callGP [0] hG (F.all_check x) (foCheck w0 p F hF x) rfl rfl rfl sub_nil (fun u s hx1 hG => ?_)) | ((with_reducible refine zda ?_); refine zbp rfl rfl ?_)) | refine zch ?_)
  refine run_cond rfl (fun hE => ?_) (fun hE => ?_)
  · rw [if_pos hE] at hG
    rw [hG.done]
    repeat' (first | refine zck ?_ | refine zcp (by kernel_rfl) ?_ | (refine zap rfl ?_; first | ((with_reducible refine zcu ?_); refine zan rfl ?_) | ((with_reducible refine zcv ?_); refine zan rfl ?_)) | refine zch ?_)
    exact ret_tmp2 rfl ⟨rfl, rfl⟩
  · rw [if_neg hE] at hG
    have hx1 := hx1 (by omega)
    repeat' (first | refine zck ?_ | refine zcp (by kernel_rfl) ?_ | refine zcm ?_ | (refine zap rfl ?_; first | ((with_reducible refine zcu ?_); refine zan rfl ?_) | ((with_reducible refine zcv ?_); refine zan rfl ?_) | ((with_reducible refine zcw ?_); refine zaa 0 rfl rfl rfl ?_) | ((with_reducible refine zcx ?_); refine reg_callGP [0] hG F.all_many (foMany w0 p F hF) rfl rfl rfl sub_nil (fun u s hn hG => ?_)) | ((with_reducible refine zcz ?_); refine zan rfl ?_) | ((with_reducible refine zdb ?_); refine zbx rfl ?_)) | refine zch ?_)
    refine run_condV rfl (fun hE => ?_) (fun hE => ?_)
    · have hE : u.2 = false := by simpa using hE
      simp only [hE, Bool.false_eq_true, if_false] at hG
      rw [hG.done]
      repeat' (first | refine zck ?_ | refine zcp (by kernel_rfl) ?_ | (refine zap rfl ?_; first | ((with_reducible refine zcv ?_); refine zan rfl ?_)) | refine zch ?_)
      exact ret_tmp2 rfl ⟨rfl, rfl⟩
    · have hE : u.2 = true := by simpa using hE
      simp only [hE, if_true] at hG
      have hn := hn hE
      repeat (first | refine zck ?_ | refine zcl ?_ | refine zcm ?_ | refine zcn ?_)
      first | refine zcp (by kernel_rfl) ?_ | refine zcq PP_mixed (by kernel_rfl) (by kernel_rfl) ?_
      repeat' (refine zap rfl ?_; first | ((with_reducible refine zcv ?_); refine zan rfl ?_) | ((with_reducible refine zcw ?_); refine zaa 0 rfl rfl rfl ?_) | refine zan rfl ?_)
      all_goals refine zch ?_
      all_goals repeat (first | refine zck ?_ | refine zcl ?_ | refine zcm ?_ | refine zcn ?_)
      repeat (first | refine zck ?_ | refine zcl ?_ | refine zcm ?_ | refine zcn ?_)
      first | refine zcp (by kernel_rfl) ?_ | refine zcq PP_mixed (by kernel_rfl) (by kernel_rfl) ?_
      repeat' (refine zap rfl ?_; first | ((with_reducible refine zcu ?_); refine zan rfl ?_))
      all_goals refine zch ?_
      all_goals repeat (refine zck ?_)
      refine zcl ?_
      refine run_loop (S := Nat × Int × Sp) (fun st => [(3, .pointer (some ⟨nb, 0, none⟩)), (1, spP p), (2, .int .i64 st.2.1), (9, .int .i64 u.1), (11, .func (.func 44) #[foV F] #[]), (32, .int .i64 (st.1 : Int))])
        (fun st Γ => Γ = [SpaceA p st.2.2] ∧ At R (F.climb u.1 (65 - st.1) st.2.1) st.2.2 ∧ st.1 ≤ 65 ∧ 1 ≤ st.2.1 ∧ Fo.InX st.2.1) (fun st => 65 - st.1) (0, x, s) ⟨rfl, rfl, rfl, rfl, rfl, rfl, trivial⟩ ⟨rfl, hG, Nat.zero_le _, hx1, hx⟩ ?_
      rintro ⟨i, y, s⟩ Γ junk ⟨rfl, hG, hi, hy, hy2⟩
      dsimp only at hG hi hy hy2 ⊢
      by_cases hlt : i < 65
      · obtain ⟨k, hk⟩ : ∃ k, 65 - i = k + 1 := ⟨64 - i, by omega⟩
        rw [hk, Fo.climb] at hG
        repeat' (first | refine zck ?_ | refine zcp (by kernel_rfl) ?_ | refine zcm ?_ | refine zcl ?_ | (refine zap rfl ?_; first | ((with_reducible refine zcu ?_); refine zan rfl ?_) | ((with_reducible refine zcv ?_); refine zan rfl ?_) | ((with_reducible refine zcx ?_); refine reg_callGP [0] hG (F.all_place y) (foPlace w0 p F hF y ⟨hy, hy2⟩) rfl rfl rfl sub_nil (fun c s hb hG => ?_)) | ((with_reducible refine zcz ?_); refine zan rfl ?_) | ((with_reducible refine zda ?_); refine zbg rfl rfl (by omega) ?_) | ((with_reducible refine zdb ?_); refine zbx rfl ?_)) | refine zch ?_ | refine zci rfl ?_)
        refine run_condV rfl (fun hE => ?_) (fun hE => ?_)
        · have hE : c.2 = false := by simpa using hE
          simp only [hE, Bool.false_eq_true, if_false] at hG
          rw [hG.done]
          repeat' (first | refine zck ?_ | refine zcp (by kernel_rfl) ?_ | (refine zap rfl ?_; first | ((with_reducible refine zcv ?_); refine zan rfl ?_)) | refine zch ?_)
          exact qret2 (fun _ _ h => h) rfl ⟨rfl, rfl⟩
        · have hE : c.2 = true := by simpa using hE
          simp only [hE, if_true] at hG
          repeat' (first | refine zck ?_ | refine zcp (by kernel_rfl) ?_ | refine zcm ?_ | refine zcl ?_ | refine zcn ?_ | (refine zap rfl ?_; first | ((with_reducible refine zct ?_); first | refine zaj rfl ?_ | refine zak rfl ?_ | refine zam rfl rfl (fun _ => ?_) (fun _ => ?_)) | ((with_reducible refine zcu ?_); refine zan rfl ?_) | ((with_reducible refine zcv ?_); refine zan rfl ?_) | ((with_reducible refine zcx ?_); refine reg_callG [0] hG (getG w0 p _) rfl rfl rfl sub_nil (fun v s hG => ?_)) | ((with_reducible refine zda ?_); first | refine reg_addZ rfl rfl (by omega) ?_ | refine zau rfl rfl (by omega) ?_ | refine zbo rfl rfl ?_ | refine zbq rfl rfl ?_ | refine zbs rfl rfl ?_) | ((with_reducible refine zdc ?_); first | refine zbu rfl ?_ | refine zbv rfl ?_)) | refine zch ?_ | refine zci rfl ?_ | refine run_cond rfl (fun _ => ?_) (fun _ => ?_))
          · rename_i h0
            rw [if_pos h0] at hG
            rw [hG.done]
            exact qret2 (fun _ _ h => h) rfl ⟨rfl, rfl⟩
          · rename_i h0 h3
            rw [if_neg h0, if_pos (.inl h3)] at hG
            rw [hG.done]
            repeat' (first | refine zck ?_ | (refine zap rfl ?_; first | ((with_reducible refine zct ?_); first | refine zaj rfl ?_ | refine zak rfl ?_ | refine zal rfl ?_ | refine zam rfl rfl (fun _ => ?_) (fun _ => ?_))) | refine zch ?_)
            exact qret2 (fun _ _ h => h) rfl ⟨rfl, rfl⟩
          · rename_i h0 h3 h4
            rw [if_neg h0, if_pos (.inr h4)] at hG
            rw [hG.done]
            repeat' (first | refine zck ?_ | (refine zap rfl ?_; first | ((with_reducible refine zct ?_); first | refine zaj rfl ?_ | refine zak rfl ?_ | refine zal rfl ?_ | refine zam rfl rfl (fun _ => ?_) (fun _ => ?_))) | refine zch ?_)
            exact qret2 (fun _ _ h => h) rfl ⟨rfl, rfl⟩
          · rename_i h0 h3 h4
            rw [if_neg h0, if_neg (by omega)] at hG
            have e : 65 - (i + 1) = k := by omega
            repeat' (first | refine zck ?_ | (refine zap rfl ?_; first | ((with_reducible refine zct ?_); first | refine zaj rfl ?_ | refine zak rfl ?_ | refine zal rfl ?_ | refine zam rfl rfl (fun _ => ?_) (fun _ => ?_))) | refine zch ?_)
            exact cut_end ⟨rfl, (i + 1, v, s), ⟨rfl, rfl, rfl, rfl, rfl, int_eq (by dsimp only; omega), trivial⟩, ⟨rfl, by dsimp only; rw [e]; exact hG, hlt, by dsimp only; omega, by unfold Fo.InX; dsimp only; omega⟩, by dsimp only; omega⟩
      · have e : 65 - i = 0 := by omega
        rw [e, Fo.climb] at hG
        rw [hG.done]
        repeat' (first | refine zck ?_ | refine zcp (by kernel_rfl) ?_ | (refine zap rfl ?_; first | ((with_reducible refine zda ?_); refine zbh rfl rfl (by omega) ?_)) | refine zch ?_ | refine zcj rfl ?_)
        refine cut_exit rfl rfl ?_
        repeat' (first | refine zck ?_ | refine zcp (by kernel_rfl) ?_ | (refine zap rfl ?_; first | ((with_reducible refine zcv ?_); refine zan rfl ?_)) | refine zch ?_)
        exact ret_tmp2 rfl ⟨rfl, rfl⟩
end Go.Proofs.Ytpcnbaddkblbhaa

/- The walks of package forest: both, Same, Size. -/
namespace Go.Proofs.Ytpcnbaddkblbhaa
open Go.Vc Sim
set_option maxHeartbeats 4000000
theorem foBoth (w0 : World) (p : Nat) (F : Fo) (hF : F.Ok) (x y : Int) (hx : x ≤ 9223372036854775807) (hy : y ≤ 9223372036854775807) : FnG w0 [] 50 [foV F, spP p, .int .i64 x, .int .i64 y] p (F.both x y) encPI := by
  obtain ⟨_, h1, h2⟩ := id hF
  intro s hS; have hG := At.start hS; generalize Pg.run _ s = R at hG ⊢
  refine fn_of_run en50 fn50 rfl rfl rfl ?_
  repeat (first | refine zck ?_ | refine zcl ?_ | refine zcm ?_ | refine zcn ?_)
  first | refine zcp (by kernel_rfl) ?_ | refine zcq PP_mixed (by kernel_rfl) (by kernel_rfl) ?_
  repeat' (refine zap rfl ?_; first | ((with_reducible refine zcv ?_); refine zan rfl ?_) | ((with_reducible refine zdg ?_); refine zaq (cs := [_, _, _, _]) rfl (fun nb => ?_)) | ((with_reducible refine zdh ?_); refine zar (fun nb => ?_)))
  all_goals refine zch ?_
  all_goals repeat (first | refine zck ?_ | refine zcl ?_ | refine zcm ?_ | refine zcn ?_)
  refine run_share [1] rfl ?_
  repeat (first | refine zck ?_ | refine zcl ?_ | refine zcm ?_ | refine zcn ?_)
  first | refine zcp (by kernel_rfl) ?_ | refine zcq PP_mixed (by kernel_rfl) (by kernel_rfl) ?_
  repeat' (refine zap rfl ?_; first | ((with_reducible refine zcu ?_); refine zan rfl ?_) | refine reg_buildA rfl ?_)
  all_goals refine zch ?_
  all_goals repeat (first | refine zck ?_ | refine zcl ?_ | refine zcm ?_ | refine zcn ?_)
  refine run_loop1 ?_
  repeat' (first | refine zck ?_ | refine zcp (by kernel_rfl) ?_ | refine zcm ?_ | refine zcl ?_ | (refine zap rfl ?_; first | ((with_reducible refine zcu ?_); refine zan rfl ?_) | ((with_reducible refine zcv ?_); refine zan rfl ?_) | ((with_reducible refine zcw ?_); refine zaa 0 rfl rfl rfl ?_) | ((with_reducible refine zcx ?_); refine reg_callG [0] hG (foCheck w0 p F hF x) rfl rfl rfl sub_nil (fun u s hG => ?_)) | ((with_reducible refine zda ?_); first | refine zbg rfl rfl (by omega) ?_ | refine zbp rfl rfl ?_) | refine reg_indexA rfl rfl (by omega) rfl ?_) | refine zch ?_ | refine zci rfl ?_)
  refine run_cond rfl (fun hE => ?_) (fun hE => ?_)
  · rw [if_pos hE] at hG
    rw [hG.done]
    repeat' (first | refine zck ?_ | refine zcp (by kernel_rfl) ?_ | (refine zap rfl ?_; first | ((with_reducible refine zcu ?_); refine zan rfl ?_) | ((with_reducible refine zcv ?_); refine zan rfl ?_) | ((with_reducible refine zdd ?_); refine zae 1 rfl rfl rfl rfl rfl rfl rfl ?_) | refine reg_buildA rfl ?_) | refine zch ?_)
    exact run_ret (leaves_nil (ends_take [0] rfl (ends_two rfl (resOk_pt 1 rfl rfl rfl) rfl ⟨rfl, rfl, rfl⟩)))
  · rw [if_neg hE] at hG
    repeat' (first | refine zck ?_ | refine zcp (by kernel_rfl) ?_ | refine zcm ?_ | refine zcl ?_ | refine zcn ?_ | refine zco ?_ | (refine zap rfl ?_; first | ((with_reducible refine zcu ?_); refine zan rfl ?_) | ((with_reducible refine zcv ?_); refine zan rfl ?_) | ((with_reducible refine zcw ?_); refine zaa 0 rfl rfl rfl ?_) | ((with_reducible refine zcx ?_); refine reg_callG [0] hG (foCheck w0 p F hF y) rfl rfl rfl sub_nil (fun u s hG => ?_)) | ((with_reducible refine zda ?_); first | refine zbg rfl rfl (by omega) ?_ | refine zau rfl rfl (by omega) ?_ | refine zbp rfl rfl ?_) | refine reg_indexA rfl rfl (by omega) rfl ?_) | refine zch ?_ | refine zci rfl ?_)
    refine run_cond rfl (fun hE => ?_) (fun hE => ?_)
    · rw [if_pos hE] at hG
      rw [hG.done]
      repeat' (first | refine zck ?_ | refine zcp (by kernel_rfl) ?_ | (refine zap rfl ?_; first | ((with_reducible refine zcu ?_); refine zan rfl ?_) | ((with_reducible refine zcv ?_); refine zan rfl ?_) | ((with_reducible refine zdd ?_); refine zae 1 rfl rfl rfl rfl rfl rfl rfl ?_) | refine reg_buildA rfl ?_) | refine zch ?_)
      exact run_ret (leaves_nil (ends_take [0] rfl (ends_two rfl (resOk_pt 1 rfl rfl rfl) rfl ⟨rfl, rfl, rfl⟩)))
    · rw [if_neg hE] at hG
      repeat' (first | refine zck ?_ | refine zcp (by kernel_rfl) ?_ | refine zcm ?_ | refine zcl ?_ | refine zcn ?_ | refine zco ?_ | refine zcs rfl ?_ | (refine zap rfl ?_; first | ((with_reducible refine zcu ?_); refine zan rfl ?_) | ((with_reducible refine zda ?_); first | refine zbh rfl rfl (by omega) ?_ | refine zau rfl rfl (by omega) ?_) | ((with_reducible refine zdh ?_); refine zar (fun nb => ?_)) | refine reg_buildA rfl ?_) | refine zch ?_ | refine zcj rfl ?_)
      refine run_loop1 ?_
      repeat' (first | refine zck ?_ | refine zcp (by kernel_rfl) ?_ | refine zcm ?_ | refine zcl ?_ | (refine zap rfl ?_; first | ((with_reducible refine zcu ?_); refine zan rfl ?_) | ((with_reducible refine zcv ?_); refine zan rfl ?_) | ((with_reducible refine zcw ?_); refine zaa 0 rfl rfl rfl ?_) | ((with_reducible refine zcx ?_); refine reg_callG [0] hG (foFind w0 p F hF x hx) rfl rfl rfl sub_nil (fun a s hG => ?_)) | ((with_reducible refine zcz ?_); refine zan rfl ?_) | ((with_reducible refine zda ?_); first | refine zbg rfl rfl (by omega) ?_ | refine zbp rfl rfl ?_) | refine reg_indexA rfl rfl (by omega) rfl ?_) | refine zch ?_ | refine zci rfl ?_)
      refine run_cond rfl (fun hE => ?_) (fun hE => ?_)
      · rw [if_pos hE] at hG
        rw [hG.done]
        repeat' (first | refine zck ?_ | refine zcp (by kernel_rfl) ?_ | (refine zap rfl ?_; first | ((with_reducible refine zcu ?_); refine zan rfl ?_) | ((with_reducible refine zcv ?_); refine zan rfl ?_) | ((with_reducible refine zdd ?_); refine zae 1 rfl rfl rfl rfl rfl rfl rfl ?_) | refine reg_buildA rfl ?_) | refine zch ?_)
        exact run_ret (leaves_nil (ends_take [0] rfl (ends_two rfl (resOk_pt 1 rfl rfl rfl) rfl ⟨rfl, rfl, rfl⟩)))
      · rw [if_neg hE] at hG
        repeat' (first | refine zck ?_ | refine zcp (by kernel_rfl) ?_ | refine zcm ?_ | refine zcl ?_ | refine zcn ?_ | refine zco ?_ | (refine zap rfl ?_; first | ((with_reducible refine zcu ?_); refine zan rfl ?_) | ((with_reducible refine zcv ?_); refine zan rfl ?_) | ((with_reducible refine zcw ?_); refine zaa 0 rfl rfl rfl ?_) | ((with_reducible refine zcx ?_); refine reg_callG [0] hG (foFind w0 p F hF y hy) rfl rfl rfl sub_nil (fun b s hG => ?_)) | ((with_reducible refine zcz ?_); refine zan rfl ?_) | ((with_reducible refine zda ?_); first | refine zbg rfl rfl (by omega) ?_ | refine zau rfl rfl (by omega) ?_ | refine zbp rfl rfl ?_) | ((with_reducible refine zdd ?_); refine zae 2 rfl rfl rfl rfl rfl rfl rfl ?_) | ((with_reducible refine zdf ?_); refine zat rfl rfl (by omega) ?_) | refine reg_indexA rfl rfl (by omega) rfl ?_) | refine zch ?_ | refine zci rfl ?_)
        refine run_cond rfl (fun hE => ?_) (fun hE => ?_)
        · rw [if_pos hE] at hG
          rw [hG.done]
          repeat' (first | refine zck ?_ | refine zcp (by kernel_rfl) ?_ | (refine zap rfl ?_; first | ((with_reducible refine zcu ?_); refine zan rfl ?_) | ((with_reducible refine zcv ?_); refine zan rfl ?_) | ((with_reducible refine zdd ?_); refine zae 1 rfl rfl rfl rfl rfl rfl rfl ?_) | refine reg_buildA rfl ?_) | refine zch ?_)
          exact run_ret (leaves_nil (ends_take [0] rfl (ends_two rfl (resOk_pt 1 rfl rfl rfl) rfl ⟨rfl, rfl, rfl⟩)))
        · rw [if_neg hE] at hG
          rw [hG.done]
          repeat' (first | refine zck ?_ | refine zcp (by kernel_rfl) ?_ | refine zcm ?_ | refine zcn ?_ | refine zco ?_ | refine zcs rfl ?_ | (refine zap rfl ?_; first | ((with_reducible refine zcu ?_); refine zan rfl ?_) | ((with_reducible refine zcv ?_); refine zan rfl ?_) | ((with_reducible refine zcw ?_); refine zab 2 rfl rfl rfl ?_) | ((with_reducible refine zda ?_); first | refine zbh rfl rfl (by omega) ?_ | refine zau rfl rfl (by omega) ?_) | ((with_reducible refine zdd ?_); first | refine zae 1 rfl rfl rfl rfl rfl rfl rfl ?_ | refine zae 2 rfl rfl rfl rfl rfl rfl rfl ?_) | ((with_reducible refine zdf ?_); refine zat rfl rfl (by omega) ?_)) | refine zch ?_ | refine zcj rfl ?_)
          exact run_ret (leaves_nil (ends_take [0] rfl (ends_two rfl (resOk_pt 1 rfl rfl rfl) rfl ⟨rfl, rfl, rfl⟩)))
theorem foSame (w0 : World) (p : Nat) (F : Fo) (hF : F.Ok) (x y : Int) (hx : x ≤ 9223372036854775807) (hy : y ≤ 9223372036854775807) : FnG w0 [] 26 [foV F, spP p, .int .i64 x, .int .i64 y] p (F.same x y) encBI := by
  intro s hS; have hG := At.start hS; generalize Pg.run _ s = R at hG ⊢
  refine fn_of_run en26 fn26 rfl rfl rfl ?_
  repeat (first | refine zck ?_ | refine zcl ?_ | refine zcm ?_ | refine zcn ?_)
  first | refine zcp (by kernel_rfl) ?_ | refine zcq PP_mixed (by kernel_rfl) (by kernel_rfl) ?_
  repeat' (refine zap rfl ?_; first | ((with_reducible refine zcv ?_); refine zan rfl ?_) | ((with_reducible refine zdg ?_); refine zaq (cs := [_, _, _, _]) rfl (fun nb => ?_)))
  all_goals refine zch ?_
  all_goals repeat (first | refine zck ?_ | refine zcl ?_ | refine zcm ?_ | refine zcn ?_)
  refine run_share [1] rfl ?_
  repeat' (first | refine zck ?_ | refine zcp (by kernel_rfl) ?_ | (refine zap rfl ?_; first | ((with_reducible refine zct ?_); first | refine zaj rfl ?_ | refine zak rfl ?_ | refine zam rfl rfl (fun _ => ?_) (fun _ => ?_)) | ((with_reducible refine zcu ?_); refine zan rfl ?_) | ((with_reducible refine zcv ?_); refine zan rfl ?_) | ((with_reducible refine zcw ?_); first | refine zaa 0 rfl rfl rfl ?_ | refine zab 1 rfl rfl rfl ?_) | ((with_reducible refine zcx ?_); refine reg_callG [0] hG (foBoth w0 p F hF x y hx hy) rfl rfl rfl sub_nil (fun u s hG => ?_)) | ((with_reducible refine zcz ?_); refine zan rfl ?_) | ((with_reducible refine zda ?_); refine zbo rfl rfl ?_) | ((with_reducible refine zdc ?_); first | refine zbu rfl ?_ | refine zbv rfl ?_) | ((with_reducible refine zdd ?_); refine zae 1 rfl rfl rfl rfl rfl rfl rfl ?_) | ((with_reducible refine zdf ?_); refine zat rfl rfl (by omega) ?_) | ((with_reducible refine zdh ?_); refine zar (fun nb => ?_))) | refine zch ?_)
  all_goals rw [hG.done]
  all_goals (refine run_take [0] rfl ?_; refine ret_tmp2 rfl ⟨?_, rfl⟩)
  all_goals refine congrArg Value.tuple (?_ : #[Value.bool _, .int .i64 _] = #[Value.bool _, .int .i64 _])
  all_goals simp_all
theorem foSize (w0 : World) (p : Nat) (F : Fo) (hF : F.Ok) (x : Int) (hx : x ≤ 9223372036854775807) : FnG w0 [] 16 [foV F, spP p, .int .i64 x] p (F.sizeOf x) encI2 := by
  obtain ⟨_, h1, h2⟩ := id hF
  intro s hS; have hG := At.start hS; generalize Pg.run _ s = R at hG ⊢
  refine fn_of_run en16 fn16 rfl rfl rfl ?_
  repeat (first | refine zck ?_ | refine zcl ?_ | refine zcm ?_ | refine zcn ?_)
  first | refine zcp (by kernel_rfl) ?_ | refine zcq PP_mixed (by kernel_rfl) (by kernel_rfl) ?_
  repeat' (refine zap rfl ?_; first | ((with_reducible refine zcv ?_); refine zan rfl ?_) | ((with_reducible refine zdg ?_); refine zaq (cs := [_, _, _, _]) rfl (fun nb => ?_)))
  all_goals refine zch ?_
  all_goals repeat (first | refine zck ?_ | refine zcl ?_ | refine zcm ?_ | refine zcn ?_)
  refine run_share [1] rfl ?_
  repeat' (first | refine zck ?_ | refine zcp (by kernel_rfl) ?_ | (refine zap rfl ?_; first | ((with_reducible refine zcu ?_); refine zan rfl ?_) | ((with_reducible refine zcv ?_); refine zan rfl ?_) | ((with_reducible refine zcw ?_); refine zaa 0 rfl rfl rfl ?_) | ((with_reducible refine zcx ?_); refine reg_callGP [0] hG (F.all_find x hx) (foFind w0 p F hF x hx) rfl rfl rfl sub_nil (fun r s hr hG => ?_)) | ((with_reducible refine zcz ?_); refine zan rfl ?_) | ((with_reducible refine zda ?_); refine zbp rfl rfl ?_)) | refine zch ?_)
  refine run_cond rfl (fun hE => ?_) (fun hE => ?_)
  · rw [if_pos hE] at hG
    rw [hG.done]
    repeat' (first | refine zck ?_ | refine zcp (by kernel_rfl) ?_ | (refine zap rfl ?_; first | ((with_reducible refine zcu ?_); refine zan rfl ?_) | ((with_reducible refine zcv ?_); refine zan rfl ?_)) | refine zch ?_)
    exact ret_tmp2 rfl ⟨rfl, rfl⟩
  · rw [if_neg hE] at hG
    have hr := hr (by omega)
    repeat' (first | refine zck ?_ | refine zcp (by kernel_rfl) ?_ | refine zcm ?_ | (refine zap rfl ?_; first | ((with_reducible refine zcu ?_); refine zan rfl ?_) | ((with_reducible refine zcv ?_); refine zan rfl ?_) | ((with_reducible refine zcw ?_); refine zaa 0 rfl rfl rfl ?_) | ((with_reducible refine zcx ?_); refine reg_callGP [0] hG (F.all_place r.1) (foPlace w0 p F hF r.1 hr) rfl rfl rfl sub_nil (fun u s hb hG => ?_)) | ((with_reducible refine zcz ?_); refine zan rfl ?_) | ((with_reducible refine zdb ?_); refine zbx rfl ?_)) | refine zch ?_)
    refine run_condV rfl (fun hE => ?_) (fun hE => ?_)
    · have hE : u.2 = false := by simpa using hE
      simp only [hE, Bool.false_eq_true, if_false] at hG
      rw [hG.done]
      repeat' (first | refine zck ?_ | refine zcp (by kernel_rfl) ?_ | (refine zap rfl ?_; first | ((with_reducible refine zcv ?_); refine zan rfl ?_)) | refine zch ?_)
      exact ret_tmp2 rfl ⟨rfl, rfl⟩
    · have hE : u.2 = true := by simpa using hE
      simp only [hE, if_true] at hG
      repeat' (first | refine zck ?_ | refine zcp (by kernel_rfl) ?_ | refine zcm ?_ | (refine zap rfl ?_; first | ((with_reducible refine zcu ?_); refine zan rfl ?_) | ((with_reducible refine zcv ?_); refine zan rfl ?_) | ((with_reducible refine zcx ?_); refine reg_callG [0] hG (getG w0 p _) rfl rfl rfl sub_nil (fun u s hG => ?_)) | ((with_reducible refine zda ?_); refine zau rfl rfl (by omega) ?_)) | refine zch ?_)
      rw [hG.done]
      exact ret_tmp2 rfl ⟨rfl, rfl⟩
end Go.Proofs.Ytpcnbaddkblbhaa

/- The walk of package forest: Union. -/
namespace Go.Proofs.Ytpcnbaddkblbhaa
open Go.Vc Sim
set_option maxHeartbeats 4000000
theorem foUnion (w0 : World) (p : Nat) (F : Fo) (hF : F.Ok) (x y : Int) (hx : x ≤ 9223372036854775807) (hy : y ≤ 9223372036854775807) : FnG w0 [] 20 [foV F, spP p, .int .i64 x, .int .i64 y] p (F.union x y) encBI := by
  obtain ⟨_, h1, h2⟩ := id hF
  intro s hS; have hG := At.start hS; generalize Pg.run _ s = R at hG ⊢
  refine fn_of_run en20 fn20 rfl rfl rfl ?_
  repeat (first | refine zck ?_ | refine zcl ?_ | refine zcm ?_ | refine zcn ?_)
  first | refine zcp (by kernel_rfl) ?_ | refine zcq PP_mixed (by kernel_rfl) (by kernel_rfl) ?_
  repeat' (refine zap rfl ?_; first | ((with_reducible refine zcv ?_); refine zan rfl ?_) | ((with_reducible refine zdg ?_); refine zaq (cs := [_, _, _, _]) rfl (fun nb => ?_)))
  all_goals refine zch ?_
  all_goals repeat (first | refine zck ?_ | refine zcl ?_ | refine zcm ?_ | refine zcn ?_)
  refine run_share [1] rfl ?_
  repeat (first | refine zck ?_ | refine zcl ?_ | refine zcm ?_ | refine zcn ?_)
  first | refine zcp (by kernel_rfl) ?_ | refine zcq PP_mixed (by kernel_rfl) (by kernel_rfl) ?_
  repeat' (refine zap rfl ?_; first | ((with_reducible refine zcu ?_); refine zan rfl ?_) | ((with_reducible refine zcv ?_); refine zan rfl ?_) | ((with_reducible refine zcw ?_); refine zaa 0 rfl rfl rfl ?_) | ((with_reducible refine zcx ?_); refine reg_callGP [0] hG (F.all_both x y hx hy) (foBoth w0 p F hF x y hx hy) rfl rfl rfl sub_nil (fun r s hr hG => ?_)) | ((with_reducible refine zcz ?_); refine zan rfl ?_) | ((with_reducible refine zdd ?_); refine zae 1 rfl rfl rfl rfl rfl rfl rfl ?_) | ((with_reducible refine zdh ?_); refine zar (fun nb => ?_)))
  all_goals refine zch ?_
  all_goals repeat (first | refine zck ?_ | refine zcl ?_ | refine zcm ?_ | refine zcn ?_)
  rename_i c10
  refine run_share [1] rfl ?_
  by_cases hE : r.2 ≠ 0
  · rw [if_pos (.inl hE)] at hG
    rw [hG.done]
    repeat' (first | refine zck ?_ | refine zcp (by kernel_rfl) ?_ | (refine zap rfl ?_; first | ((with_reducible refine zct ?_); refine zak rfl ?_) | ((with_reducible refine zcu ?_); refine zan rfl ?_) | ((with_reducible refine zcv ?_); refine zan rfl ?_) | ((with_reducible refine zda ?_); refine zbe rfl rfl (by omega) ?_) | ((with_reducible refine zdc ?_); refine zbu rfl ?_)) | refine zch ?_ | refine zci rfl ?_)
    exact ret_tmp2 rfl ⟨rfl, rfl⟩
  by_cases hE2 : r.1.1 = r.1.2
  · rw [if_pos (.inr hE2)] at hG
    rw [hG.done]
    repeat' (first | refine zck ?_ | refine zcp (by kernel_rfl) ?_ | (refine zap rfl ?_; first | ((with_reducible refine zct ?_); refine zaj rfl ?_) | ((with_reducible refine zcu ?_); refine zan rfl ?_) | ((with_reducible refine zcv ?_); refine zan rfl ?_) | ((with_reducible refine zcw ?_); refine zaa 0 rfl rfl rfl ?_) | ((with_reducible refine zda ?_); first | refine zbc rfl rfl (by omega) ?_ | refine zbf rfl rfl (by omega) ?_) | ((with_reducible refine zdc ?_); refine zbv rfl ?_) | ((with_reducible refine zdf ?_); refine zat rfl rfl (by omega) ?_)) | refine zch ?_ | refine zci rfl ?_)
    exact ret_tmp2 rfl ⟨rfl, rfl⟩
  rw [if_neg (by omega)] at hG
  have hr := hr (by omega)
  unfold Fo.join at hG
  repeat' (first | refine zck ?_ | refine zcp (by kernel_rfl) ?_ | refine zcm ?_ | refine zcl ?_ | (refine zap rfl ?_; first | ((with_reducible refine zct ?_); refine zaj rfl ?_) | ((with_reducible refine zcu ?_); refine zan rfl ?_) | ((with_reducible refine zcw ?_); refine zaa 0 rfl rfl rfl ?_) | ((with_reducible refine zda ?_); first | refine zbd rfl rfl (by omega) ?_ | refine zbf rfl rfl (by omega) ?_) | ((with_reducible refine zdc ?_); refine zbv rfl ?_) | ((with_reducible refine zdf ?_); refine zat rfl rfl (by omega) ?_) | ((with_reducible refine zdh ?_); refine zar (fun nb => ?_))) | refine zch ?_ | refine zcj rfl ?_)
  refine run_loop1 ?_
  repeat' (first | refine zck ?_ | refine zcp (by kernel_rfl) ?_ | refine zcq PP_mixed (by kernel_rfl) (by kernel_rfl) ?_ | refine zcm ?_ | refine zcl ?_ | (refine zap rfl ?_; first | ((with_reducible refine zcu ?_); refine zan rfl ?_) | ((with_reducible refine zcv ?_); refine zan rfl ?_) | ((with_reducible refine zcw ?_); first | refine zaa 0 rfl rfl rfl ?_ | refine zaa 1 rfl rfl rfl ?_) | ((with_reducible refine zcx ?_); refine reg_callGP [0] hG (F.all_place r.1.1) (foPlace w0 p F hF r.1.1 hr.1) rfl rfl rfl sub_nil (fun a s ha hG => ?_)) | ((with_reducible refine zcz ?_); refine zan rfl ?_) | ((with_reducible refine zda ?_); refine zbg rfl rfl (by omega) ?_) | ((with_reducible refine zdb ?_); refine zbx rfl ?_) | ((with_reducible refine zdf ?_); refine zat rfl rfl (by omega) ?_)) | refine zch ?_ | refine zci rfl ?_)
  refine run_condV rfl (fun hE => ?_) (fun hE => ?_)
  · have hE : a.2 = false := by simpa using hE
    simp only [hE, Bool.false_eq_true, if_false] at hG
    rw [hG.done]
    repeat' (first | refine zck ?_ | refine zcp (by kernel_rfl) ?_ | (refine zap rfl ?_; first | ((with_reducible refine zcv ?_); refine zan rfl ?_)) | refine zch ?_)
    refine run_take [0] rfl ?_
    exact ret_tmp2 rfl ⟨rfl, rfl⟩
  have hE : a.2 = true := by simpa using hE
  simp only [hE, if_true] at hG
  repeat' (first | refine zck ?_ | refine zcp (by kernel_rfl) ?_ | refine zcq PP_mixed (by kernel_rfl) (by kernel_rfl) ?_ | refine zcm ?_ | refine zcl ?_ | refine zcn ?_ | refine zco ?_ | (refine zap rfl ?_; first | ((with_reducible refine zcu ?_); refine zan rfl ?_) | ((with_reducible refine zcv ?_); refine zan rfl ?_) | ((with_reducible refine zcw ?_); first | refine zaa 0 rfl rfl rfl ?_ | refine zaa 1 rfl rfl rfl ?_) | ((with_reducible refine zcx ?_); first | refine reg_callG [0] hG (getG w0 p _) rfl rfl rfl sub_nil (fun u s hG => ?_) | refine reg_callGP [0] hG (F.all_place r.1.2) (foPlace w0 p F hF r.1.2 hr.2) rfl rfl rfl sub_nil (fun b s hb hG => ?_)) | ((with_reducible refine zcz ?_); refine zan rfl ?_) | ((with_reducible refine zda ?_); first | refine zbg rfl rfl (by omega) ?_ | refine zau rfl rfl (by omega) ?_) | ((with_reducible refine zdb ?_); refine zbx rfl ?_) | ((with_reducible refine zdd ?_); first | refine zae 1 rfl rfl rfl rfl rfl rfl rfl ?_ | refine zae 2 rfl rfl rfl rfl rfl rfl rfl ?_) | ((with_reducible refine zdf ?_); refine zat rfl rfl (by omega) ?_)) | refine zch ?_ | refine zci rfl ?_)
  refine run_condV rfl (fun hE => ?_) (fun hE => ?_)
  · have hE : b.2 = false := by simpa using hE
    simp only [hE, Bool.false_eq_true, if_false] at hG
    rw [hG.done]
    repeat' (first | refine zck ?_ | refine zcp (by kernel_rfl) ?_ | (refine zap rfl ?_; first | ((with_reducible refine zcv ?_); refine zan rfl ?_)) | refine zch ?_)
    refine run_take [0] rfl ?_
    exact ret_tmp2 rfl ⟨rfl, rfl⟩
  have hE : b.2 = true := by simpa using hE
  simp only [hE, if_true] at hG
  repeat (first | refine zck ?_ | refine zcl ?_ | refine zcm ?_ | refine zcn ?_ | refine zco ?_)
  repeat (first | refine zck ?_ | refine zcl ?_ | refine zcm ?_ | refine zcn ?_)
  first | refine zcp (by kernel_rfl) ?_ | refine zcq PP_mixed (by kernel_rfl) (by kernel_rfl) ?_
  repeat' (refine zap rfl ?_; first | ((with_reducible refine zcu ?_); refine zan rfl ?_) | ((with_reducible refine zcx ?_); refine reg_callG [0] hG (getG w0 p _) rfl rfl rfl sub_nil (fun v s hG => ?_)) | ((with_reducible refine zda ?_); refine zau rfl rfl (by omega) ?_) | ((with_reducible refine zdd ?_); first | refine zae 1 rfl rfl rfl rfl rfl rfl rfl ?_ | refine zae 2 rfl rfl rfl rfl rfl rfl rfl ?_) | ((with_reducible refine zdf ?_); refine zat rfl rfl (by omega) ?_))
  all_goals refine zch ?_
  all_goals repeat (refine zck ?_)
  repeat (first | refine zck ?_ | refine zcl ?_ | refine zcm ?_ | refine zcn ?_)
  first | refine zcp (by kernel_rfl) ?_ | refine zcq PP_mixed (by kernel_rfl) (by kernel_rfl) ?_
  repeat' (refine zap rfl ?_; first | ((with_reducible refine zcu ?_); refine zan rfl ?_) | ((with_reducible refine zda ?_); refine zau rfl rfl (by omega) ?_))
  all_goals refine zch ?_
  all_goals repeat (refine zck ?_)
  refine zco ?_
  repeat (first | refine zck ?_ | refine zcl ?_ | refine zcm ?_ | refine zcn ?_ | refine zco ?_)
  repeat (first | refine zck ?_ | refine zcl ?_ | refine zcm ?_ | refine zcn ?_)
  first | refine zcp (by kernel_rfl) ?_ | refine zcq PP_mixed (by kernel_rfl) (by kernel_rfl) ?_
  repeat' (refine zap rfl ?_; first | ((with_reducible refine zda ?_); refine zbq rfl rfl ?_))
  all_goals refine zch ?_
  all_goals repeat (first | refine zck ?_ | refine zcl ?_ | refine zcm ?_ | refine zcn ?_)
  refine zcj rfl ?_
  refine zcs rfl ?_
  repeat (first | refine zck ?_ | refine zcl ?_ | refine zcm ?_ | refine zcn ?_)
  first | refine zcp (by kernel_rfl) ?_ | refine zcq PP_mixed (by kernel_rfl) (by kernel_rfl) ?_
  repeat' (refine zap rfl ?_; first | ((with_reducible refine zcv ?_); refine zan rfl ?_))
  all_goals refine zch ?_
  all_goals repeat (refine zck ?_)
  refine run_share [1] rfl ?_
  refine run_share [1] rfl ?_
  refine run_slots [(1, spP p), (4, .pointer (some ⟨_, 0, none⟩)), (10, .pointer (some ⟨_, 0, none⟩)), (12, .pointer (some ⟨_, 0, none⟩)), (13, .pointer (some ⟨_, 0, none⟩)), (17, .int .i64 0)] ⟨rfl, rfl, rfl, rfl, rfl, rfl, trivial⟩ (fun junk => ?_)
  simp only [Fo.hang, Pg.bind_assoc, Pg.pure_bind] at hG
  by_cases hc1 : v < u
  · rw [if_pos (.inl hc1)] at hG
    repeat' (first | refine zck ?_ | refine zcp (by kernel_rfl) ?_ | refine zcq PP_mixed (by kernel_rfl) (by kernel_rfl) ?_ | (refine zap rfl ?_; first | refine reg_add (t := 2) rfl rfl ?_ | ((with_reducible refine zct ?_); first | refine zak rfl ?_ | refine zal rfl ?_) | ((with_reducible refine zcu ?_); refine zan rfl ?_) | ((with_reducible refine zcv ?_); refine zan rfl ?_) | ((with_reducible refine zcw ?_); first | refine zaa 0 rfl rfl rfl ?_ | refine zaa 1 rfl rfl rfl ?_ | refine zaa 2 rfl rfl rfl ?_ | refine zaa 3 rfl rfl rfl ?_) | ((with_reducible refine zcx ?_); first | refine reg_callG [0] hG (getG w0 p _) rfl rfl rfl sub_nil (fun u s hG => ?_) | refine reg_callG [0] hG (putG w0 p _ _) rfl rfl rfl sub_nil (fun u s hG => ?_) | refine reg_callG [0] hG (foAdd w0 p _ _) rfl rfl rfl sub_nil (fun u s hG => ?_)) | ((with_reducible refine zcy ?_); refine zao rfl ?_) | ((with_reducible refine zda ?_); first | refine zbg rfl rfl (by omega) ?_ | refine reg_addZ rfl rfl (by omega) ?_ | refine zau rfl rfl (by omega) ?_ | refine zav rfl rfl (by omega) ?_) | ((with_reducible refine zdc ?_); refine zbu rfl ?_) | ((with_reducible refine zdf ?_); refine zat rfl rfl (by omega) ?_)) | refine zch ?_ | refine zci rfl ?_)
    rw [hG.done]
    exact ret_tmp2 rfl ⟨rfl, rfl⟩
  by_cases hc2 : v = u
  · by_cases hc3 : r.1.1 < r.1.2
    · rw [if_pos (.inr ⟨hc2, hc3⟩)] at hG
      repeat' (first | refine zck ?_ | refine zcp (by kernel_rfl) ?_ | refine zcq PP_mixed (by kernel_rfl) (by kernel_rfl) ?_ | (refine zap rfl ?_; first | refine reg_add (t := 2) rfl rfl ?_ | ((with_reducible refine zct ?_); refine zaj rfl ?_) | ((with_reducible refine zcu ?_); refine zan rfl ?_) | ((with_reducible refine zcv ?_); refine zan rfl ?_) | ((with_reducible refine zcw ?_); first | refine zaa 0 rfl rfl rfl ?_ | refine zaa 1 rfl rfl rfl ?_ | refine zaa 2 rfl rfl rfl ?_ | refine zaa 3 rfl rfl rfl ?_) | ((with_reducible refine zcx ?_); first | refine reg_callG [0] hG (getG w0 p _) rfl rfl rfl sub_nil (fun u s hG => ?_) | refine reg_callG [0] hG (putG w0 p _ _) rfl rfl rfl sub_nil (fun u s hG => ?_) | refine reg_callG [0] hG (foAdd w0 p _ _) rfl rfl rfl sub_nil (fun u s hG => ?_)) | ((with_reducible refine zcy ?_); refine zao rfl ?_) | ((with_reducible refine zda ?_); first | refine zbc rfl rfl (by omega) ?_ | refine zbh rfl rfl (by omega) ?_ | refine zbk rfl rfl (by omega) ?_ | refine reg_addZ rfl rfl (by omega) ?_ | refine zau rfl rfl (by omega) ?_ | refine zav rfl rfl (by omega) ?_) | ((with_reducible refine zdc ?_); first | refine zbu rfl ?_ | refine zbv rfl ?_) | ((with_reducible refine zdf ?_); refine zat rfl rfl (by omega) ?_)) | refine zch ?_ | refine zci rfl ?_)
      rw [hG.done]
      exact ret_tmp2 rfl ⟨rfl, rfl⟩
    · rw [if_neg (by omega)] at hG
      repeat' (first | refine zck ?_ | refine zcp (by kernel_rfl) ?_ | refine zcq PP_mixed (by kernel_rfl) (by kernel_rfl) ?_ | refine zcm ?_ | (refine zap rfl ?_; first | refine reg_add (t := 2) rfl rfl ?_ | ((with_reducible refine zct ?_); refine zaj rfl ?_) | ((with_reducible refine zcu ?_); refine zan rfl ?_) | ((with_reducible refine zcv ?_); refine zan rfl ?_) | ((with_reducible refine zcw ?_); first | refine zaa 0 rfl rfl rfl ?_ | refine zaa 1 rfl rfl rfl ?_ | refine zaa 2 rfl rfl rfl ?_ | refine zaa 3 rfl rfl rfl ?_) | ((with_reducible refine zcx ?_); first | refine reg_callG [0] hG (getG w0 p _) rfl rfl rfl sub_nil (fun u s hG => ?_) | refine reg_callG [0] hG (putG w0 p _ _) rfl rfl rfl sub_nil (fun u s hG => ?_) | refine reg_callG [0] hG (foAdd w0 p _ _) rfl rfl rfl sub_nil (fun u s hG => ?_)) | ((with_reducible refine zcy ?_); refine zao rfl ?_) | ((with_reducible refine zda ?_); first | refine zbc rfl rfl (by omega) ?_ | refine zbh rfl rfl (by omega) ?_ | refine zbl rfl rfl (by omega) ?_ | refine reg_addZ rfl rfl (by omega) ?_ | refine zau rfl rfl (by omega) ?_ | refine zav rfl rfl (by omega) ?_) | ((with_reducible refine zdc ?_); first | refine zbu rfl ?_ | refine zbv rfl ?_) | ((with_reducible refine zdf ?_); refine zat rfl rfl (by omega) ?_)) | refine zch ?_ | refine zcj rfl ?_)
      rw [hG.done]
      exact ret_tmp2 rfl ⟨rfl, rfl⟩
  · rw [if_neg (by omega)] at hG
    repeat' (first | refine zck ?_ | refine zcp (by kernel_rfl) ?_ | refine zcq PP_mixed (by kernel_rfl) (by kernel_rfl) ?_ | refine zcm ?_ | (refine zap rfl ?_; first | refine reg_add (t := 2) rfl rfl ?_ | ((with_reducible refine zct ?_); first | refine zaj rfl ?_ | refine zak rfl ?_) | ((with_reducible refine zcu ?_); refine zan rfl ?_) | ((with_reducible refine zcv ?_); refine zan rfl ?_) | ((with_reducible refine zcw ?_); first | refine zaa 0 rfl rfl rfl ?_ | refine zaa 1 rfl rfl rfl ?_ | refine zaa 2 rfl rfl rfl ?_ | refine zaa 3 rfl rfl rfl ?_) | ((with_reducible refine zcx ?_); first | refine reg_callG [0] hG (getG w0 p _) rfl rfl rfl sub_nil (fun u s hG => ?_) | refine reg_callG [0] hG (putG w0 p _ _) rfl rfl rfl sub_nil (fun u s hG => ?_) | refine reg_callG [0] hG (foAdd w0 p _ _) rfl rfl rfl sub_nil (fun u s hG => ?_)) | ((with_reducible refine zcy ?_); refine zao rfl ?_) | ((with_reducible refine zda ?_); first | refine zbd rfl rfl (by omega) ?_ | refine zbh rfl rfl (by omega) ?_ | refine reg_addZ rfl rfl (by omega) ?_ | refine zau rfl rfl (by omega) ?_ | refine zav rfl rfl (by omega) ?_) | ((with_reducible refine zdc ?_); refine zbv rfl ?_) | ((with_reducible refine zdf ?_); refine zat rfl rfl (by omega) ?_)) | refine zch ?_ | refine zcj rfl ?_)
    rw [hG.done]
    exact ret_tmp2 rfl ⟨rfl, rfl⟩
end Go.Proofs.Ytpcnbaddkblbhaa

/- The walks of package forest: Undo, room. -/
namespace Go.Proofs.Ytpcnbaddkblbhaa
open Go.Vc Sim
set_option maxHeartbeats 4000000
theorem foUndo (w0 : World) (p : Nat) (F : Fo) (hF : F.Ok) : FnG w0 [] 23 [foV F, spP p] p F.undo encBI := by
  obtain ⟨_, h1, h2⟩ := id hF
  intro s hS; have hG := At.start hS; generalize Pg.run _ s = R at hG ⊢
  refine fn_of_run en23 fn23 rfl rfl rfl ?_
  repeat (first | refine zck ?_ | refine zcl ?_ | refine zcm ?_ | refine zcn ?_)
  first | refine zcp (by kernel_rfl) ?_ | refine zcq PP_mixed (by kernel_rfl) (by kernel_rfl) ?_
  repeat' (refine zap rfl ?_; first | ((with_reducible refine zcv ?_); refine zan rfl ?_) | ((with_reducible refine zdg ?_); refine zaq (cs := [_, _, _, _]) rfl (fun nb => ?_)))
  all_goals refine zch ?_
  all_goals repeat (first | refine zck ?_ | refine zcl ?_ | refine zcm ?_ | refine zcn ?_)
  refine run_share [1] rfl ?_
  repeat' (first | refine zck ?_ | refine zcp (by kernel_rfl) ?_ | (refine zap rfl ?_; first | ((with_reducible refine zcu ?_); refine zan rfl ?_) | ((with_reducible refine zcv ?_); refine zan rfl ?_) | ((with_reducible refine zcw ?_); refine zaa 0 rfl rfl rfl ?_) | ((with_reducible refine zcx ?_); refine reg_callG [0] hG (getG w0 p _) rfl rfl rfl sub_nil (fun last s hG => ?_)) | ((with_reducible refine zcy ?_); refine zao rfl ?_) | ((with_reducible refine zda ?_); first | refine zau rfl rfl (by omega) ?_ | refine zbo rfl rfl ?_)) | refine zch ?_)
  refine run_cond rfl (fun hE => ?_) (fun hE => ?_)
  · rw [if_pos hE] at hG
    rw [hG.done]
    repeat' (first | refine zck ?_ | refine zcp (by kernel_rfl) ?_ | (refine zap rfl ?_; first | ((with_reducible refine zcv ?_); refine zan rfl ?_)) | refine zch ?_)
    exact ret_tmp2 rfl ⟨rfl, rfl⟩
  rw [if_neg hE] at hG
  repeat (first | refine zck ?_ | refine zcl ?_ | refine zcm ?_ | refine zcn ?_)
  first | refine zcp (by kernel_rfl) ?_ | refine zcq PP_mixed (by kernel_rfl) (by kernel_rfl) ?_
  repeat' (refine zap rfl ?_; first | ((with_reducible refine zcu ?_); refine zan rfl ?_) | ((with_reducible refine zcv ?_); refine zan rfl ?_) | ((with_reducible refine zcw ?_); refine zaa 0 rfl rfl rfl ?_) | ((with_reducible refine zcx ?_); refine reg_callGP [0] hG F.all_many (foMany w0 p F hF) rfl rfl rfl sub_nil (fun n s hn hG => ?_)) | ((with_reducible refine zcz ?_); refine zan rfl ?_))
  all_goals refine zch ?_
  all_goals repeat (first | refine zck ?_ | refine zcl ?_ | refine zcm ?_ | refine zcn ?_)
  by_cases hc : n.2 = true ∧ 1 ≤ last ∧ last ≤ n.1
  · rw [if_pos hc] at hG
    obtain ⟨hc1, hc2, hc3⟩ := hc
    have hn := hn hc1
    obtain ⟨n1, n2⟩ := n
    dsimp only at hc1 hc3 hn hG
    subst hc1
    repeat' (first | refine zck ?_ | refine zcp (by kernel_rfl) ?_ | refine zcm ?_ | (refine zap rfl ?_; first | refine zbx rfl ?_ | ((with_reducible refine zct ?_); refine zaj rfl ?_) | ((with_reducible refine zcu ?_); refine zan rfl ?_) | ((with_reducible refine zcv ?_); refine zan rfl ?_) | ((with_reducible refine zcw ?_); refine zaa 0 rfl rfl rfl ?_) | ((with_reducible refine zcx ?_); refine reg_callGP [0] hG (F.all_place last) (foPlace w0 p F hF last ⟨hc2, by omega⟩) rfl rfl rfl sub_nil (fun a s ha hG => ?_)) | ((with_reducible refine zcz ?_); refine zan rfl ?_) | ((with_reducible refine zda ?_); first | refine zbh rfl rfl (by omega) ?_ | refine zbl rfl rfl (by omega) ?_) | ((with_reducible refine zdc ?_); refine zbv rfl ?_)) | refine zch ?_ | refine zcj rfl ?_)
    refine run_condV rfl (fun hE => ?_) (fun hE => ?_)
    · have hE : a.2 = false := by simpa using hE
      simp only [hE, Bool.false_eq_true, if_false] at hG
      rw [hG.done]
      repeat' (first | refine zck ?_ | refine zcp (by kernel_rfl) ?_ | (refine zap rfl ?_; first | ((with_reducible refine zcv ?_); refine zan rfl ?_)) | refine zch ?_)
      exact ret_tmp2 rfl ⟨rfl, rfl⟩
    have hE : a.2 = true := by simpa using hE
    simp only [hE, if_true] at hG
    repeat (first | refine zck ?_ | refine zcl ?_ | refine zcm ?_ | refine zcn ?_)
    first | refine zcp (by kernel_rfl) ?_ | refine zcq PP_mixed (by kernel_rfl) (by kernel_rfl) ?_
    repeat' (refine zap rfl ?_; first | ((with_reducible refine zcu ?_); refine zan rfl ?_) | ((with_reducible refine zcv ?_); refine zan rfl ?_) | ((with_reducible refine zcx ?_); refine reg_callG [0] hG (getG w0 p _) rfl rfl rfl sub_nil (fun up s hG => ?_)) | ((with_reducible refine zda ?_); refine reg_addZ rfl rfl (by omega) ?_))
    all_goals refine zch ?_
    all_goals repeat (first | refine zck ?_ | refine zcl ?_ | refine zcm ?_ | refine zcn ?_)
    by_cases hc : up < 1 ∨ n1 < up
    · rw [if_pos hc] at hG
      rw [hG.done]
      by_cases hc4 : up < 1
      · repeat' (first | refine zck ?_ | refine zcp (by kernel_rfl) ?_ | (refine zap rfl ?_; first | ((with_reducible refine zct ?_); refine zak rfl ?_) | ((with_reducible refine zcu ?_); refine zan rfl ?_) | ((with_reducible refine zcv ?_); refine zan rfl ?_) | ((with_reducible refine zda ?_); refine zbg rfl rfl (by omega) ?_) | ((with_reducible refine zdc ?_); refine zbu rfl ?_)) | refine zch ?_ | refine zci rfl ?_)
        exact ret_tmp2 rfl ⟨rfl, rfl⟩
      · repeat' (first | refine zck ?_ | refine zcp (by kernel_rfl) ?_ | (refine zap rfl ?_; first | ((with_reducible refine zct ?_); refine zaj rfl ?_) | ((with_reducible refine zcu ?_); refine zan rfl ?_) | ((with_reducible refine zcv ?_); refine zan rfl ?_) | ((with_reducible refine zda ?_); first | refine zbh rfl rfl (by omega) ?_ | refine zbk rfl rfl (by omega) ?_) | ((with_reducible refine zdc ?_); refine zbv rfl ?_)) | refine zch ?_ | refine zci rfl ?_)
        exact ret_tmp2 rfl ⟨rfl, rfl⟩
    rw [if_neg hc] at hG
    repeat' (first | refine zck ?_ | refine zcp (by kernel_rfl) ?_ | refine zcm ?_ | (refine zap rfl ?_; first | ((with_reducible refine zct ?_); refine zaj rfl ?_) | ((with_reducible refine zcu ?_); refine zan rfl ?_) | ((with_reducible refine zcv ?_); refine zan rfl ?_) | ((with_reducible refine zcw ?_); refine zaa 0 rfl rfl rfl ?_) | ((with_reducible refine zcx ?_); refine reg_callGP [0] hG (F.all_place up) (foPlace w0 p F hF up ⟨by omega, by omega⟩) rfl rfl rfl sub_nil (fun b s hb hG => ?_)) | ((with_reducible refine zcz ?_); refine zan rfl ?_) | ((with_reducible refine zda ?_); first | refine zbh rfl rfl (by omega) ?_ | refine zbl rfl rfl (by omega) ?_) | ((with_reducible refine zdb ?_); refine zbx rfl ?_) | ((with_reducible refine zdc ?_); refine zbv rfl ?_)) | refine zch ?_ | refine zcj rfl ?_)
    refine run_condV rfl (fun hE => ?_) (fun hE => ?_)
    · have hE : b.2 = false := by simpa using hE
      simp only [hE, Bool.false_eq_true, if_false] at hG
      rw [hG.done]
      repeat' (first | refine zck ?_ | refine zcp (by kernel_rfl) ?_ | (refine zap rfl ?_; first | ((with_reducible refine zcv ?_); refine zan rfl ?_)) | refine zch ?_)
      exact ret_tmp2 rfl ⟨rfl, rfl⟩
    have hE : b.2 = true := by simpa using hE
    simp only [hE, if_true] at hG
    repeat (first | refine zck ?_ | refine zcl ?_ | refine zcm ?_ | refine zcn ?_ | refine zco ?_)
    refine run_slots [(1, spP p), (2, .pointer (some ⟨_, 0, none⟩)), (9, .int .i64 a.1), (11, .int .i64 b.1)] ⟨rfl, rfl, rfl, rfl, trivial⟩ (fun junk => ?_)
    repeat' (first | refine zck ?_ | refine zcp (by kernel_rfl) ?_ | refine zcq PP_mixed (by kernel_rfl) (by kernel_rfl) ?_ | (refine zap rfl ?_; first | refine reg_neg (t := 2) rfl ?_ | ((with_reducible refine zcu ?_); refine zan rfl ?_) | ((with_reducible refine zcv ?_); refine zan rfl ?_) | ((with_reducible refine zcw ?_); refine zaa 0 rfl rfl rfl ?_) | ((with_reducible refine zcx ?_); first | refine reg_callG [0] hG (getG w0 p _) rfl rfl rfl sub_nil (fun u s hG => ?_) | refine reg_callG [0] hG (putG w0 p _ _) rfl rfl rfl sub_nil (fun u s hG => ?_) | refine reg_callG [0] hG (foAdd w0 p _ _) rfl rfl rfl sub_nil (fun u s hG => ?_)) | ((with_reducible refine zcy ?_); refine zao rfl ?_) | ((with_reducible refine zda ?_); first | refine reg_addZ rfl rfl (by omega) ?_ | refine zau rfl rfl (by omega) ?_)) | refine zch ?_)
    rw [hG.done]
    exact ret_tmp2 rfl ⟨rfl, rfl⟩
  · rw [if_neg hc] at hG
    rw [hG.done]
    obtain ⟨n1, n2⟩ := n
    dsimp only at hc hn
    cases n2 with
    | false =>
      repeat' (first | refine zck ?_ | refine zcp (by kernel_rfl) ?_ | (refine zap rfl ?_; first | refine zbx rfl ?_ | ((with_reducible refine zct ?_); refine zak rfl ?_) | ((with_reducible refine zcu ?_); refine zan rfl ?_) | ((with_reducible refine zcv ?_); refine zan rfl ?_) | ((with_reducible refine zdc ?_); refine zbu rfl ?_)) | refine zch ?_ | refine zci rfl ?_)
      exact ret_tmp2 rfl ⟨rfl, rfl⟩
    | true =>
      have hc : ¬ (1 ≤ last ∧ last ≤ n1) := fun h => hc ⟨rfl, h⟩
      by_cases hc4 : last < 1
      · repeat' (first | refine zck ?_ | refine zcp (by kernel_rfl) ?_ | (refine zap rfl ?_; first | refine zbx rfl ?_ | ((with_reducible refine zct ?_); first | refine zaj rfl ?_ | refine zak rfl ?_) | ((with_reducible refine zcu ?_); refine zan rfl ?_) | ((with_reducible refine zcv ?_); refine zan rfl ?_) | ((with_reducible refine zda ?_); refine zbg rfl rfl (by omega) ?_) | ((with_reducible refine zdc ?_); first | refine zbu rfl ?_ | refine zbv rfl ?_)) | refine zch ?_ | refine zci rfl ?_)
        exact ret_tmp2 rfl ⟨rfl, rfl⟩
      · repeat' (first | refine zck ?_ | refine zcp (by kernel_rfl) ?_ | (refine zap rfl ?_; first | refine zbx rfl ?_ | ((with_reducible refine zct ?_); refine zaj rfl ?_) | ((with_reducible refine zcu ?_); refine zan rfl ?_) | ((with_reducible refine zcv ?_); refine zan rfl ?_) | ((with_reducible refine zda ?_); first | refine zbh rfl rfl (by omega) ?_ | refine zbk rfl rfl (by omega) ?_) | ((with_reducible refine zdc ?_); refine zbv rfl ?_)) | refine zch ?_ | refine zci rfl ?_)
        exact ret_tmp2 rfl ⟨rfl, rfl⟩
theorem foRoom (w0 : World) (p : Nat) (F : Fo) (hF : F.Ok) (x : Int) (hx : 1 ≤ x ∧ x ≤ 64) : FnG w0 [] 48 [foV F, spP p, .int .i64 x] p (F.room x) (.int .i64) := by
  obtain ⟨_, h1, h2⟩ := id hF
  intro s hS; have hG := At.start hS; generalize Pg.run _ s = R at hG ⊢
  refine fn_of_run en48 fn48 rfl rfl rfl ?_
  repeat (first | refine zck ?_ | refine zcl ?_ | refine zcm ?_ | refine zcn ?_)
  first | refine zcp (by kernel_rfl) ?_ | refine zcq PP_mixed (by kernel_rfl) (by kernel_rfl) ?_
  repeat' (refine zap rfl ?_; first | ((with_reducible refine zcv ?_); refine zan rfl ?_) | ((with_reducible refine zdg ?_); refine zaq (cs := [_, _, _, _]) rfl (fun nb => ?_)))
  all_goals refine zch ?_
  all_goals repeat (first | refine zck ?_ | refine zcl ?_ | refine zcm ?_ | refine zcn ?_)
  refine run_share [1] rfl ?_
  by_cases c1 : (x - 1) % 2 ≠ 0
  · rw [Fo.room, if_pos c1] at hG
    rw [hG.done]
    repeat' (first | refine zck ?_ | refine zcp (by kernel_rfl) ?_ | (refine zap rfl ?_; first | ((with_reducible refine zcu ?_); refine zan rfl ?_) | ((with_reducible refine zcv ?_); refine zan rfl ?_) | ((with_reducible refine zda ?_); first | refine zbe rfl rfl (by omega) ?_ | refine zav rfl rfl (by omega) ?_ | refine zax rfl rfl (by omega) ?_ | refine zay rfl rfl (by omega) ?_)) | refine zch ?_ | refine zci rfl ?_)
    exact ret_tmp1 rfl ⟨rfl, rfl⟩
  rw [Fo.room, if_neg c1] at hG
  repeat (first | refine zck ?_ | refine zcl ?_ | refine zcm ?_ | refine zcn ?_)
  first | refine zcp (by kernel_rfl) ?_ | refine zcq PP_mixed (by kernel_rfl) (by kernel_rfl) ?_
  repeat' (refine zap rfl ?_; first | ((with_reducible refine zcu ?_); refine zan rfl ?_) | ((with_reducible refine zcv ?_); refine zan rfl ?_) | ((with_reducible refine zda ?_); first | refine zav rfl rfl (by omega) ?_ | refine zax rfl rfl (by omega) ?_))
  all_goals refine zch ?_
  all_goals repeat (first | refine zck ?_ | refine zcl ?_ | refine zcm ?_ | refine zcn ?_)
  repeat (first | refine zck ?_ | refine zcl ?_ | refine zcm ?_ | refine zcn ?_)
  first | refine zcp (by kernel_rfl) ?_ | refine zcq PP_mixed (by kernel_rfl) (by kernel_rfl) ?_
  repeat' (refine zap rfl ?_; first | ((with_reducible refine zcu ?_); refine zan rfl ?_) | ((with_reducible refine zda ?_); first | refine zbf rfl rfl (by omega) ?_ | refine zav rfl rfl (by omega) ?_ | refine zay rfl rfl (by omega) ?_))
  all_goals refine zch ?_
  all_goals repeat (first | refine zck ?_ | refine zcl ?_ | refine zcm ?_ | refine zcn ?_)
  refine zcj rfl ?_
  repeat (first | refine zck ?_ | refine zcl ?_ | refine zcm ?_ | refine zcn ?_)
  first | refine zcp (by kernel_rfl) ?_ | refine zcq PP_mixed (by kernel_rfl) (by kernel_rfl) ?_
  repeat' (refine zap rfl ?_; first | ((with_reducible refine zcu ?_); refine zan rfl ?_) | ((with_reducible refine zda ?_); first | refine zbo rfl rfl ?_ | refine zay rfl rfl (by omega) ?_))
  all_goals refine zch ?_
  all_goals repeat (first | refine zck ?_ | refine zcl ?_ | refine zcm ?_ | refine zcn ?_)
  refine run_bind_eq2 (σ := { s : Sp // At R (F.roomN x) s }) (l' := fun _ => [(1, spP p), (2, .int .i64 x), (3, .pointer (some ⟨nb, 0, none⟩))]) (Γ' := fun st => [SpaceA p st.1]) ?_ (fun ⟨s, hG⟩ junk => ?_)
  · refine run_cond rfl (fun c2 => ?_) (fun c2 => ?_)
    · rw [if_pos c2] at hG
      repeat' (first | refine zck ?_ | refine zcp (by kernel_rfl) ?_ | (refine zap rfl ?_; first | ((with_reducible refine zcu ?_); refine zan rfl ?_) | ((with_reducible refine zcv ?_); refine zan rfl ?_) | ((with_reducible refine zcw ?_); refine zaa 0 rfl rfl rfl ?_) | ((with_reducible refine zcx ?_); refine reg_callG [0] hG (foTake w0 p F hF) rfl rfl rfl sub_nil (fun t s hG => ?_)) | ((with_reducible refine zcz ?_); refine zan rfl ?_) | ((with_reducible refine zda ?_); refine zbp rfl rfl ?_)) | refine zch ?_)
      refine run_cond rfl (fun hE => ?_) (fun hE => ?_)
      · rw [if_pos hE] at hG
        rw [hG.done]
        repeat' (first | refine zck ?_ | refine zcp (by kernel_rfl) ?_ | (refine zap rfl ?_; first | ((with_reducible refine zcu ?_); refine zan rfl ?_) | ((with_reducible refine zcv ?_); refine zan rfl ?_)) | refine zch ?_)
        exact qret1 (fun _ _ h => h) rfl ⟨rfl, rfl⟩
      rw [if_neg hE] at hG
      repeat' (first | refine zcp (by kernel_rfl) ?_ | refine zcm ?_ | (refine zap rfl ?_; first | ((with_reducible refine zcu ?_); refine zan rfl ?_) | ((with_reducible refine zcw ?_); refine zaa 0 rfl rfl rfl ?_) | ((with_reducible refine zcx ?_); refine reg_callG [0] hG (putG w0 p _ _) rfl rfl rfl sub_nil (fun u s hG => ?_)) | ((with_reducible refine zcy ?_); refine zao rfl ?_) | ((with_reducible refine zda ?_); first | refine zau rfl rfl (by omega) ?_ | refine zax rfl rfl (by omega) ?_)) | refine zch ?_)
      exact cut_end ⟨rfl, ⟨_, hG⟩, ⟨rfl, rfl, rfl, trivial⟩, rfl⟩
    · rw [if_neg c2] at hG
      repeat' (first | refine zcm ?_ | (refine zap rfl ?_; first | ((with_reducible refine zcu ?_); refine zan rfl ?_)) | refine zch ?_)
      exact cut_end ⟨rfl, ⟨_, hG⟩, ⟨rfl, rfl, rfl, trivial⟩, rfl⟩
  dsimp only
  unfold Fo.roomN at hG
  repeat' (first | refine zck ?_ | refine zcp (by kernel_rfl) ?_ | (refine zap rfl ?_; first | ((with_reducible refine zcu ?_); refine zan rfl ?_) | ((with_reducible refine zcv ?_); refine zan rfl ?_) | ((with_reducible refine zcw ?_); refine zaa 0 rfl rfl rfl ?_) | ((with_reducible refine zcx ?_); refine reg_callGP [0] hG (F.all_cell x) (foCell w0 p F hF x (by omega)) rfl rfl rfl sub_nil (fun c s hb hG => ?_)) | ((with_reducible refine zcz ?_); refine zan rfl ?_) | ((with_reducible refine zdb ?_); refine zbx rfl ?_)) | refine zch ?_)
  refine run_condV rfl (fun hE => ?_) (fun hE => ?_)
  · have hE : c.2 = false := by simpa using hE
    simp only [hE, Bool.false_eq_true, if_false] at hG
    rw [hG.done]
    repeat' (first | refine zck ?_ | refine zcp (by kernel_rfl) ?_ | (refine zap rfl ?_; first | ((with_reducible refine zcv ?_); refine zan rfl ?_)) | refine zch ?_)
    exact ret_tmp1 rfl ⟨rfl, rfl⟩
  have hE : c.2 = true := by simpa using hE
  simp only [hE, if_true] at hG
  repeat' (first | refine zck ?_ | refine zcp (by kernel_rfl) ?_ | refine zcm ?_ | (refine zap rfl ?_; first | ((with_reducible refine zcu ?_); refine zan rfl ?_) | ((with_reducible refine zcv ?_); refine zan rfl ?_) | ((with_reducible refine zcw ?_); refine zaa 0 rfl rfl rfl ?_) | ((with_reducible refine zcx ?_); refine reg_callG [0] hG (foTake w0 p F hF) rfl rfl rfl sub_nil (fun t s hG => ?_)) | ((with_reducible refine zcz ?_); refine zan rfl ?_) | ((with_reducible refine zda ?_); refine zbp rfl rfl ?_)) | refine zch ?_)
  refine run_cond rfl (fun hE => ?_) (fun hE => ?_)
  · rw [if_pos hE] at hG
    rw [hG.done]
    repeat' (first | refine zck ?_ | refine zcp (by kernel_rfl) ?_ | (refine zap rfl ?_; first | ((with_reducible refine zcu ?_); refine zan rfl ?_) | ((with_reducible refine zcv ?_); refine zan rfl ?_)) | refine zch ?_)
    exact ret_tmp1 rfl ⟨rfl, rfl⟩
  rw [if_neg hE] at hG
  repeat' (first | refine zck ?_ | refine zcp (by kernel_rfl) ?_ | refine zcm ?_ | (refine zap rfl ?_; first | ((with_reducible refine zcu ?_); refine zan rfl ?_) | ((with_reducible refine zcv ?_); refine zan rfl ?_) | ((with_reducible refine zcx ?_); refine reg_callG [0] hG (putG w0 p _ _) rfl rfl rfl sub_nil (fun u s hG => ?_))) | refine zch ?_)
  rw [hG.done]
  exact ret_tmp1 rfl ⟨rfl, rfl⟩
end Go.Proofs.Ytpcnbaddkblbhaa

/- The walk of package forest: Make. -/
namespace Go.Proofs.Ytpcnbaddkblbhaa
open Go.Vc Sim
set_option maxHeartbeats 4000000
abbrev cel (b : Nat) (v : Value) (T : TypeId) : Asn := pt b (.cells (List.toArray [v]) T (0, 0))
abbrev celO (v : Value) (T : TypeId) : Obj := .cells (List.toArray [v]) T (0, 0)
theorem foMake1 (w0 : World) (p : Nat) (s : Sp) (m : Nat) (e x : Int) (eb sb mb xb : Nat) :
    FnD PP w0 [] 46 [.pointer (some ⟨eb, 0, none⟩), .pointer (some ⟨sb, 0, none⟩), .pointer (some ⟨mb, 0, none⟩), .pointer (some ⟨xb, 0, none⟩)]
    [SpaceA p s, cel xb (.int .i64 x) 2, cel eb (.int .i64 e) 49, cel mb (.int .i64 m) 3, cel sb (spP p) 45]
    fun v Γ' => v = .tuple #[] ∧ Γ' = [SpaceA p (if e ≠ 0 then s.back m else s), cel xb (.int .i64 (if e ≠ 0 then 0 else x)) 2, cel eb (.int .i64 e) 49, cel mb (.int .i64 m) 3, cel sb (spP p) 45] := by
  refine fnD_of_run en46 fn46 rfl rfl rfl ?_
 
  repeat' (first | refine zck ?_ | refine zcp (by kernel_rfl) ?_ | (refine zap rfl ?_; first | ((with_reducible refine zcw ?_); refine zab 2 rfl rfl rfl ?_) | ((with_reducible refine zda ?_); refine zbp rfl rfl ?_)) | refine zch ?_)
  refine run_cond rfl (fun hE => ?_) (fun hE => ?_)
  · repeat' (first | refine zck ?_ | refine zcp (by kernel_rfl) ?_ | (refine zap rfl ?_; first | ((with_reducible refine zcw ?_); first | refine zab 3 rfl rfl rfl ?_ | refine zab 4 rfl rfl rfl ?_) | ((with_reducible refine zcx ?_); refine zah [0] (back_spec w0 p s m) rfl rfl rfl sub_nil rfl ?_) | ((with_reducible refine zdd ?_); refine zae 1 rfl rfl rfl rfl rfl rfl rfl ?_)) | refine zch ?_)
    refine run_nil ⟨rfl, ends_none rfl ?_⟩
    rw [if_pos hE, if_pos hE]; exact ⟨rfl, rfl⟩
  · repeat' (first | refine zcm ?_ | (refine zap rfl ?_; first | ((with_reducible refine zct ?_); first | refine zaj rfl ?_ | refine zak rfl ?_ | refine zal rfl ?_ | refine zam rfl rfl (fun _ => ?_) (fun _ => ?_))) | refine zch ?_)
    refine run_nil ⟨rfl, ends_none rfl ?_⟩
    rw [if_neg hE, if_neg hE]; exact ⟨rfl, rfl⟩
def makeD (eb sb mb xb : Nat) : Deferred := { target := .fn (.func 46) (List.toArray [.pointer (some ⟨eb, 0, none⟩), .pointer (some ⟨sb, 0, none⟩), .pointer (some ⟨mb, 0, none⟩), .pointer (some ⟨xb, 0, none⟩)]), args := List.toArray [] }
theorem make_fin (w0 : World) (p eb sb mb xb : Nat) (m : Nat) (R : (Int × Int) × Sp) (x e : Int) (s : Sp) (ρ : Env) (h4 : ρ 4 = .pointer (some ⟨xb, 0, none⟩)) (h5 : ρ 5 = .pointer (some ⟨eb, 0, none⟩)) (hG : At R (Fo.after m (x, e)) s) :
    LeavesS PP w0 [] Try.f18 ρ [makeD eb sb mb xb] [SpaceA p s, cel xb (.int .i64 x) 2, cel eb (.int .i64 e) 49, cel mb (.int .i64 m) 3, cel sb (spP p) 45] (fun v Γ => v = encI2 R.1 ∧ Γ = [SpaceA p R.2]) := by
  refine leaves_defer1 [0, 0, 0, 0, 0] (foMake1 w0 p s m e x eb sb mb xb) rfl rfl sub_nil ?_
  refine leaves_nil (ends_take [0] rfl (ends_two rfl (resOk_pt 1 h4 rfl rfl) (resOk_pt 2 h5 rfl rfl) ?_))
  refine ⟨rfl, ?_⟩
  unfold Fo.after at hG
  by_cases hE : e ≠ 0
  · dsimp only at hG
    rw [if_pos hE] at hG
    rw [hG.step.2.done, if_pos hE, if_pos hE]
    exact ⟨rfl, rfl⟩
  · dsimp only at hG
    rw [if_neg hE] at hG
    rw [hG.done, if_neg hE, if_neg hE]
    exact ⟨rfl, rfl⟩
theorem foMake (w0 : World) (p : Nat) (F : Fo) (hF : F.Ok) : FnG w0 [] 18 [foV F, spP p] p F.make encI2 := by
  obtain ⟨_, h1, h2⟩ := id hF
  intro s hS; have hG := At.start hS; generalize Pg.run _ s = R at hG ⊢
  refine fn_of_run en18 fn18 rfl rfl rfl ?_
  repeat (first | refine zck ?_ | refine zcl ?_ | refine zcm ?_ | refine zcn ?_)
  first | refine zcp (by kernel_rfl) ?_ | refine zcq PP_mixed (by kernel_rfl) (by kernel_rfl) ?_
  repeat' (refine zap rfl ?_; first | ((with_reducible refine zdg ?_); first | refine zaq (cs := [_]) rfl (fun nb => ?_) | refine zaq (cs := [_, _, _, _]) rfl (fun nb => ?_)) | ((with_reducible refine zdh ?_); refine zar (fun nb => ?_)))
  all_goals refine zch ?_
  all_goals repeat (first | refine zck ?_ | refine zcl ?_ | refine zcm ?_ | refine zcn ?_)
  rename_i fb sb xb
  revert nb; intro eb
  refine run_share [1] rfl ?_
  refine run_share_keep [1] rfl ?_
  repeat (first | refine zck ?_ | refine zcl ?_ | refine zcm ?_ | refine zcn ?_)
  first | refine zcp (by kernel_rfl) ?_ | refine zcq PP_mixed (by kernel_rfl) (by kernel_rfl) ?_
  repeat' (refine zap rfl ?_; first | ((with_reducible refine zcu ?_); refine zan rfl ?_) | ((with_reducible refine zcv ?_); refine zan rfl ?_) | ((with_reducible refine zcw ?_); first | refine zaa 0 rfl rfl rfl ?_ | refine zaa 1 rfl rfl rfl ?_) | ((with_reducible refine zcx ?_); refine reg_callGP [0] hG F.all_many (foMany w0 p F hF) rfl rfl rfl sub_nil (fun n s hn hG => ?_)) | ((with_reducible refine zcz ?_); refine zan rfl ?_))
  all_goals refine zch ?_
  all_goals repeat (first | refine zck ?_ | refine zcl ?_ | refine zcm ?_ | refine zcn ?_)
  obtain ⟨n1, n2⟩ := n
  dsimp only at hn hG
  cases n2 with
  | false =>
    rw [if_neg (by decide)] at hG
    rw [hG.done]
    repeat' (first | refine zck ?_ | refine zcp (by kernel_rfl) ?_ | (refine zap rfl ?_; first | refine zbx rfl ?_ | ((with_reducible refine zcu ?_); refine zan rfl ?_) | ((with_reducible refine zcv ?_); refine zan rfl ?_) | ((with_reducible refine zdd ?_); first | refine zae 1 rfl rfl rfl rfl rfl rfl rfl ?_ | refine zae 2 rfl rfl rfl rfl rfl rfl rfl ?_)) | refine zch ?_ | refine zci rfl ?_)
    exact run_ret (leaves_nil (ends_take [0] rfl (ends_two rfl (resOk_pt 1 rfl rfl rfl) (resOk_pt 2 rfl rfl rfl) ⟨rfl, rfl, rfl⟩)))
  | true =>
    rw [if_pos rfl] at hG
    have hn := hn rfl
    by_cases c1 : n1 = 64
    · rw [if_pos c1] at hG
      rw [hG.done]
      repeat' (first | refine zck ?_ | refine zcp (by kernel_rfl) ?_ | (refine zap rfl ?_; first | refine zbx rfl ?_ | ((with_reducible refine zcu ?_); refine zan rfl ?_) | ((with_reducible refine zcv ?_); refine zan rfl ?_) | ((with_reducible refine zda ?_); refine zbc rfl rfl (by omega) ?_) | ((with_reducible refine zdd ?_); first | refine zae 1 rfl rfl rfl rfl rfl rfl rfl ?_ | refine zae 2 rfl rfl rfl rfl rfl rfl rfl ?_)) | refine zch ?_ | refine zci rfl ?_ | refine zcj rfl ?_)
      exact run_ret (leaves_nil (ends_take [0] rfl (ends_two rfl (resOk_pt 1 rfl rfl rfl) (resOk_pt 2 rfl rfl rfl) ⟨rfl, rfl, rfl⟩)))
    rw [if_neg c1] at hG
    repeat (first | refine zck ?_ | refine zcl ?_ | refine zcm ?_ | refine zcn ?_)
    first | refine zcp (by kernel_rfl) ?_ | refine zcq PP_mixed (by kernel_rfl) (by kernel_rfl) ?_
    repeat' (refine zap rfl ?_; first | refine zbx rfl ?_ | ((with_reducible refine zcu ?_); refine zan rfl ?_) | ((with_reducible refine zcv ?_); refine zan rfl ?_))
    all_goals refine zch ?_
    all_goals repeat (first | refine zck ?_ | refine zcl ?_ | refine zcm ?_ | refine zcn ?_)
    refine zcj rfl ?_
    repeat (first | refine zck ?_ | refine zcl ?_ | refine zcm ?_ | refine zcn ?_)
    first | refine zcp (by kernel_rfl) ?_ | refine zcq PP_mixed (by kernel_rfl) (by kernel_rfl) ?_
    repeat' (refine zap rfl ?_; first | ((with_reducible refine zcu ?_); refine zan rfl ?_) | ((with_reducible refine zcv ?_); refine zan rfl ?_) | ((with_reducible refine zda ?_); refine zbd rfl rfl (by omega) ?_))
    all_goals refine zch ?_
    all_goals repeat (first | refine zck ?_ | refine zcl ?_ | refine zcm ?_ | refine zcn ?_)
    refine zcj rfl ?_
    repeat (first | refine zck ?_ | refine zcl ?_ | refine zcm ?_ | refine zcn ?_)
    first | refine zcp (by kernel_rfl) ?_ | refine zcq PP_mixed (by kernel_rfl) (by kernel_rfl) ?_
    repeat' (refine zap rfl ?_; first | ((with_reducible refine zcw ?_); refine zaa 0 rfl rfl rfl ?_) | ((with_reducible refine zcx ?_); refine reg_callG [0] hG (markG w0 p) rfl rfl rfl sub_nil (fun m s hG => ?_)) | ((with_reducible refine zdd ?_); refine zae 3 rfl rfl rfl rfl rfl rfl rfl ?_) | ((with_reducible refine zdh ?_); refine zar (fun nb => ?_)))
    all_goals refine zch ?_
    all_goals repeat (first | refine zck ?_ | refine zcl ?_ | refine zcm ?_ | refine zcn ?_)
    revert nb; intro mb
    refine run_share_keep [3] rfl ?_
    simp only [Fo.makeIn, Pg.bind_assoc, Pg.ite_bind, Pg.pure_bind] at hG
    repeat (first | refine zck ?_ | refine zcl ?_ | refine zcm ?_ | refine zcn ?_)
    first | refine zcp (by kernel_rfl) ?_ | refine zcq PP_mixed (by kernel_rfl) (by kernel_rfl) ?_
    repeat' (refine zap rfl ?_; first | refine zan rfl ?_ | refine zcd rfl rfl ?_)
    all_goals refine zch ?_
    all_goals repeat (first | refine zck ?_ | refine zcl ?_ | refine zcm ?_ | refine zcn ?_)
    repeat (first | refine zck ?_ | refine zcl ?_ | refine zcm ?_ | refine zcn ?_)
    first | refine zcp (by kernel_rfl) ?_ | refine zcq PP_mixed (by kernel_rfl) (by kernel_rfl) ?_
    repeat' (refine zap rfl ?_; first | ((with_reducible refine zcu ?_); refine zan rfl ?_) | ((with_reducible refine zda ?_); refine zau rfl rfl (by omega) ?_) | ((with_reducible refine zdd ?_); refine zae 1 rfl rfl rfl rfl rfl rfl rfl ?_))
    all_goals refine zch ?_
    all_goals repeat (first | refine zck ?_ | refine zcl ?_ | refine zcm ?_ | refine zcn ?_)
    repeat (first | refine zck ?_ | refine zcl ?_ | refine zcm ?_ | refine zcn ?_)
    first | refine zcp (by kernel_rfl) ?_ | refine zcq PP_mixed (by kernel_rfl) (by kernel_rfl) ?_
    repeat' (refine zap rfl ?_; first | ((with_reducible refine zcw ?_); first | refine zaa 1 rfl rfl rfl ?_ | refine zaa 2 rfl rfl rfl ?_ | refine zab 1 rfl rfl rfl ?_) | ((with_reducible refine zcx ?_); refine reg_callG [0] hG (foRoom w0 p F hF (n1 + 1) (by omega)) rfl rfl rfl sub_nil (fun e s hG => ?_)) | ((with_reducible refine zdd ?_); refine zae 2 rfl rfl rfl rfl rfl rfl rfl ?_))
    all_goals refine zch ?_
    all_goals repeat (first | refine zck ?_ | refine zcl ?_ | refine zcm ?_ | refine zcn ?_)
    repeat (first | refine zck ?_ | refine zcl ?_ | refine zcm ?_ | refine zcn ?_)
    first | refine zcp (by kernel_rfl) ?_ | refine zcq PP_mixed (by kernel_rfl) (by kernel_rfl) ?_
    repeat' (refine zap rfl ?_; first | ((with_reducible refine zcw ?_); refine zab 2 rfl rfl rfl ?_) | ((with_reducible refine zda ?_); refine zbp rfl rfl ?_))
    all_goals refine zch ?_
    all_goals repeat (first | refine zck ?_ | refine zcl ?_ | refine zcm ?_ | refine zcn ?_)
    refine run_cond rfl (fun hE => ?_) (fun hE => ?_)
    · rw [if_pos hE] at hG
      refine run_share_keep [2] rfl ?_
      repeat' (first | refine zck ?_ | refine zcq PP_mixed (by kernel_rfl) (by kernel_rfl) ?_ | (refine zap rfl ?_; first | refine reg_store_same 0 rfl rfl rfl rfl rfl rfl ?_ | ((with_reducible refine zcw ?_); refine zaa 0 rfl rfl rfl ?_) | ((with_reducible refine zdd ?_); refine zae 1 rfl rfl rfl rfl rfl rfl rfl ?_)) | refine zch ?_)
      exact run_ret (make_fin w0 p eb sb mb xb m R 0 e s _ rfl rfl hG)
    rw [if_neg hE] at hG
    refine run_slots [(2, .pointer (some ⟨fb, 0, none⟩)), (3, .pointer (some ⟨sb, 0, none⟩)), (4, .pointer (some ⟨xb, 0, none⟩)), (5, .pointer (some ⟨eb, 0, none⟩))] ⟨rfl, rfl, rfl, rfl, trivial⟩ (fun junk => ?_)
    repeat (first | refine zck ?_ | refine zcl ?_ | refine zcm ?_ | refine zcn ?_)
    first | refine zcp (by kernel_rfl) ?_ | refine zcq PP_mixed (by kernel_rfl) (by kernel_rfl) ?_
    repeat' (refine zap rfl ?_; first | ((with_reducible refine zcu ?_); refine zan rfl ?_) | ((with_reducible refine zcv ?_); refine zan rfl ?_) | ((with_reducible refine zcw ?_); first | refine zaa 1 rfl rfl rfl ?_ | refine zaa 2 rfl rfl rfl ?_ | refine zab 1 rfl rfl rfl ?_) | ((with_reducible refine zcx ?_); refine reg_callGP [0] hG (F.all_place (n1 + 1)) (foPlace w0 p F hF (n1 + 1) ⟨by omega, by omega⟩) rfl rfl rfl sub_nil (fun c s hb hG => ?_)) | ((with_reducible refine zcz ?_); refine zan rfl ?_))
    all_goals refine zch ?_
    all_goals repeat (first | refine zck ?_ | refine zcl ?_ | refine zcm ?_ | refine zcn ?_)
    repeat (first | refine zck ?_ | refine zcl ?_ | refine zcm ?_ | refine zcn ?_)
    first | refine zcp (by kernel_rfl) ?_ | refine zcq PP_mixed (by kernel_rfl) (by kernel_rfl) ?_
    repeat' (refine zap rfl ?_; first | ((with_reducible refine zcu ?_); refine zan rfl ?_) | ((with_reducible refine zdb ?_); refine zbx rfl ?_))
    all_goals refine zch ?_
    all_goals repeat (first | refine zck ?_ | refine zcl ?_ | refine zcm ?_ | refine zcn ?_)
    refine run_condV rfl (fun hE => ?_) (fun hE => ?_)
    · have hE : c.2 = false := by simpa using hE
      simp only [hE, Bool.false_eq_true, if_false] at hG
      repeat' (first | refine zck ?_ | refine zcp (by kernel_rfl) ?_ | (refine zap rfl ?_; first | ((with_reducible refine zdd ?_); first | refine zae 1 rfl rfl rfl rfl rfl rfl rfl ?_ | refine zae 2 rfl rfl rfl rfl rfl rfl rfl ?_)) | refine zch ?_)
      exact run_ret (make_fin w0 p eb sb mb xb m R 0 24 s _ rfl rfl hG)
    have hE : c.2 = true := by simpa using hE
    simp only [hE, if_true] at hG
    repeat (first | refine zck ?_ | refine zcl ?_ | refine zcm ?_ | refine zcn ?_)
    first | refine zcp (by kernel_rfl) ?_ | refine zcq PP_mixed (by kernel_rfl) (by kernel_rfl) ?_
    repeat' (refine zap rfl ?_; first | ((with_reducible refine zcu ?_); refine zan rfl ?_) | refine reg_buildA rfl ?_)
    all_goals refine zch ?_
    all_goals repeat (first | refine zck ?_ | refine zcl ?_ | refine zcm ?_ | refine zcn ?_)
    refine run_loop1 ?_
    repeat' (first | refine zck ?_ | refine zcp (by kernel_rfl) ?_ | refine zcq PP_mixed (by kernel_rfl) (by kernel_rfl) ?_ | refine zcm ?_ | refine zcl ?_ | refine zcn ?_ | refine zco ?_ | refine zcs rfl ?_ | (refine zap rfl ?_; first | refine reg_add (t := 2) rfl rfl ?_ | ((with_reducible refine zcu ?_); refine zan rfl ?_) | ((with_reducible refine zcv ?_); refine zan rfl ?_) | ((with_reducible refine zcw ?_); first | refine zaa 1 rfl rfl rfl ?_ | refine zaa 2 rfl rfl rfl ?_ | refine zab 1 rfl rfl rfl ?_) | ((with_reducible refine zcx ?_); first | refine reg_callG [0] hG (getG w0 p _) rfl rfl rfl sub_nil (fun u s hG => ?_) | refine reg_callG [0] hG (putG w0 p _ _) rfl rfl rfl sub_nil (fun u s hG => ?_)) | ((with_reducible refine zcy ?_); refine zao rfl ?_) | ((with_reducible refine zda ?_); first | refine zbg rfl rfl (by omega) ?_ | refine zbh rfl rfl (by omega) ?_ | refine reg_addZ rfl rfl (by omega) ?_ | refine zau rfl rfl (by omega) ?_) | ((with_reducible refine zdd ?_); first | refine zae 1 rfl rfl rfl rfl rfl rfl rfl ?_ | refine zae 2 rfl rfl rfl rfl rfl rfl rfl ?_) | refine reg_indexA rfl rfl (by omega) rfl ?_) | refine zch ?_ | refine zci rfl ?_ | refine zcj rfl ?_)
    exact run_ret (make_fin w0 p eb sb mb xb m R (n1 + 1) 0 s _ rfl rfl hG)
end Go.Proofs.Ytpcnbaddkblbhaa

