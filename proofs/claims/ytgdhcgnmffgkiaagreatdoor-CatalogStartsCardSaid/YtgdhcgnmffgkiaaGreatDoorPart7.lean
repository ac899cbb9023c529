import Derived.Test.YtgdhcgnmffgkiaaGreatDoorPart4
import Derived.Test.YtgdhcgnmffgkiaaGreatDoorKit
import Derived.Test.YtgdhcgnmffgkiaaGreatDoorPart1
import Derived.Test.YtgdhcgnmffgkiaaGreatDoorKitA
/- Lemmas and walks for the claims of this seat (own work): He2 He3 He4 He5 He6 Pl2 Ar0 Ar1 Ar2 Ar3 Ar4 Ar6 Ar5 Ar7 Ar8 Ar9 Ar10 Ar11 Ar12. -/
namespace Go.Proofs.YtgdhcgnmffgkiaaGreatDoor
open Go.Vc Sim
set_option maxHeartbeats 4000000
theorem heNode (w0 : World) (p wb : Nat) (H : He) (hH : H.Ok) (b : Bool) (n : Int) : FnE PP w0 [] 280 [.pointer (some ⟨wb, 0, none⟩), .int .i64 n] [hwA wb p H b] (.int .i64 (H.nd n b).1) [hwA wb p H (H.nd n b).2] := by
  have kn := node_spec w0 H.pool hH.1 n
  unfold He.nd
  cases hN : H.pool.node n with
  | true =>
    rw [hN] at kn
    rw [if_pos rfl]
    refine fn_of_run en280 fn280 rfl rfl rfl ?_
    repeat' (first | refine zck ?_ | refine zcp (by kernel_rfl) ?_ | refine zcm ?_ | (refine zap rfl ?_; first | refine zbx rfl ?_ | refine zan rfl ?_ | refine zan rfl ?_ | refine zab 0 rfl rfl rfl ?_ | refine zah [] kn rfl rfl rfl sub_nil rfl ?_ | refine zao rfl ?_ | refine zan rfl ?_ | refine zan rfl ?_) | refine zch ?_ | refine zcj rfl ?_)
    exact ret_tmp1 rfl ⟨rfl, rfl⟩
  | false =>
    rw [hN] at kn
    rw [if_neg (by decide)]
    refine fn_of_run en280 fn280 rfl rfl rfl ?_
    repeat' (first | refine zck ?_ | refine zcp (by kernel_rfl) ?_ | (refine zap rfl ?_; first | refine zbx rfl ?_ | refine zan rfl ?_ | refine zan rfl ?_ | refine zab 0 rfl rfl rfl ?_ | refine zah [] kn rfl rfl rfl sub_nil rfl ?_ | refine zao rfl ?_ | refine zan rfl ?_ | refine zae 0 rfl rfl rfl rfl rfl rfl rfl ?_ | refine zan rfl ?_) | refine zch ?_ | refine zci rfl ?_)
    exact ret_tmp1 rfl ⟨rfl, rfl⟩
theorem heRow (w0 : World) (p wb : Nat) (H : He) (hH : H.Ok) (b : Bool) (x : Int) (hx : 1 ≤ x ∧ x ≤ 100) : FnW w0 277 [.pointer (some ⟨wb, 0, none⟩), .int .i64 x] p wb H b (H.row x b) (fun a => .tuple #[.int .i64 a, .int .i64 ((x - 1) % 8)]) := by
  intro s hS; have hG := At.start hS; generalize Pg.run _ s = R at hG ⊢
  unfold He.row at hG
  refine fn_of_run en277 fn277 rfl rfl rfl ?_
  repeat' (first | refine zck ?_ | refine zcp (by kernel_rfl) ?_ | (refine zap rfl ?_; first | refine zan rfl ?_ | refine zan rfl ?_ | refine reg_callU [0, 0] hG (heRoot w0 p wb H b _) rfl rfl rfl (fun v s hG => ?_) | refine zah [1] (heNode w0 p wb H hH b _) rfl rfl rfl sub_nil rfl ?_ | refine zau rfl rfl (by omega) ?_ | refine zav rfl rfl (by omega) ?_ | refine zax rfl rfl (by omega) ?_ | refine zay rfl rfl (by omega) ?_) | refine zch ?_)
  rw [hG.done]
  refine run_take [1, 0] rfl ?_
  exact ret_tmp2 rfl ⟨rfl, rfl⟩
theorem heItem (w0 : World) (p wb : Nat) (H : He) (hH : H.Ok) (b : Bool) (x : Int) (hx : 1 ≤ x ∧ x ≤ 100) : FnW w0 157 [.pointer (some ⟨wb, 0, none⟩), .int .i64 x] p wb H b (H.item x b) (.int .i64) := by
  intro s hS; have hG := At.start hS; generalize Pg.run _ s = R at hG ⊢
  unfold He.item at hG
  refine fn_of_run en157 fn157 rfl rfl rfl ?_
  repeat (first | refine zck ?_ | refine zcl ?_ | refine zcm ?_ | refine zcn ?_)
  first | refine zcp (by kernel_rfl) ?_ | refine zcq PP_mixed (by kernel_rfl) (by kernel_rfl) ?_
  repeat' (refine zap rfl ?_; first | refine zan rfl ?_)
  all_goals refine zch ?_
  all_goals repeat (first | refine zck ?_ | refine zcl ?_ | refine zcm ?_ | refine zcn ?_)
  repeat (first | refine zck ?_ | refine zcl ?_ | refine zcm ?_ | refine zcn ?_)
  first | refine zcp (by kernel_rfl) ?_ | refine zcq PP_mixed (by kernel_rfl) (by kernel_rfl) ?_
  repeat' (refine zap rfl ?_; first | refine zan rfl ?_ | refine zan rfl ?_ | refine reg_callW [0, 0] hG (heRow w0 p wb H hH b x hx) rfl rfl rfl (fun a c s hG => ?_) | refine zan rfl ?_)
  all_goals refine zch ?_
  all_goals repeat (first | refine zck ?_ | refine zcl ?_ | refine zcm ?_ | refine zcn ?_)
  dsimp only at hG
  by_cases ha : a = 0
  · rw [if_pos ha] at hG
    rw [hG.done]
    repeat' (first | refine zck ?_ | refine zcp (by kernel_rfl) ?_ | (refine zap rfl ?_; first | refine zan rfl ?_ | refine zan rfl ?_ | refine zbc rfl rfl (by omega) ?_) | refine zch ?_ | refine zci rfl ?_)
    exact ret_tmp1 rfl ⟨rfl, rfl⟩
  · rw [if_neg ha] at hG
    repeat' (first | refine zck ?_ | refine zcp (by kernel_rfl) ?_ | refine zcm ?_ | (refine zap rfl ?_; first | refine zan rfl ?_ | refine zan rfl ?_ | refine reg_callU [0, 0] hG (heGet w0 p wb H c a _) rfl rfl rfl (fun v s hG => ?_) | refine zah [1] (heNode w0 p wb H hH c _) rfl rfl rfl sub_nil rfl ?_ | refine zbd rfl rfl (by omega) ?_) | refine zch ?_ | refine zcj rfl ?_)
    rw [hG.done]
    refine run_take [1, 0] rfl ?_
    exact ret_tmp1 rfl ⟨rfl, rfl⟩
theorem heLay (w0 : World) (p wb : Nat) (H : He) (hH : H.Ok) (b : Bool) (x a : Int) (hx : 1 ≤ x ∧ x ≤ 100) : FnW w0 276 [.pointer (some ⟨wb, 0, none⟩), .int .i64 x, .int .i64 a] p wb H b (H.lay x a b) encU := by
  intro s hS; have hG := At.start hS; generalize Pg.run _ s = R at hG ⊢
  unfold He.lay at hG
  refine fn_of_run en276 fn276 rfl rfl rfl ?_
  repeat (first | refine zck ?_ | refine zcl ?_ | refine zcm ?_ | refine zcn ?_)
  first | refine zcp (by kernel_rfl) ?_ | refine zcq PP_mixed (by kernel_rfl) (by kernel_rfl) ?_
  repeat' (refine zap rfl ?_; first | refine zan rfl ?_ | refine zan rfl ?_ | refine reg_callW [0, 0] hG (heRow w0 p wb H hH b x hx) rfl rfl rfl (fun r c s hG => ?_) | refine zan rfl ?_)
  all_goals refine zch ?_
  all_goals repeat (first | refine zck ?_ | refine zcl ?_ | refine zcm ?_ | refine zcn ?_)
  dsimp only at hG
  repeat' (first | refine zcp (by kernel_rfl) ?_ | (refine zap rfl ?_; first | refine zan rfl ?_ | refine reg_callU [0, 0] hG (hePut w0 p wb H c _ _ _) rfl rfl rfl (fun v s hG => ?_)) | refine zch ?_)
  rw [hG.done]
  exact end_tmp0 rfl ⟨rfl, rfl⟩
end Go.Proofs.YtgdhcgnmffgkiaaGreatDoor

namespace Go.Proofs.YtgdhcgnmffgkiaaGreatDoor
open Go.Vc Sim
set_option maxHeartbeats 4000000
theorem heRise (w0 : World) (p wb : Nat) (H : He) (hH : H.Ok) (b : Bool) (x a : Int) (hx : 1 ≤ x ∧ x ≤ 100) : FnW w0 155 [.pointer (some ⟨wb, 0, none⟩), .int .i64 x, .int .i64 a] p wb H b (H.rise x a b) (.int .i64) := by
  intro s hS; have hG := At.start hS; generalize Pg.run _ s = R at hG ⊢
  unfold He.rise at hG
  refine fn_of_run en155 fn155 rfl rfl rfl ?_
  repeat (first | refine zck ?_ | refine zcl ?_ | refine zcm ?_ | refine zcn ?_)
  first | refine zcp (by kernel_rfl) ?_ | refine zcq PP_mixed (by kernel_rfl) (by kernel_rfl) ?_
  repeat' (refine zap rfl ?_; first | refine zan rfl ?_)
  all_goals refine zch ?_
  all_goals repeat (first | refine zck ?_ | refine zcl ?_ | refine zcm ?_ | refine zcn ?_)
  repeat (first | refine zck ?_ | refine zcl ?_ | refine zcm ?_ | refine zcn ?_)
  first | refine zcp (by kernel_rfl) ?_ | refine zcq PP_mixed (by kernel_rfl) (by kernel_rfl) ?_
  repeat' (refine zap rfl ?_; first | refine zar (fun t7 => ?_) | refine zan rfl ?_ | refine reg_callU [0, 0] hG (heKey w0 p wb H b a) rfl rfl rfl (fun own s hG => ?_) | refine zae 2 rfl rfl rfl rfl rfl rfl rfl ?_)
  all_goals refine zch ?_
  all_goals repeat (first | refine zck ?_ | refine zcl ?_ | refine zcm ?_ | refine zcn ?_)
  refine run_share [2] rfl ?_
  repeat (first | refine zck ?_ | refine zcl ?_ | refine zcm ?_ | refine zcn ?_ | refine zco ?_)
  refine run_loop (S := Int × Bool × Nat × Sp) (fun v => [(0, .pointer (some ⟨wb, 0, none⟩)), (1, .int .i64 v.1), (2, .int .i64 a), (7, .pointer (some ⟨t7, 0, none⟩))])
    (fun v Γ => Γ = [SpaceA p v.2.2.2, hwA wb p H v.2.1] ∧ At R (H.riseK own a v.2.2.1 v.1 v.2.1) v.2.2.2 ∧ 1 ≤ v.1 ∧ v.1 ≤ 100 ∧ v.1 < 2 ^ v.2.2.1) (fun v => v.2.2.1) (x, b, 7, s) ⟨rfl, rfl, rfl, rfl, trivial⟩ ⟨rfl, hG, hx.1, hx.2, by dsimp only; omega⟩ ?_
  rintro ⟨y, c, k, s⟩ Γ junk ⟨rfl, hG, h1, h2, h3⟩
  dsimp only at hG h1 h2 h3 ⊢
  obtain ⟨j, rfl⟩ : ∃ j, k = j + 1 := by
    cases k with
    | zero => simp at h3; omega
    | succ j => exact ⟨j, rfl⟩
  rw [He.riseK] at hG
  by_cases hc : 1 < y ∧ c = false
  · rw [if_pos hc] at hG
    obtain ⟨hy1, rfl⟩ := hc
    repeat (first | refine zck ?_ | refine zcl ?_ | refine zcm ?_ | refine zcn ?_)
    first | refine zcp (by kernel_rfl) ?_ | refine zcq PP_mixed (by kernel_rfl) (by kernel_rfl) ?_
    repeat' (refine zap rfl ?_; first | refine zbx rfl ?_ | refine zaj rfl ?_ | refine zan rfl ?_ | refine zab 1 rfl rfl rfl ?_ | refine zao rfl ?_ | refine zbk rfl rfl (by omega) ?_ | refine zbu rfl ?_ | refine zan rfl ?_)
    all_goals refine zch ?_
    all_goals repeat (first | refine zck ?_ | refine zcl ?_ | refine zcm ?_ | refine zcn ?_)
    refine zci rfl ?_
    repeat (first | refine zck ?_ | refine zcl ?_ | refine zcm ?_ | refine zcn ?_)
    first | refine zcp (by kernel_rfl) ?_ | refine zcq PP_mixed (by kernel_rfl) (by kernel_rfl) ?_
    repeat' (refine zap rfl ?_; first | refine zan rfl ?_ | refine zan rfl ?_ | refine reg_callW [0, 0] hG (heItem w0 p wb H hH false (y / 2) (by omega)) rfl rfl rfl (fun u c s hG => ?_) | refine zax rfl rfl (by omega) ?_)
    all_goals refine zch ?_
    all_goals repeat (first | refine zck ?_ | refine zcl ?_ | refine zcm ?_ | refine zcn ?_)
    dsimp only at hG
    repeat (first | refine zck ?_ | refine zcl ?_ | refine zcm ?_ | refine zcn ?_)
    first | refine zcp (by kernel_rfl) ?_ | refine zcq PP_mixed (by kernel_rfl) (by kernel_rfl) ?_
    repeat' (refine zap rfl ?_; first | refine zbx rfl ?_ | refine zan rfl ?_ | refine zaa 0 rfl rfl rfl ?_ | refine reg_callU [0, 0] hG (heKey w0 p wb H _ _) rfl rfl rfl (fun q s hG => ?_) | refine zah [] (heAhead w0 own q) rfl rfl rfl sub_nil rfl ?_)
    all_goals refine zch ?_
    all_goals repeat (first | refine zck ?_ | refine zcl ?_ | refine zcm ?_ | refine zcn ?_)
    refine run_condV rfl (fun hE => ?_) (fun hE => ?_)
    · have hE : ahdB own q = false := by simpa using hE
      simp only [hE, Bool.false_eq_true, if_false] at hG
      refine cut_exit rfl rfl ?_
      repeat' (first | refine zck ?_ | refine zcp (by kernel_rfl) ?_ | (refine zap rfl ?_; first | refine zan rfl ?_ | refine zan rfl ?_ | refine reg_callW [0, 0] hG (heLay w0 p wb H hH c y a (by omega)) rfl rfl rfl (fun _ d s hG => ?_)) | refine zch ?_)
      rw [hG.done]
      exact ret_tmp1 rfl ⟨rfl, rfl⟩
    · have hE : ahdB own q = true := by simpa using hE
      simp only [hE, if_true] at hG
      repeat' (first | refine zck ?_ | refine zcp (by kernel_rfl) ?_ | refine zcm ?_ | refine zcn ?_ | (refine zap rfl ?_; first | refine zan rfl ?_ | refine zan rfl ?_ | refine reg_callW [0, 0] hG (heLay w0 p wb H hH c y u (by omega)) rfl rfl rfl (fun _ d s hG => ?_) | refine zax rfl rfl (by omega) ?_) | refine zch ?_)
      refine cut_end ⟨rfl, (y / 2, d, j, s), ⟨rfl, rfl, rfl, rfl, trivial⟩, ⟨rfl, hG, by dsimp only; omega, by dsimp only; omega, ?_⟩, by dsimp only; omega⟩
      dsimp only
      rw [Int.pow_succ] at h3
      omega
  · rw [if_neg hc] at hG
    by_cases hy1 : 1 < y
    · have hct : c = true := by cases c with
        | true => rfl
        | false => exact absurd ⟨hy1, rfl⟩ hc
      subst hct
      repeat (first | refine zck ?_ | refine zcl ?_ | refine zcm ?_ | refine zcn ?_)
      first | refine zcp (by kernel_rfl) ?_ | refine zcq PP_mixed (by kernel_rfl) (by kernel_rfl) ?_
      repeat' (refine zap rfl ?_; first | refine zbx rfl ?_ | refine zaj rfl ?_ | refine zan rfl ?_ | refine zab 1 rfl rfl rfl ?_ | refine zao rfl ?_ | refine zbk rfl rfl (by omega) ?_ | refine zbu rfl ?_ | refine zan rfl ?_)
      all_goals refine zch ?_
      all_goals repeat (first | refine zck ?_ | refine zcl ?_ | refine zcm ?_ | refine zcn ?_)
      refine zcj rfl ?_
      refine cut_exit rfl rfl ?_
      repeat' (first | refine zck ?_ | refine zcp (by kernel_rfl) ?_ | (refine zap rfl ?_; first | refine zan rfl ?_ | refine zan rfl ?_ | refine reg_callW [0, 0] hG (heLay w0 p wb H hH true y a (by omega)) rfl rfl rfl (fun _ d s hG => ?_)) | refine zch ?_)
      rw [hG.done]
      exact ret_tmp1 rfl ⟨rfl, rfl⟩
    · repeat (first | refine zck ?_ | refine zcl ?_ | refine zcm ?_ | refine zcn ?_)
      first | refine zcp (by kernel_rfl) ?_ | refine zcq PP_mixed (by kernel_rfl) (by kernel_rfl) ?_
      repeat' (refine zap rfl ?_; first | refine zak rfl ?_ | refine zan rfl ?_ | refine zbl rfl rfl (by omega) ?_ | refine zbv rfl ?_)
      all_goals refine zch ?_
      all_goals repeat (first | refine zck ?_ | refine zcl ?_ | refine zcm ?_ | refine zcn ?_)
      refine zcj rfl ?_
      refine cut_exit rfl rfl ?_
      repeat' (first | refine zck ?_ | refine zcp (by kernel_rfl) ?_ | (refine zap rfl ?_; first | refine zan rfl ?_ | refine zan rfl ?_ | refine reg_callW [0, 0] hG (heLay w0 p wb H hH c y a (by omega)) rfl rfl rfl (fun _ d s hG => ?_)) | refine zch ?_)
      rw [hG.done]
      exact ret_tmp1 rfl ⟨rfl, rfl⟩
end Go.Proofs.YtgdhcgnmffgkiaaGreatDoor

namespace Go.Proofs.YtgdhcgnmffgkiaaGreatDoor
open Go.Vc Sim
set_option maxHeartbeats 4000000
theorem heSink (w0 : World) (p wb : Nat) (H : He) (hH : H.Ok) (b : Bool) (x a n : Int) (hx : 1 ≤ x ∧ x ≤ 32) (hn : n ≤ 32) : FnW w0 278 [.pointer (some ⟨wb, 0, none⟩), .int .i64 x, .int .i64 a, .int .i64 n] p wb H b (H.sink x a n b) encU := by
  intro s hS; have hG := At.start hS; generalize Pg.run _ s = R at hG ⊢
  unfold He.sink at hG
  refine fn_of_run en278 fn278 rfl rfl rfl ?_
  repeat (first | refine zck ?_ | refine zcl ?_ | refine zcm ?_ | refine zcn ?_)
  first | refine zcp (by kernel_rfl) ?_ | refine zcq PP_mixed (by kernel_rfl) (by kernel_rfl) ?_
  repeat' (refine zap rfl ?_; first | refine zar (fun t8 => ?_) | refine zan rfl ?_ | refine reg_callU [0, 0] hG (heKey w0 p wb H b a) rfl rfl rfl (fun own s hG => ?_) | refine zae 2 rfl rfl rfl rfl rfl rfl rfl ?_)
  all_goals refine zch ?_
  all_goals repeat (first | refine zck ?_ | refine zcl ?_ | refine zcm ?_ | refine zcn ?_)
  refine run_share [2] rfl ?_
  repeat (first | refine zck ?_ | refine zcl ?_ | refine zcm ?_ | refine zcn ?_ | refine zco ?_)
  refine run_loop (S := Int × Bool × Nat × Sp) (fun v => [(0, .pointer (some ⟨wb, 0, none⟩)), (1, .int .i64 v.1), (2, .int .i64 a), (3, .int .i64 n), (8, .pointer (some ⟨t8, 0, none⟩))])
    (fun v Γ => Γ = [SpaceA p v.2.2.2, hwA wb p H v.2.1] ∧ At R (H.sinkK own a n v.2.2.1 v.1 v.2.1) v.2.2.2 ∧ 1 ≤ v.1 ∧ v.1 ≤ 33 ∧ 64 < v.1 * 2 ^ v.2.2.1) (fun v => v.2.2.1) (x, b, 7, s) ⟨rfl, rfl, rfl, rfl, rfl, trivial⟩ ⟨rfl, hG, hx.1, by dsimp only; omega, by dsimp only; omega⟩ ?_
  rintro ⟨y, c, k, s⟩ Γ junk ⟨rfl, hG, h1, h2, h3⟩
  dsimp only at hG h1 h2 h3 ⊢
  obtain ⟨j, rfl⟩ : ∃ j, k = j + 1 := by
    cases k with
    | zero => simp at h3; omega
    | succ j => exact ⟨j, rfl⟩
  rw [He.sinkK] at hG
  by_cases hc : 2 * y ≤ n ∧ c = false
  rotate_left
  · rw [if_neg hc] at hG
    by_cases hy1 : 2 * y ≤ n
    · have hct : c = true := by cases c with
        | true => rfl
        | false => exact absurd ⟨hy1, rfl⟩ hc
      subst hct
      repeat (first | refine zck ?_ | refine zcl ?_ | refine zcm ?_ | refine zcn ?_)
      first | refine zcp (by kernel_rfl) ?_ | refine zcq PP_mixed (by kernel_rfl) (by kernel_rfl) ?_
      repeat' (refine zap rfl ?_; first | refine zbx rfl ?_ | refine zaj rfl ?_ | refine zan rfl ?_ | refine zab 1 rfl rfl rfl ?_ | refine zao rfl ?_ | refine zbi rfl rfl (by omega) ?_ | refine zaw rfl rfl (by omega) ?_ | refine zbu rfl ?_ | refine zan rfl ?_)
      all_goals refine zch ?_
      all_goals repeat (first | refine zck ?_ | refine zcl ?_ | refine zcm ?_ | refine zcn ?_)
      refine zcj rfl ?_
      refine cut_exit rfl rfl ?_
      have hG := hG.to (Pg.bind_pure _).symm
      repeat' (first | refine zcp (by kernel_rfl) ?_ | (refine zap rfl ?_; first | refine zan rfl ?_ | refine reg_callW [0, 0] hG (heLay w0 p wb H hH true y a (by omega)) rfl rfl rfl (fun _ d s hG => ?_)) | refine zch ?_)
      rw [hG.done]
      exact end_tmp0 rfl ⟨rfl, rfl⟩
    · repeat (first | refine zck ?_ | refine zcl ?_ | refine zcm ?_ | refine zcn ?_)
      first | refine zcp (by kernel_rfl) ?_ | refine zcq PP_mixed (by kernel_rfl) (by kernel_rfl) ?_
      repeat' (refine zap rfl ?_; first | refine zak rfl ?_ | refine zan rfl ?_ | refine zbj rfl rfl (by omega) ?_ | refine zaw rfl rfl (by omega) ?_ | refine zbv rfl ?_)
      all_goals refine zch ?_
      all_goals repeat (first | refine zck ?_ | refine zcl ?_ | refine zcm ?_ | refine zcn ?_)
      refine zcj rfl ?_
      refine cut_exit rfl rfl ?_
      have hG := hG.to (Pg.bind_pure _).symm
      repeat' (first | refine zcp (by kernel_rfl) ?_ | (refine zap rfl ?_; first | refine zan rfl ?_ | refine reg_callW [0, 0] hG (heLay w0 p wb H hH c y a (by omega)) rfl rfl rfl (fun _ d s hG => ?_)) | refine zch ?_)
      rw [hG.done]
      exact end_tmp0 rfl ⟨rfl, rfl⟩
  rw [if_pos hc] at hG
  obtain ⟨hy1, rfl⟩ := hc
  simp only [He.kid, Pg.bind_assoc, Pg.ite_bind, Pg.pure_bind] at hG
  repeat (first | refine zck ?_ | refine zcl ?_ | refine zcm ?_ | refine zcn ?_)
  first | refine zcp (by kernel_rfl) ?_ | refine zcq PP_mixed (by kernel_rfl) (by kernel_rfl) ?_
  repeat' (refine zap rfl ?_; first | refine zbx rfl ?_ | refine zaj rfl ?_ | refine zan rfl ?_ | refine zab 1 rfl rfl rfl ?_ | refine zao rfl ?_ | refine zbi rfl rfl (by omega) ?_ | refine zaw rfl rfl (by omega) ?_ | refine zbu rfl ?_ | refine zan rfl ?_)
  all_goals refine zch ?_
  all_goals repeat (first | refine zck ?_ | refine zcl ?_ | refine zcm ?_ | refine zcn ?_)
  refine zci rfl ?_
  repeat (first | refine zck ?_ | refine zcl ?_ | refine zcm ?_ | refine zcn ?_)
  first | refine zcp (by kernel_rfl) ?_ | refine zcq PP_mixed (by kernel_rfl) (by kernel_rfl) ?_
  repeat' (refine zap rfl ?_; first | refine zan rfl ?_ | refine zan rfl ?_ | refine zaw rfl rfl (by omega) ?_)
  all_goals refine zch ?_
  all_goals repeat (first | refine zck ?_ | refine zcl ?_ | refine zcm ?_ | refine zcn ?_)
  repeat (first | refine zck ?_ | refine zcl ?_ | refine zcm ?_ | refine zcn ?_)
  first | refine zcp (by kernel_rfl) ?_ | refine zcq PP_mixed (by kernel_rfl) (by kernel_rfl) ?_
  repeat' (refine zap rfl ?_; first | refine zan rfl ?_ | refine zan rfl ?_ | refine reg_callW [0, 0] hG (heItem w0 p wb H hH false (2 * y) (by omega)) rfl rfl rfl (fun u c s hG => ?_))
  all_goals refine zch ?_
  all_goals repeat (first | refine zck ?_ | refine zcl ?_ | refine zcm ?_ | refine zcn ?_)
  dsimp only at hG
  repeat (first | refine zck ?_ | refine zcl ?_ | refine zcm ?_ | refine zcn ?_)
  first | refine zcp (by kernel_rfl) ?_ | refine zcq PP_mixed (by kernel_rfl) (by kernel_rfl) ?_
  repeat' (refine zap rfl ?_; first | refine zan rfl ?_ | refine zbq rfl rfl ?_)
  all_goals refine zch ?_
  all_goals repeat (first | refine zck ?_ | refine zcl ?_ | refine zcm ?_ | refine zcn ?_)
  refine run_join (S := Int × Int × Bool × Sp) (fun v => [(0, .pointer (some ⟨wb, 0, none⟩)), (1, .int .i64 y), (2, .int .i64 a), (3, .int .i64 n), (8, .pointer (some ⟨t8, 0, none⟩)), (9, .int .i64 v.1), (10, .int .i64 v.2.1)])
    (fun v Γ => Γ = [SpaceA p v.2.2.2, hwA wb p H v.2.2.1] ∧ At R (He.key v.2.1 >>= fun q => if ahdB q own = true then H.lay y v.2.1 v.2.2.1 >>= fun b => H.sinkK own a n j v.1 b.2 else H.lay y a v.2.2.1) v.2.2.2 ∧ 2 * y ≤ v.1 ∧ v.1 ≤ 2 * y + 1 ∧ v.1 ≤ 33) ?_ ?_
  · refine run_cond rfl (fun hk => ?_) (fun hk => ?_)
    · rw [if_pos hk] at hG
      repeat (first | refine zck ?_ | refine zcl ?_ | refine zcm ?_ | refine zcn ?_)
      first | refine zcp (by kernel_rfl) ?_ | refine zcq PP_mixed (by kernel_rfl) (by kernel_rfl) ?_
      repeat' (refine zap rfl ?_; first | refine zan rfl ?_ | refine zan rfl ?_ | refine reg_callW [0, 0] hG (heItem w0 p wb H hH c (2 * y + 1) (by omega)) rfl rfl rfl (fun v d s hG => ?_) | refine zau rfl rfl (by omega) ?_)
      all_goals refine zch ?_
      all_goals repeat (first | refine zck ?_ | refine zcl ?_ | refine zcm ?_ | refine zcn ?_)
      dsimp only at hG
      repeat (first | refine zck ?_ | refine zcl ?_ | refine zcm ?_ | refine zcn ?_)
      first | refine zcp (by kernel_rfl) ?_ | refine zcq PP_mixed (by kernel_rfl) (by kernel_rfl) ?_
      repeat' (refine zap rfl ?_; first | refine zan rfl ?_ | refine reg_callU [0, 0] hG (heKey w0 p wb H d _) rfl rfl rfl (fun q s hG => ?_) | refine zah [] (heAhead w0 _ _) rfl rfl rfl sub_nil rfl ?_)
      all_goals refine zch ?_
      all_goals repeat (first | refine zck ?_ | refine zcl ?_ | refine zcm ?_ | refine zcn ?_)
      refine run_condV rfl (fun hE => ?_) (fun hE => ?_)
      · simp only [hE, if_true] at hG
        repeat' (first | refine zcp (by kernel_rfl) ?_ | (refine zap rfl ?_; first | refine zan rfl ?_ | refine zan rfl ?_ | refine zau rfl rfl (by omega) ?_) | refine zch ?_)
        exact cut_end ⟨rfl, (2 * y + 1, v, d, s), ⟨rfl, rfl, rfl, rfl, rfl, rfl, rfl, trivial⟩, ⟨rfl, hG, by dsimp only; omega, by dsimp only; omega, by dsimp only; omega⟩⟩
      · simp only [hE, Bool.false_eq_true, if_false] at hG
        repeat' (first | refine zcm ?_ | (refine zap rfl ?_; first | refine zaj rfl ?_ | refine zak rfl ?_ | refine zal rfl ?_ | refine zam rfl rfl (fun _ => ?_) (fun _ => ?_)) | refine zch ?_)
        exact cut_end ⟨rfl, (2 * y, u, d, s), ⟨rfl, rfl, rfl, rfl, rfl, rfl, rfl, trivial⟩, ⟨rfl, hG, by dsimp only; omega, by dsimp only; omega, by dsimp only; omega⟩⟩
    · rw [if_neg hk] at hG
      repeat' (first | refine zcm ?_ | (refine zap rfl ?_; first | refine zaj rfl ?_ | refine zak rfl ?_ | refine zal rfl ?_ | refine zam rfl rfl (fun _ => ?_) (fun _ => ?_)) | refine zch ?_)
      exact cut_end ⟨rfl, (2 * y, u, c, s), ⟨rfl, rfl, rfl, rfl, rfl, rfl, rfl, trivial⟩, ⟨rfl, hG, by dsimp only; omega, by dsimp only; omega, by dsimp only; omega⟩⟩
  rintro ⟨kd, u, c, s⟩ Γ junk2 ⟨rfl, hG, g1, g2, g3⟩
  dsimp only at hG g1 g2 g3 ⊢
  repeat (first | refine zck ?_ | refine zcl ?_ | refine zcm ?_ | refine zcn ?_)
  first | refine zcp (by kernel_rfl) ?_ | refine zcq PP_mixed (by kernel_rfl) (by kernel_rfl) ?_
  repeat' (refine zap rfl ?_; first | refine zbx rfl ?_ | refine zan rfl ?_ | refine zaa 0 rfl rfl rfl ?_ | refine reg_callU [0, 0] hG (heKey w0 p wb H _ _) rfl rfl rfl (fun q s hG => ?_) | refine zah [] (heAhead w0 q own) rfl rfl rfl sub_nil rfl ?_)
  all_goals refine zch ?_
  all_goals repeat (first | refine zck ?_ | refine zcl ?_ | refine zcm ?_ | refine zcn ?_)
  refine run_condV rfl (fun hE => ?_) (fun hE => ?_)
  · have hE : ahdB q own = false := by simpa using hE
    simp only [hE, Bool.false_eq_true, if_false] at hG
    refine cut_exit rfl rfl ?_
    have hG := hG.to (Pg.bind_pure _).symm
    repeat' (first | refine zcp (by kernel_rfl) ?_ | (refine zap rfl ?_; first | refine zan rfl ?_ | refine reg_callW [0, 0] hG (heLay w0 p wb H hH c y a (by omega)) rfl rfl rfl (fun _ d s hG => ?_)) | refine zch ?_)
    rw [hG.done]
    exact end_tmp0 rfl ⟨rfl, rfl⟩
  · have hE : ahdB q own = true := by simpa using hE
    simp only [hE, if_true] at hG
    repeat' (first | refine zck ?_ | refine zcp (by kernel_rfl) ?_ | refine zcm ?_ | refine zcn ?_ | (refine zap rfl ?_; first | refine zan rfl ?_ | refine zan rfl ?_ | refine reg_callW [0, 0] hG (heLay w0 p wb H hH c y u (by omega)) rfl rfl rfl (fun _ d s hG => ?_)) | refine zch ?_)
    refine cut_end ⟨rfl, (kd, d, j, s), ⟨rfl, rfl, rfl, rfl, rfl, trivial⟩, ⟨rfl, hG, by dsimp only; omega, by dsimp only; omega, ?_⟩, by dsimp only; omega⟩
    dsimp only
    have h4 : y * 2 ^ (j + 1) = (2 * y) * 2 ^ j := by rw [Int.pow_succ]; ac_rfl
    rw [h4] at h3
    exact Int.lt_of_lt_of_le h3 (Int.mul_le_mul_of_nonneg_right g1 (Int.le_of_lt (Int.pow_pos (by decide))))
end Go.Proofs.YtgdhcgnmffgkiaaGreatDoor

namespace Sim
open Go Go.Vc Pg
theorem He.all_many (H : He) : Pg.All (fun r => r.2 = true → 0 ≤ r.1 ∧ r.1 ≤ 32) H.many := by
  unfold He.many
  exact all_then fun n => all_pure (fun h => of_decide_eq_true h)
end Sim
namespace Go.Vc
section
variable {P : Program} {w0 : World} {n : Nat} {sh sh0 : Shared} {k : List Item} {ρ : Env} {Γ : List Asn} {fn : Func} {R : Value → List Asn → Prop}
end
end Go.Vc
namespace Go.Proofs.YtgdhcgnmffgkiaaGreatDoor
open Go.Vc Sim
set_option maxHeartbeats 4000000
abbrev enc3 (r : (Int × Int) × Int) : Value := .tuple #[.int .i64 r.1.1, .int .i64 r.1.2, .int .i64 r.2]
theorem heRemove (w0 : World) (p wb : Nat) (H : He) (hH : H.Ok) (x n : Int) (hx : 1 ≤ x ∧ x ≤ n) (hn : n ≤ 32) : FnW w0 156 [.pointer (some ⟨wb, 0, none⟩), .int .i64 x, .int .i64 n] p wb H false (H.remove x n) enc3 := by
  intro s hS; have hG := At.start hS; generalize Pg.run _ s = R at hG ⊢
  simp only [He.remove] at hG
  refine fn_of_run en156 fn156 rfl rfl rfl ?_
  repeat (first | refine zck ?_ | refine zcl ?_ | refine zcm ?_ | refine zcn ?_)
  first | refine zcp (by kernel_rfl) ?_ | refine zcq PP_mixed (by kernel_rfl) (by kernel_rfl) ?_
  repeat' (refine zap rfl ?_; first | refine zan rfl ?_)
  all_goals refine zch ?_
  all_goals repeat (first | refine zck ?_ | refine zcl ?_ | refine zcm ?_ | refine zcn ?_)
  repeat (first | refine zck ?_ | refine zcl ?_ | refine zcm ?_ | refine zcn ?_)
  first | refine zcp (by kernel_rfl) ?_ | refine zcq PP_mixed (by kernel_rfl) (by kernel_rfl) ?_
  repeat' (refine zap rfl ?_; first | refine zan rfl ?_ | refine zan rfl ?_ | refine reg_callW [0, 0] hG (heItem w0 p wb H hH _ x (by omega)) rfl rfl rfl (fun it c s hG => ?_) | refine reg_callW [0, 0] hG (heItem w0 p wb H hH _ n (by omega)) rfl rfl rfl (fun la d s hG => ?_))
  all_goals refine zch ?_
  all_goals repeat (first | refine zck ?_ | refine zcl ?_ | refine zcm ?_ | refine zcn ?_)
  dsimp only at hG
  repeat (first | refine zck ?_ | refine zcl ?_ | refine zcm ?_ | refine zcn ?_)
  first | refine zcp (by kernel_rfl) ?_ | refine zcq PP_mixed (by kernel_rfl) (by kernel_rfl) ?_
  repeat' (refine zap rfl ?_; first | refine zan rfl ?_ | refine zan rfl ?_ | refine reg_callU [0, 0] hG (heGet w0 p wb H _ it 0) rfl rfl rfl (fun pr s hG => ?_) | refine reg_callU [0, 0] hG (heGet w0 p wb H _ it 1) rfl rfl rfl (fun v s hG => ?_))
  all_goals refine zch ?_
  all_goals repeat (first | refine zck ?_ | refine zcl ?_ | refine zcm ?_ | refine zcn ?_)
  repeat (first | refine zck ?_ | refine zcl ?_ | refine zcm ?_ | refine zcn ?_)
  first | refine zcp (by kernel_rfl) ?_ | refine zcq PP_mixed (by kernel_rfl) (by kernel_rfl) ?_
  repeat' (refine zap rfl ?_; first | refine zan rfl ?_ | refine zan rfl ?_ | refine reg_callW [0, 0] hG (heRow w0 p wb H hH _ n (by omega)) rfl rfl rfl (fun r e s hG => ?_) | refine zan rfl ?_)
  all_goals refine zch ?_
  all_goals repeat (first | refine zck ?_ | refine zcl ?_ | refine zcm ?_ | refine zcn ?_)
  dsimp only at hG
  repeat (first | refine zck ?_ | refine zcl ?_ | refine zcm ?_ | refine zcn ?_)
  first | refine zcp (by kernel_rfl) ?_ | refine zcq PP_mixed (by kernel_rfl) (by kernel_rfl) ?_
  repeat' (refine zap rfl ?_; first | refine zan rfl ?_ | refine zab 1 rfl rfl rfl ?_ | refine zao rfl ?_ | refine zan rfl ?_)
  all_goals refine zch ?_
  all_goals repeat (first | refine zck ?_ | refine zcl ?_ | refine zcm ?_ | refine zcn ?_)
  cases e with
  | true =>
    rw [if_pos rfl] at hG
    refine zci rfl ?_
    repeat' (first | refine zck ?_ | refine zcp (by kernel_rfl) ?_ | (refine zap rfl ?_; first | refine zan rfl ?_) | refine zch ?_)
    rw [hG.done]
    exact ret_tmp3 rfl ⟨rfl, rfl⟩
  | false =>
    rw [if_neg (by decide)] at hG
    refine zcj rfl ?_
    repeat (first | refine zck ?_ | refine zcl ?_ | refine zcm ?_ | refine zcn ?_)
    first | refine zcp (by kernel_rfl) ?_ | refine zcq PP_mixed (by kernel_rfl) (by kernel_rfl) ?_
    repeat' (refine zap rfl ?_; first | refine zan rfl ?_ | refine reg_callU [0, 0] hG (heAdd w0 p wb H false _ _) rfl rfl rfl (fun _ s hG => ?_))
    all_goals refine zch ?_
    all_goals repeat (first | refine zck ?_ | refine zcl ?_ | refine zcm ?_ | refine zcn ?_)
    repeat (first | refine zck ?_ | refine zcl ?_ | refine zcm ?_ | refine zcn ?_)
    first | refine zcp (by kernel_rfl) ?_ | refine zcq PP_mixed (by kernel_rfl) (by kernel_rfl) ?_
    repeat' (refine zap rfl ?_; first | refine zan rfl ?_ | refine zbp rfl rfl ?_)
    all_goals refine zch ?_
    all_goals repeat (first | refine zck ?_ | refine zcl ?_ | refine zcm ?_ | refine zcn ?_)
    refine run_join (S := Bool × Sp) (fun _ => [(0, .pointer (some ⟨wb, 0, none⟩)), (2, .int .i64 n), (9, .int .i64 it), (11, .int .i64 pr), (12, .int .i64 v), (13, .int .i64 r), (14, .int .i64 ((n - 1) % 8))])
      (fun z Γ => Γ = [SpaceA p z.2, hwA wb p H z.1] ∧ At R (H.rmRow n pr v it r z.1) z.2) ?_ ?_
    · refine run_cond rfl (fun hk => ?_) (fun hk => ?_)
      · rw [if_neg hk] at hG
        repeat (first | refine zck ?_ | refine zcl ?_ | refine zcm ?_ | refine zcn ?_)
        first | refine zcp (by kernel_rfl) ?_ | refine zcq PP_mixed (by kernel_rfl) (by kernel_rfl) ?_
        repeat' (refine zap rfl ?_; first | refine zan rfl ?_ | refine reg_callW [0, 0] hG (heRise w0 p wb H hH false x la (by omega)) rfl rfl rfl (fun q e s hG => ?_) | refine zbo rfl rfl ?_)
        all_goals refine zch ?_
        all_goals repeat (first | refine zck ?_ | refine zcl ?_ | refine zcm ?_ | refine zcn ?_)
        dsimp only at hG
        by_cases hq : q = x
        · rw [if_pos hq] at hG
          refine run_cond rfl (fun _ => ?_) (fun hc => absurd hq hc)
          repeat' (first | refine zcp (by kernel_rfl) ?_ | (refine zap rfl ?_; first | refine zan rfl ?_ | refine reg_callW [0, 0] hG (heSink w0 p wb H hH _ x la (n - 1) (by omega) (by omega)) rfl rfl rfl (fun _ g s hG => ?_) | refine zav rfl rfl (by omega) ?_) | refine zch ?_)
          exact cut_end ⟨rfl, (g, s), ⟨rfl, rfl, rfl, rfl, rfl, rfl, rfl, trivial⟩, ⟨rfl, hG⟩⟩
        · rw [if_neg hq] at hG
          refine run_cond rfl (fun hc => absurd hc hq) (fun _ => ?_)
          repeat' (first | refine zcm ?_ | (refine zap rfl ?_; first | refine zan rfl ?_) | refine zch ?_)
          exact cut_end ⟨rfl, (e, s), ⟨rfl, rfl, rfl, rfl, rfl, rfl, rfl, trivial⟩, ⟨rfl, hG⟩⟩
      · have hk : x = n := Decidable.not_not.1 hk
        rw [if_pos hk] at hG
        repeat' (first | refine zcm ?_ | (refine zap rfl ?_; first | refine zan rfl ?_) | refine zch ?_)
        exact cut_end ⟨rfl, (false, s), ⟨rfl, rfl, rfl, rfl, rfl, rfl, rfl, trivial⟩, ⟨rfl, hG⟩⟩
    rintro ⟨b, s⟩ Γ junk ⟨rfl, hG⟩
    dsimp only at hG ⊢
    repeat (first | refine zck ?_ | refine zcl ?_ | refine zcm ?_ | refine zcn ?_)
    first | refine zcp (by kernel_rfl) ?_ | refine zcq PP_mixed (by kernel_rfl) (by kernel_rfl) ?_
    repeat' (refine zap rfl ?_; first | refine zan rfl ?_ | refine zbo rfl rfl ?_)
    all_goals refine zch ?_
    all_goals repeat (first | refine zck ?_ | refine zcl ?_ | refine zcm ?_ | refine zcn ?_)
    refine run_join (S := Sp) (fun _ => [(0, .pointer (some ⟨wb, 0, none⟩)), (9, .int .i64 it), (11, .int .i64 pr), (12, .int .i64 v)])
      (fun z Γ => Γ = [SpaceA p z, hwA wb p H b] ∧ At R (H.rmEnd pr v it b) z) ?_ ?_
    · unfold He.rmRow at hG
      refine run_cond rfl (fun hk => ?_) (fun hk => ?_)
      · rw [if_pos hk] at hG
        have h38 := wrap64_id (m := 3 + (n - 1) / 8) (by omega) (by omega)
        repeat (first | refine zck ?_ | refine zcl ?_ | refine zcm ?_ | refine zcn ?_)
        first | refine zcp (by kernel_rfl) ?_ | refine run_drawR PP_mixed (by kernel_rfl) (by kernel_rfl) ?_
        repeat' (refine zap rfl ?_; first | refine reg_addE rfl rfl h38 ?_ | refine reg_add rfl rfl ?_ | refine zan rfl ?_ | refine zab 1 rfl rfl rfl ?_ | refine reg_callG [0] hG (putG w0 p _ _) rfl rfl rfl sub_nil (fun u s hG => ?_) | refine zao rfl ?_ | refine zav rfl rfl (by omega) ?_ | refine zax rfl rfl (by omega) ?_ | refine zan rfl ?_)
        all_goals refine zch ?_
        all_goals repeat (first | refine zck ?_ | refine zcl ?_ | refine zcm ?_ | refine zcn ?_)
        repeat (first | refine zck ?_ | refine zcl ?_ | refine zcm ?_ | refine zcn ?_)
        first | refine zcp (by kernel_rfl) ?_ | refine zcq PP_mixed (by kernel_rfl) (by kernel_rfl) ?_
        repeat' (refine zap rfl ?_; first | refine zan rfl ?_ | refine zan rfl ?_ | refine reg_callU [0, 0] hG (heGive w0 p wb H hH b r) rfl rfl rfl (fun e s hG => ?_))
        all_goals refine zch ?_
        all_goals repeat (first | refine zck ?_ | refine zcl ?_ | refine zcm ?_ | refine zcn ?_)
        by_cases he : e = 0
        · rw [if_neg (fun q => q he)] at hG
          repeat' (first | refine zcp (by kernel_rfl) ?_ | refine zcm ?_ | (refine zap rfl ?_; first | refine zan rfl ?_ | refine zbf rfl rfl (by omega) ?_) | refine zch ?_ | refine zcj rfl ?_)
          exact cut_end ⟨rfl, s, ⟨rfl, rfl, rfl, rfl, trivial⟩, ⟨rfl, hG⟩⟩
        · rw [if_pos he] at hG
          rw [hG.done]
          repeat' (first | refine zck ?_ | refine zcp (by kernel_rfl) ?_ | (refine zap rfl ?_; first | refine zan rfl ?_ | refine zan rfl ?_ | refine zbe rfl rfl (by omega) ?_) | refine zch ?_ | refine zci rfl ?_)
          exact cut_ret (leaves_nil (ends_three rfl rfl rfl rfl ⟨rfl, rfl⟩))
      · rw [if_neg hk] at hG
        repeat' (first | refine zcm ?_ | (refine zap rfl ?_; first | refine zan rfl ?_) | refine zch ?_)
        exact cut_end ⟨rfl, s, ⟨rfl, rfl, rfl, rfl, trivial⟩, ⟨rfl, hG⟩⟩
    rintro s Γ junk ⟨rfl, hG⟩
    unfold He.rmEnd at hG
    repeat (first | refine zck ?_ | refine zcl ?_ | refine zcm ?_ | refine zcn ?_)
    first | refine zcp (by kernel_rfl) ?_ | refine zcq PP_mixed (by kernel_rfl) (by kernel_rfl) ?_
    repeat' (refine zap rfl ?_; first | refine zan rfl ?_ | refine zan rfl ?_ | refine reg_callU [0, 0] hG (heGive w0 p wb H hH b it) rfl rfl rfl (fun e s hG => ?_))
    all_goals refine zch ?_
    all_goals repeat (first | refine zck ?_ | refine zcl ?_ | refine zcm ?_ | refine zcn ?_)
    by_cases he : e = 0
    rotate_left
    · rw [if_pos he] at hG
      rw [hG.done]
      repeat' (first | refine zck ?_ | refine zcp (by kernel_rfl) ?_ | (refine zap rfl ?_; first | refine zan rfl ?_ | refine zan rfl ?_ | refine zbe rfl rfl (by omega) ?_) | refine zch ?_ | refine zci rfl ?_)
      exact ret_tmp3 rfl ⟨rfl, rfl⟩
    rw [if_neg (fun q => q he)] at hG
    cases b with
    | true =>
      rw [if_pos rfl] at hG
      rw [hG.done]
      repeat' (first | refine zck ?_ | refine zcp (by kernel_rfl) ?_ | refine zcm ?_ | (refine zap rfl ?_; first | refine zan rfl ?_ | refine zan rfl ?_ | refine zab 1 rfl rfl rfl ?_ | refine zao rfl ?_ | refine zbf rfl rfl (by omega) ?_ | refine zan rfl ?_) | refine zch ?_ | refine zci rfl ?_ | refine zcj rfl ?_)
      exact ret_tmp3 rfl ⟨rfl, rfl⟩
    | false =>
      rw [if_neg (by decide)] at hG
      rw [hG.done]
      repeat' (first | refine zck ?_ | refine zcp (by kernel_rfl) ?_ | refine zcm ?_ | (refine zap rfl ?_; first | refine zan rfl ?_ | refine zan rfl ?_ | refine zab 1 rfl rfl rfl ?_ | refine zao rfl ?_ | refine zbf rfl rfl (by omega) ?_ | refine zan rfl ?_) | refine zch ?_ | refine zcj rfl ?_)
      exact ret_tmp3 rfl ⟨rfl, rfl⟩
end Go.Proofs.YtgdhcgnmffgkiaaGreatDoor

namespace Go.Proofs.YtgdhcgnmffgkiaaGreatDoor
open Go.Vc Sim
set_option maxHeartbeats 4000000
abbrev heV (H : He) : Value := .agg (List.toArray [.int .i64 H.pool.root, .int .i64 H.pool.frm, .int .i64 H.pool.nodes, .int .i64 H.root])
theorem heEnd (w0 : World) (p wb : Nat) (H : He) (s : Sp) (m eb : Nat) (b : Bool) (e : Int) : FnD PP w0 [] 149 [.pointer (some ⟨wb, 0, none⟩), .int .i64 m, .pointer (some ⟨eb, 0, none⟩)] [SpaceA p s, hwA wb p H b, erV eb e]
    fun v Γ' => v = .tuple #[] ∧ Γ' = [SpaceA p (if He.endE e b ≠ 0 then s.back m else s), hwA wb p H b, erV eb (He.endE e b)] := by
  refine fnD_of_run en149 fn149 rfl rfl rfl ?_
 
  by_cases he : e = 0
  · subst he
    cases b with
    | true =>
      repeat' (first | refine zck ?_ | refine zcp (by kernel_rfl) ?_ | (refine zap rfl ?_; first | refine zaj rfl ?_ | refine zan rfl ?_ | refine zab 1 rfl rfl rfl ?_ | refine zab 2 rfl rfl rfl ?_ | refine zah [0] (back_spec w0 p s m) rfl rfl rfl sub_nil rfl ?_ | refine zao rfl ?_ | refine zbc rfl rfl (by omega) ?_ | refine zbe rfl rfl (by omega) ?_ | refine zbu rfl ?_ | refine zae 2 rfl rfl rfl rfl rfl rfl rfl ?_ | refine zan rfl ?_) | refine zch ?_ | refine zci rfl ?_)
      exact run_nil ⟨rfl, ends_none rfl ⟨rfl, rfl⟩⟩
    | false =>
      repeat' (first | refine zck ?_ | refine zcp (by kernel_rfl) ?_ | refine zcm ?_ | (refine zap rfl ?_; first | refine zak rfl ?_ | refine zan rfl ?_ | refine zab 1 rfl rfl rfl ?_ | refine zab 2 rfl rfl rfl ?_ | refine zao rfl ?_ | refine zbf rfl rfl (by omega) ?_ | refine zbv rfl ?_ | refine zan rfl ?_) | refine zch ?_ | refine zcj rfl ?_)
      exact run_nil ⟨rfl, ends_none rfl ⟨rfl, rfl⟩⟩
  · have hE : He.endE e b = e := by unfold He.endE; rw [if_neg (fun q => he q.2)]
    rw [hE, if_pos he]
    cases b with
    | true =>
      repeat' (first | refine zck ?_ | refine zcp (by kernel_rfl) ?_ | refine zcm ?_ | (refine zap rfl ?_; first | refine zaj rfl ?_ | refine zan rfl ?_ | refine zab 1 rfl rfl rfl ?_ | refine zab 2 rfl rfl rfl ?_ | refine zah [0] (back_spec w0 p s m) rfl rfl rfl sub_nil rfl ?_ | refine zao rfl ?_ | refine zbd rfl rfl (by omega) ?_ | refine zbe rfl rfl (by omega) ?_ | refine zbu rfl ?_ | refine zan rfl ?_) | refine zch ?_ | refine zci rfl ?_ | refine zcj rfl ?_)
      exact run_nil ⟨rfl, ends_none rfl ⟨rfl, rfl⟩⟩
    | false =>
      repeat' (first | refine zck ?_ | refine zcp (by kernel_rfl) ?_ | refine zcm ?_ | (refine zap rfl ?_; first | refine zak rfl ?_ | refine zan rfl ?_ | refine zab 1 rfl rfl rfl ?_ | refine zab 2 rfl rfl rfl ?_ | refine zah [0] (back_spec w0 p s m) rfl rfl rfl sub_nil rfl ?_ | refine zao rfl ?_ | refine zbe rfl rfl (by omega) ?_ | refine zbv rfl ?_ | refine zan rfl ?_) | refine zch ?_ | refine zci rfl ?_ | refine zcj rfl ?_)
      exact run_nil ⟨rfl, ends_none rfl ⟨rfl, rfl⟩⟩
def heD (wb eb m : Nat) : Deferred := { target := .fn (.func 149) #[], args := List.toArray [.pointer (some ⟨wb, 0, none⟩), .int .i64 m, .pointer (some ⟨eb, 0, none⟩)] }
theorem heLen (w0 : World) (p : Nat) (H : He) : FnG w0 [] 78 [heV H, spP p] p H.len (.int .i64) := by
  intro s hS
  have hG := (At.start hS).to (Pg.bind_pure _).symm
  generalize Pg.run _ s = R at hG ⊢
  unfold He.len at hG
  refine fn_of_run en78 fn78 rfl rfl rfl ?_
  repeat (first | refine zck ?_ | refine zcl ?_ | refine zcm ?_ | refine zcn ?_)
  first | refine zcp (by kernel_rfl) ?_ | refine zcq PP_mixed (by kernel_rfl) (by kernel_rfl) ?_
  repeat' (refine zap rfl ?_; first | refine zan rfl ?_ | refine zaq (cs := [_, _, _, _]) rfl (fun nb => ?_))
  all_goals refine zch ?_
  all_goals repeat (first | refine zck ?_ | refine zcl ?_ | refine zcm ?_ | refine zcn ?_)
  refine run_share [1] rfl ?_
  repeat' (first | refine zcp (by kernel_rfl) ?_ | (refine zap rfl ?_; first | refine reg_add rfl rfl ?_ | refine zan rfl ?_ | refine zan rfl ?_ | refine zaa 0 rfl rfl rfl ?_ | refine reg_callG [0] hG (getG w0 p _) rfl rfl rfl sub_nil (fun x s hG => ?_) | refine zao rfl ?_) | refine zch ?_)
  rw [hG.done]
  exact ret_tmp1 rfl ⟨rfl, rfl⟩
theorem heMin (w0 : World) (p : Nat) (H : He) (hH : H.Ok) : FnG w0 [] 75 [heV H, spP p] p H.min enc3 := by
  intro s hS; have hG := At.start hS; generalize Pg.run _ s = R at hG ⊢
  unfold He.min at hG
  refine fn_of_run en75 fn75 rfl rfl rfl ?_
  repeat (first | refine zck ?_ | refine zcl ?_ | refine zcm ?_ | refine zcn ?_)
  first | refine zcp (by kernel_rfl) ?_ | refine zcq PP_mixed (by kernel_rfl) (by kernel_rfl) ?_
  repeat' (refine zap rfl ?_; first | refine zan rfl ?_ | refine zaq (cs := [_, _, _, _]) rfl (fun nb => ?_))
  all_goals refine zch ?_
  all_goals repeat (first | refine zck ?_ | refine zcl ?_ | refine zcm ?_ | refine zcn ?_)
  refine run_share [1] rfl ?_
  repeat (first | refine zck ?_ | refine zcl ?_ | refine zcm ?_ | refine zcn ?_)
  first | refine zcp (by kernel_rfl) ?_ | refine zcq PP_mixed (by kernel_rfl) (by kernel_rfl) ?_
  repeat' (refine zap rfl ?_; first | refine zaq (cs := [_, _, _, _, _, _]) rfl (fun wb => ?_) | refine zan rfl ?_ | refine zan rfl ?_ | refine zaa 0 rfl rfl rfl ?_ | refine zcb rfl ?_)
  all_goals refine zch ?_
  all_goals repeat (first | refine zck ?_ | refine zcl ?_ | refine zcm ?_ | refine zcn ?_)
  refine run_exch 1 (hwA wb p H false) rfl (fun _ h => h) rfl ?_
  repeat (first | refine zck ?_ | refine zcl ?_ | refine zcm ?_ | refine zcn ?_)
  first | refine zcp (by kernel_rfl) ?_ | refine zcq PP_mixed (by kernel_rfl) (by kernel_rfl) ?_
  repeat' (refine zap rfl ?_; first | refine zan rfl ?_ | refine zan rfl ?_ | refine reg_callUP [0, 0] hG H.all_many (heMany w0 p wb H false) rfl rfl rfl (fun n s hn hG => ?_) | refine zan rfl ?_)
  all_goals refine zch ?_
  all_goals repeat (first | refine zck ?_ | refine zcl ?_ | refine zcm ?_ | refine zcn ?_)
  obtain ⟨n, ok⟩ := n
  dsimp only at hG hn
  by_cases h0 : n = 0
  · rw [if_pos h0] at hG
    rw [hG.done]
    repeat' (first | refine zck ?_ | refine zcp (by kernel_rfl) ?_ | (refine zap rfl ?_; first | refine zan rfl ?_ | refine zan rfl ?_ | refine zbc rfl rfl (by omega) ?_) | refine zch ?_ | refine zci rfl ?_)
    refine run_take [0] rfl ?_
    exact ret_tmp3 rfl ⟨rfl, rfl⟩
  rw [if_neg h0] at hG
  repeat (first | refine zck ?_ | refine zcl ?_ | refine zcm ?_ | refine zcn ?_)
  first | refine zcp (by kernel_rfl) ?_ | refine zcq PP_mixed (by kernel_rfl) (by kernel_rfl) ?_
  repeat' (refine zap rfl ?_; first | refine zan rfl ?_ | refine zbd rfl rfl (by omega) ?_)
  all_goals refine zch ?_
  all_goals repeat (first | refine zck ?_ | refine zcl ?_ | refine zcm ?_ | refine zcn ?_)
  refine zcj rfl ?_
  cases ok with
  | false =>
    rw [if_neg (by decide)] at hG
    rw [hG.done]
    repeat' (first | refine zck ?_ | refine zcp (by kernel_rfl) ?_ | refine zcm ?_ | (refine zap rfl ?_; first | refine zbx rfl ?_ | refine zan rfl ?_ | refine zan rfl ?_) | refine zch ?_ | refine zci rfl ?_)
    refine run_take [0] rfl ?_
    exact ret_tmp3 rfl ⟨rfl, rfl⟩
  | true =>
    rw [if_pos rfl] at hG
    repeat (first | refine zck ?_ | refine zcl ?_ | refine zcm ?_ | refine zcn ?_)
    first | refine zcp (by kernel_rfl) ?_ | refine zcq PP_mixed (by kernel_rfl) (by kernel_rfl) ?_
    repeat' (refine zap rfl ?_; first | refine zbx rfl ?_ | refine zan rfl ?_)
    all_goals refine zch ?_
    all_goals repeat (first | refine zck ?_ | refine zcl ?_ | refine zcm ?_ | refine zcn ?_)
    refine zcj rfl ?_
    repeat (first | refine zck ?_ | refine zcl ?_ | refine zcm ?_ | refine zcn ?_)
    first | refine zcp (by kernel_rfl) ?_ | refine zcq PP_mixed (by kernel_rfl) (by kernel_rfl) ?_
    repeat' (refine zap rfl ?_; first | refine zan rfl ?_ | refine zan rfl ?_ | refine reg_callW [0, 0] hG (heItem w0 p wb H hH _ 1 (by decide)) rfl rfl rfl (fun it c s hG => ?_))
    all_goals refine zch ?_
    all_goals repeat (first | refine zck ?_ | refine zcl ?_ | refine zcm ?_ | refine zcn ?_)
    dsimp only at hG
    repeat (first | refine zck ?_ | refine zcl ?_ | refine zcm ?_ | refine zcn ?_)
    first | refine zcp (by kernel_rfl) ?_ | refine zcq PP_mixed (by kernel_rfl) (by kernel_rfl) ?_
    repeat' (refine zap rfl ?_; first | refine zan rfl ?_ | refine zan rfl ?_ | refine reg_callU [0, 0] hG (heGet w0 p wb H _ it 0) rfl rfl rfl (fun pr s hG => ?_) | refine reg_callU [0, 0] hG (heGet w0 p wb H _ it 1) rfl rfl rfl (fun v s hG => ?_))
    all_goals refine zch ?_
    all_goals repeat (first | refine zck ?_ | refine zcl ?_ | refine zcm ?_ | refine zcn ?_)
    cases c with
    | true =>
      rw [if_pos rfl] at hG
      rw [hG.done]
      repeat' (first | refine zck ?_ | refine zcp (by kernel_rfl) ?_ | (refine zap rfl ?_; first | refine zan rfl ?_ | refine zan rfl ?_ | refine zab 1 rfl rfl rfl ?_ | refine zao rfl ?_ | refine zan rfl ?_) | refine zch ?_ | refine zci rfl ?_)
      refine run_take [0] rfl ?_
      exact ret_tmp3 rfl ⟨rfl, rfl⟩
    | false =>
      rw [if_neg (by decide)] at hG
      rw [hG.done]
      repeat' (first | refine zck ?_ | refine zcp (by kernel_rfl) ?_ | refine zcm ?_ | (refine zap rfl ?_; first | refine zan rfl ?_ | refine zan rfl ?_ | refine zab 1 rfl rfl rfl ?_ | refine zao rfl ?_ | refine zan rfl ?_) | refine zch ?_ | refine zcj rfl ?_)
      refine run_take [0] rfl ?_
      exact ret_tmp3 rfl ⟨rfl, rfl⟩
theorem hePop_fin (w0 : World) (p wb eb m : Nat) (H : He) (R : ((Int × Int) × Int) × Sp) (pr v e : Int) (b : Bool) (s : Sp) (ρ : Env) (h4 : ρ 4 = .int .i64 pr) (h5 : ρ 5 = .int .i64 v) (h6 : ρ 6 = .pointer (some ⟨eb, 0, none⟩)) (hG : At R (He.after3 m ((pr, v), e) b) s) :
    LeavesS PP w0 [] Tryz.f74 ρ [heD wb eb m] [SpaceA p s, hwA wb p H b, erV eb e] (fun v Γ => v = enc3 R.1 ∧ Γ = [SpaceA p R.2]) := by
  refine leaves_defer1 [0, 0, 0] (heEnd w0 p wb H s m eb b e) rfl rfl sub_nil ?_
  refine leaves_nil (ends_take [0] rfl (ends_three rfl h4 h5 (resOk_pt 2 h6 rfl rfl) ?_))
  refine ⟨rfl, ?_⟩
  unfold He.after3 at hG
  by_cases hE : He.endE e b ≠ 0
  · dsimp only at hG
    rw [if_pos hE] at hG
    rw [hG.step.2.done, if_pos hE]
    exact ⟨rfl, rfl⟩
  · dsimp only at hG
    rw [if_neg hE] at hG
    rw [hG.done, if_neg hE]
    exact ⟨rfl, rfl⟩
theorem hePop (w0 : World) (p : Nat) (H : He) (hH : H.Ok) : FnG w0 [] 74 [heV H, spP p] p H.pop enc3 := by
  intro s hS; have hG := At.start hS; generalize Pg.run _ s = R at hG ⊢
  simp only [He.pop, He.popIn, Pg.bind_assoc, Pg.ite_bind, Pg.pure_bind] at hG
  refine fn_of_run en74 fn74 rfl rfl rfl ?_
  repeat (first | refine zck ?_ | refine zcl ?_ | refine zcm ?_ | refine zcn ?_)
  first | refine zcp (by kernel_rfl) ?_ | refine zcq PP_mixed (by kernel_rfl) (by kernel_rfl) ?_
  repeat' (refine zap rfl ?_; first | refine zar (fun eb => ?_) | refine zan rfl ?_ | refine zaq (cs := [_, _, _, _]) rfl (fun nb => ?_))
  all_goals refine zch ?_
  all_goals repeat (first | refine zck ?_ | refine zcl ?_ | refine zcm ?_ | refine zcn ?_)
  refine run_share [1] rfl ?_
  repeat (first | refine zck ?_ | refine zcl ?_ | refine zcm ?_ | refine zcn ?_)
  first | refine zcp (by kernel_rfl) ?_ | refine zcq PP_mixed (by kernel_rfl) (by kernel_rfl) ?_
  repeat' (refine zap rfl ?_; first | refine zaq (cs := [_, _, _, _, _, _]) rfl (fun wb => ?_) | refine zan rfl ?_ | refine zan rfl ?_ | refine zaa 0 rfl rfl rfl ?_ | refine zcb rfl ?_)
  all_goals refine zch ?_
  all_goals repeat (first | refine zck ?_ | refine zcl ?_ | refine zcm ?_ | refine zcn ?_)
  refine run_exch 2 (hwA wb p H false) rfl (fun _ h => h) rfl ?_
  refine run_take [0, 1, 0] rfl ?_
  repeat (first | refine zck ?_ | refine zcl ?_ | refine zcm ?_ | refine zcn ?_)
  first | refine zcp (by kernel_rfl) ?_ | refine zcq PP_mixed (by kernel_rfl) (by kernel_rfl) ?_
  repeat' (refine zap rfl ?_; first | refine zcd rfl rfl ?_ | refine zan rfl ?_ | refine reg_callG [0] hG (markG w0 p) rfl rfl rfl sub_nil (fun m s hG => ?_))
  all_goals refine zch ?_
  all_goals repeat (first | refine zck ?_ | refine zcl ?_ | refine zcm ?_ | refine zcn ?_)
  repeat (first | refine zck ?_ | refine zcl ?_ | refine zcm ?_ | refine zcn ?_)
  first | refine zcp (by kernel_rfl) ?_ | refine zcq PP_mixed (by kernel_rfl) (by kernel_rfl) ?_
  repeat' (refine zap rfl ?_; first | refine zan rfl ?_ | refine zan rfl ?_ | refine reg_callUP [0, 0] hG H.all_many (heMany w0 p wb H false) rfl rfl rfl (fun n s hn hG => ?_) | refine zan rfl ?_)
  all_goals refine zch ?_
  all_goals repeat (first | refine zck ?_ | refine zcl ?_ | refine zcm ?_ | refine zcn ?_)
  obtain ⟨n, ok⟩ := n
  dsimp only at hG hn
  by_cases h0 : n = 0
  · rw [if_pos h0] at hG
    repeat' (first | refine zck ?_ | refine zcp (by kernel_rfl) ?_ | (refine zap rfl ?_; first | refine zan rfl ?_ | refine zan rfl ?_ | refine zbc rfl rfl (by omega) ?_ | refine zae 2 rfl rfl rfl rfl rfl rfl rfl ?_) | refine zch ?_ | refine zci rfl ?_)
    exact run_ret (hePop_fin w0 p wb eb m H R 0 0 8 false s _ rfl rfl rfl hG)
  rw [if_neg h0] at hG
  repeat (first | refine zck ?_ | refine zcl ?_ | refine zcm ?_ | refine zcn ?_)
  first | refine zcp (by kernel_rfl) ?_ | refine zcq PP_mixed (by kernel_rfl) (by kernel_rfl) ?_
  repeat' (refine zap rfl ?_; first | refine zan rfl ?_ | refine zan rfl ?_ | refine zbd rfl rfl (by omega) ?_)
  all_goals refine zch ?_
  all_goals repeat (first | refine zck ?_ | refine zcl ?_ | refine zcm ?_ | refine zcn ?_)
  refine zcj rfl ?_
  cases ok with
  | false =>
    rw [if_neg (by decide)] at hG
    repeat' (first | refine zck ?_ | refine zcp (by kernel_rfl) ?_ | (refine zap rfl ?_; first | refine zbx rfl ?_ | refine zan rfl ?_ | refine zan rfl ?_ | refine zae 2 rfl rfl rfl rfl rfl rfl rfl ?_) | refine zch ?_ | refine zci rfl ?_)
    exact run_ret (hePop_fin w0 p wb eb m H R 0 0 24 false s _ rfl rfl rfl hG)
  | true =>
    rw [if_pos rfl] at hG
    have hn := hn rfl
    repeat (first | refine zck ?_ | refine zcl ?_ | refine zcm ?_ | refine zcn ?_)
    first | refine zcp (by kernel_rfl) ?_ | refine zcq PP_mixed (by kernel_rfl) (by kernel_rfl) ?_
    repeat' (refine zap rfl ?_; first | refine zbx rfl ?_ | refine zan rfl ?_ | refine zan rfl ?_)
    all_goals refine zch ?_
    all_goals repeat (first | refine zck ?_ | refine zcl ?_ | refine zcm ?_ | refine zcn ?_)
    refine zcj rfl ?_
    repeat (first | refine zck ?_ | refine zcl ?_ | refine zcm ?_ | refine zcn ?_)
    first | refine zcp (by kernel_rfl) ?_ | refine zcq PP_mixed (by kernel_rfl) (by kernel_rfl) ?_
    repeat' (refine zap rfl ?_; first | refine zan rfl ?_ | refine zan rfl ?_ | refine reg_callW [0, 0] hG (heRemove w0 p wb H hH 1 n (by omega) (by omega)) rfl rfl rfl (fun q c s hG => ?_) | refine zan rfl ?_ | refine zae 2 rfl rfl rfl rfl rfl rfl rfl ?_)
    all_goals refine zch ?_
    all_goals repeat (first | refine zck ?_ | refine zcl ?_ | refine zcm ?_ | refine zcn ?_)
    obtain ⟨⟨pr, v⟩, e⟩ := q
    exact run_ret (hePop_fin w0 p wb eb m H R pr v e c s _ rfl rfl rfl hG)
end Go.Proofs.YtgdhcgnmffgkiaaGreatDoor

namespace Go.Proofs.YtgdhcgnmffgkiaaGreatDoor
open Go.Vc Sim
set_option maxHeartbeats 4000000

theorem give_spec (w0 : World) (p : Nat) (P : Pl) (hP : P.Ok) (s : Sp) (a : Int) (hsm : Sm s 3) : FnE PP w0 [] 114 [poolV P, spP p, .int .i64 a] [SpaceA p s] (.int .i64 (P.give s a).1) [SpaceA p (P.give s a).2] := by
  obtain ⟨_, h1, h2, h3, h4, h5, h6⟩ := id hP
  refine fn_of_run en114 fn114 rfl rfl rfl ?_
  repeat (first | refine zck ?_ | refine zcl ?_ | refine zcm ?_ | refine zcn ?_)
  first | refine zcp (by kernel_rfl) ?_ | refine zcq PP_mixed (by kernel_rfl) (by kernel_rfl) ?_
  repeat' (refine zap rfl ?_; first | refine zan rfl ?_ | refine zaq (cs := [_, _, _]) rfl (fun nb => ?_))
  all_goals refine zch ?_
  all_goals repeat (first | refine zck ?_ | refine zcl ?_ | refine zcm ?_ | refine zcn ?_)
  refine run_share [1] rfl ?_
  repeat' (first | refine zck ?_ | refine zcp (by kernel_rfl) ?_ | (refine zap rfl ?_; first | refine zan rfl ?_ | refine zan rfl ?_ | refine zaa 0 rfl rfl rfl ?_ | refine zah [] (node_spec w0 P hP _) rfl rfl rfl sub_nil rfl ?_ | refine zan rfl ?_ | refine zbx rfl ?_) | refine zch ?_)
  refine run_condV rfl (fun hE => ?_) (fun hE => ?_)
  · have hE : P.node a = false := by simpa using hE
    repeat' (first | refine zck ?_ | refine zcp (by kernel_rfl) ?_ | (refine zap rfl ?_; first | refine zan rfl ?_) | refine zch ?_)
    have e : P.give s a = (1, s) := by simp [Pl.give, hE]
    rw [e]
    exact ret_tmp1 rfl ⟨rfl, rfl⟩
  · have hE : P.node a = true := by simpa using hE
    repeat' (first | refine zck ?_ | refine zcp (by kernel_rfl) ?_ | refine zcm ?_ | (refine zap rfl ?_; first | refine zan rfl ?_ | refine zan rfl ?_ | refine zaa 0 rfl rfl rfl ?_ | refine zah [0] (getS w0 p _ _ (by first | exact hsm.mono (by decide) | (repeat (first | refine sm_get ?_ | refine sm_put ?_)); exact hsm.mono (by decide))) rfl rfl rfl sub_nil rfl ?_ | refine zah [0] (putS w0 p _ _ _ (by first | exact hsm.mono (by decide) | (repeat (first | refine sm_get ?_ | refine sm_put ?_)); exact hsm.mono (by decide))) rfl rfl rfl sub_nil rfl ?_ | refine zah [0] (add_spec w0 p P hP _ _ _ (by decide) (by first | exact hsm.mono (by decide) | (repeat (first | refine sm_get ?_ | refine sm_put ?_)); exact hsm.mono (by decide))) rfl rfl rfl sub_nil rfl ?_ | refine zao rfl ?_) | refine zch ?_)
    have e : P.give s a = (0, P.add (((s.get P.root).2.put a (s.get P.root).1).put P.root a) 2 1) := by simp [Pl.give, hE]
    rw [e]
    exact ret_tmp1 rfl ⟨rfl, rfl⟩

end Go.Proofs.YtgdhcgnmffgkiaaGreatDoor

namespace Sim
open Go Go.Vc

structure Ar where
  pool : Pl
  root : Int
def Ar.Ok (A : Ar) : Prop := A.pool.Ok ∧ 0 ≤ A.root ∧ A.root ≤ 4096
def pw : Nat → Int
  | 0 => 1
  | 1 => 8
  | 2 => 64
  | 3 => 512
  | _ => 4096
def dep (n : Int) : Nat := if n = 0 then 0 else if n ≤ 8 then 1 else if n ≤ 64 then 2 else if n ≤ 512 then 3 else 4
def digA (i : Int) (d : Nat) : Int := i / pw (d - 1) % 8
theorem pw_pos : ∀ d, 1 ≤ pw d ∧ pw d ≤ 4096
  | 0 => by decide
  | 1 => by decide
  | 2 => by decide
  | 3 => by decide
  | _ + 4 => ⟨by simp [pw], by simp [pw]⟩
theorem dig_bd (i : Int) (d : Nat) : 0 ≤ digA i d ∧ digA i d ≤ 7 := by unfold digA; omega
theorem dep_le (n : Int) : dep n ≤ 4 := by unfold dep; split <;> try split <;> try split <;> try split
                                           all_goals omega

def Ar.many (A : Ar) (s : Sp) : Int × Int × Bool × Sp :=
  if (s.get (A.root + 1)).1 < 0 ∨ 4096 < (s.get (A.root + 1)).1 then ((s.get (A.root + 1)).1, 0, false, (s.get (A.root + 1)).2)
  else ((s.get (A.root + 1)).1, dep (s.get (A.root + 1)).1, decide (((s.get (A.root + 1)).2.get (A.root + 2)).1 = dep (s.get (A.root + 1)).1), ((s.get (A.root + 1)).2.get (A.root + 2)).2)
def Ar.node (A : Ar) (s : Sp) (cell : Int) : Int × Bool × Sp :=
  if (s.get cell).1 ≤ 0 ∨ 4096 < (s.get cell).1 then (0, false, (s.get cell).2) else ((s.get cell).1, A.pool.node (s.get cell).1, (s.get cell).2)
theorem Ar.node_bd (A : Ar) (s : Sp) (cell : Int) : 0 ≤ (A.node s cell).1 ∧ (A.node s cell).1 ≤ 4096 := by
  unfold Ar.node; split
  · simp
  · simp; omega
def Ar.take (A : Ar) (s : Sp) : Int × Int × Sp :=
  if (A.pool.take s).2.1 = 0 then ((A.pool.take s).1, (A.pool.take s).2.1, ((A.pool.take s).2.2.get (A.root + 7)).2.put (A.root + 7) (w64 (((A.pool.take s).2.2.get (A.root + 7)).1 + 1)))
  else ((A.pool.take s).1, (A.pool.take s).2.1, (A.pool.take s).2.2)
def Ar.way (A : Ar) (i : Int) : Nat → Int → Sp → List Int → Option (List Int) × Sp
  | 0, _, s, acc => (some acc, s)
  | d + 1, cell, s, acc =>
    if (A.node s cell).2.1 then A.way i d ((A.node s cell).1 + digA i (d + 1)) (A.node s cell).2.2 (acc ++ [(A.node s cell).1])
    else (none, (A.node s cell).2.2)

theorem sm_add {P : Pl} {s : Sp} {j : Nat} {a v : Int} (h : Sm s (j + 1)) : Sm (P.add s a v) j := sm_put (sm_get h)
theorem sm_poolTake {P : Pl} {s : Sp} {j : Nat} (h : Sm s (j + 2)) : Sm (P.take s).2.2 j := by
  unfold Pl.take
  split
  · split
    · exact sm_add (sm_put (sm_get (sm_get h)))
    · exact (sm_get h).mono (by omega)
  · split
    · exact (sm_get (sm_get h)).mono (by omega)
    · exact (sm_put (sm_get (sm_get h))).mono (by omega)
theorem sm_give {P : Pl} {s : Sp} {j : Nat} {a : Int} (h : Sm s (j + 3)) : Sm (P.give s a).2 j := by
  unfold Pl.give
  split
  · exact sm_add (sm_put (sm_put (sm_get h)))
  · exact h.mono (by omega)
theorem sm_many {A : Ar} {s : Sp} {j : Nat} (h : Sm s j) : Sm (A.many s).2.2.2 j := by
  unfold Ar.many; split
  · exact sm_get h
  · exact sm_get (sm_get h)
theorem sm_node {A : Ar} {s : Sp} {j : Nat} {c : Int} (h : Sm s j) : Sm (A.node s c).2.2 j := by
  unfold Ar.node; split <;> exact sm_get h
theorem sm_take {A : Ar} {s : Sp} {j : Nat} (h : Sm s (j + 3)) : Sm (A.take s).2.2 j := by
  unfold Ar.take; split
  · exact sm_put (sm_get (sm_poolTake h))
  · exact (sm_poolTake h).mono (by omega)
theorem sm_way {A : Ar} {i : Int} : ∀ {d : Nat} {c : Int} {s : Sp} {acc : List Int} {j : Nat}, Sm s j → Sm (A.way i d c s acc).2 j
  | 0, _, _, _, _, h => h
  | d + 1, c, s, acc, j, h => by
    simp only [Ar.way]; split
    · exact sm_way (sm_node h)
    · exact sm_node h
end Sim

namespace Go.Proofs.YtgdhcgnmffgkiaaGreatDoor
open Go.Vc Sim
set_option maxHeartbeats 4000000

def powL : List Value := [.int .i64 1, .int .i64 8, .int .i64 64, .int .i64 512, .int .i64 4096]
def PowOk (w0 : World) : Prop := ∃ T fr, w0.heap[0]? = some (.cells (List.toArray powL) T fr)
theorem powL_rd (d : Nat) (hd : d ≤ 4) (o : Nat) (ho : o = d) : rd false 1 powL o = some (.int .i64 (pw d)) := by
  subst ho
  match o, hd with
  | 0, _ => rfl
  | 1, _ => rfl
  | 2, _ => rfl
  | 3, _ => rfl
  | 4, _ => rfl
def arrV (A : Ar) : Value := .agg #[.int .i64 A.pool.root, .int .i64 A.pool.frm, .int .i64 A.pool.nodes, .int .i64 A.root]

theorem depth_spec (w0 : World) (hw : PowOk w0) (m : Int) : FnE PP w0 [] 162 [.int .i64 m] [] (.int .i64 (dep m)) [] := by
  obtain ⟨T, fr, hw⟩ := hw
  refine fn_of_run en162 fn162 rfl rfl rfl ?_
  repeat' (first | refine zck ?_ | refine zcp (by kernel_rfl) ?_ | (refine zap rfl ?_; first | refine zan rfl ?_ | refine zan rfl ?_ | refine zbo rfl rfl ?_) | refine zch ?_)
  refine run_cond rfl (fun hE => ?_) (fun hE => ?_)
  · repeat' (first | refine zck ?_ | refine zcp (by kernel_rfl) ?_ | (refine zap rfl ?_; first | refine zan rfl ?_) | refine zch ?_)
    refine ret_tmp1 rfl ⟨?_, rfl⟩
    rw [hE]; rfl
  · repeat' (first | refine zck ?_ | refine zcp (by kernel_rfl) ?_ | refine zcm ?_ | refine zcl ?_ | (refine zap rfl ?_; first | refine zan rfl ?_) | refine zch ?_)
    refine run_loop (S := Nat) (fun d => [(0, .int .i64 m), (3, .int .i64 d)]) (fun d Γ => Γ = [] ∧ 1 ≤ d ∧ d ≤ 4 ∧ d ≤ dep m) (fun d => 4 - d) 1 ⟨rfl, rfl, trivial⟩
      ⟨rfl, by decide, by decide, by unfold dep; rw [if_neg hE]; split <;> try split <;> try split
                                     all_goals omega⟩ ?_
    rintro d Γ junk ⟨rfl, h1, h2, h3⟩
    by_cases hd : d < 4
    · have dd : decide ((d : Int) < 4) = true := decide_eq_true (by omega)
      by_cases hm : pw d < m
      · have dm : decide (pw d < m) = true := decide_eq_true hm
        repeat' (first | refine zck ?_ | refine zcp (by kernel_rfl) ?_ | refine zcm ?_ | refine zcl ?_ | refine zcn ?_ | (refine zap rfl ?_; first | (refine zbq rfl rfl ?_; rw [dd]) | (refine zbq rfl rfl ?_; rw [dm]) | refine zac rfl hw (powL_rd d h2 _ (by omega)) ?_ | refine zaj rfl ?_ | refine zan rfl ?_ | refine zan rfl ?_ | refine zau rfl rfl (by omega) ?_ | refine zbu rfl ?_ | refine zat rfl rfl (by omega) ?_) | refine zch ?_ | refine zci rfl ?_)
        refine cut_end ⟨rfl, d + 1, ⟨rfl, int_eq (by omega), trivial⟩, ⟨rfl, by omega, by omega, ?_⟩, by omega⟩
        have : d = 1 ∨ d = 2 ∨ d = 3 := by omega
        unfold dep
        rcases this with rfl | rfl | rfl <;> simp only [pw] at hm
        all_goals (split <;> try split <;> try split <;> try split)
        all_goals omega
      · have dm : decide (pw d < m) = false := decide_eq_false hm
        repeat' (first | refine zck ?_ | refine zcp (by kernel_rfl) ?_ | (refine zap rfl ?_; first | (refine zbq rfl rfl ?_; rw [dd]) | (refine zbq rfl rfl ?_; rw [dm]) | refine zac rfl hw (powL_rd d h2 _ (by omega)) ?_ | refine zaj rfl ?_ | refine zan rfl ?_ | refine zbu rfl ?_ | refine zat rfl rfl (by omega) ?_) | refine zch ?_ | refine zcj rfl ?_)
        refine cut_exit rfl rfl ?_
        repeat' (first | refine zck ?_ | refine zcp (by kernel_rfl) ?_ | (refine zap rfl ?_; first | refine zan rfl ?_ | refine zan rfl ?_) | refine zch ?_)
        refine ret_tmp1 rfl ⟨int_eq ?_, rfl⟩
        have hc : d = 1 ∨ d = 2 ∨ d = 3 := by omega
        have : d = dep m := by
          unfold dep at h3 ⊢
          rcases hc with rfl | rfl | rfl <;> simp only [pw] at hm
          all_goals (split at h3 <;> try split at h3 <;> try split at h3 <;> try split at h3)
          all_goals (try split)
          all_goals (try split)
          all_goals (try split)
          all_goals (try split)
          all_goals omega
        rw [← this]
    · have dd : decide ((d : Int) < 4) = false := decide_eq_false (by omega)
      repeat' (first | refine zck ?_ | refine zcp (by kernel_rfl) ?_ | (refine zap rfl ?_; first | (refine zbq rfl rfl ?_; rw [dd]) | refine zak rfl ?_ | refine zan rfl ?_ | refine zbv rfl ?_) | refine zch ?_ | refine zcj rfl ?_)
      refine cut_exit rfl rfl ?_
      repeat' (first | refine zck ?_ | refine zcp (by kernel_rfl) ?_ | (refine zap rfl ?_; first | refine zan rfl ?_ | refine zan rfl ?_) | refine zch ?_)
      refine ret_tmp1 rfl ⟨int_eq ?_, rfl⟩
      have := dep_le m
      omega

theorem digit_spec (w0 : World) (hw : PowOk w0) (m : Int) (d : Nat) (hm : 0 ≤ m ∧ m ≤ 4096) (hd : 1 ≤ d ∧ d ≤ 4) (dI : Int) (hdI : dI = d) : FnE PP w0 [] 165 [.int .i64 m, .int .i64 dI] [] (.int .i64 (digA m d)) [] := by
  subst hdI
  obtain ⟨T, fr, hw⟩ := hw
  have hp := pw_pos (d - 1)
  have hq : m / pw (d - 1) ≤ m := Int.ediv_le_self _ hm.1
  have hq0 : 0 ≤ m / pw (d - 1) := Int.ediv_nonneg hm.1 (by omega)
  refine fn_of_run en165 fn165 rfl rfl rfl ?_
  repeat' (first | refine zck ?_ | refine zcp (by kernel_rfl) ?_ | (refine zap rfl ?_; first | refine zac rfl hw (powL_rd (d - 1) (by omega) _ (by omega)) ?_ | refine zan rfl ?_ | refine zan rfl ?_ | refine zav rfl rfl (by omega) ?_ | refine zax rfl rfl (by omega) ?_ | refine zay rfl rfl (by omega) ?_ | refine zat rfl rfl (by omega) ?_) | refine zch ?_)
  exact ret_tmp1 rfl ⟨rfl, rfl⟩
end Go.Proofs.YtgdhcgnmffgkiaaGreatDoor

namespace Go.Proofs.YtgdhcgnmffgkiaaGreatDoor
open Go.Vc Sim
set_option maxHeartbeats 4000000

theorem anode_spec (w0 : World) (p : Nat) (A : Ar) (hA : A.Ok) (s : Sp) (c : Int) (hsm : Sm s 0) : FnE PP w0 [] 163 [arrV A, spP p, .int .i64 c] [SpaceA p s]
    (.tuple #[.int .i64 (A.node s c).1, .bool (A.node s c).2.1]) [SpaceA p (A.node s c).2.2] := by
  refine fn_of_run en163 fn163 rfl rfl rfl ?_
  repeat (first | refine zck ?_ | refine zcl ?_ | refine zcm ?_ | refine zcn ?_)
  first | refine zcp (by kernel_rfl) ?_ | refine zcq PP_mixed (by kernel_rfl) (by kernel_rfl) ?_
  repeat' (refine zap rfl ?_; first | refine zan rfl ?_ | refine zaq (cs := [_, _, _, _]) rfl (fun nb => ?_))
  all_goals refine zch ?_
  all_goals repeat (first | refine zck ?_ | refine zcl ?_ | refine zcm ?_ | refine zcn ?_)
  refine run_share [1] rfl ?_
  repeat (first | refine zck ?_ | refine zcl ?_ | refine zcm ?_ | refine zcn ?_)
  first | refine zcp (by kernel_rfl) ?_ | refine zcq PP_mixed (by kernel_rfl) (by kernel_rfl) ?_
  repeat' (refine zap rfl ?_; first | refine zan rfl ?_ | refine zan rfl ?_ | refine zah [0] (getS w0 p _ _ (by first | exact hsm.mono (by decide) | (repeat (first | refine sm_get ?_ | refine sm_put ?_ | refine sm_node ?_ | refine sm_take ?_ | refine sm_many ?_ | refine sm_way ?_ | refine sm_poolTake ?_ | refine sm_give ?_)); exact hsm.mono (by decide))) rfl rfl rfl sub_nil rfl ?_)
  all_goals refine zch ?_
  all_goals repeat (first | refine zck ?_ | refine zcl ?_ | refine zcm ?_ | refine zcn ?_)
  by_cases h0 : (s.get c).1 ≤ 0
  · have d0 : decide ((s.get c).1 ≤ 0) = true := decide_eq_true h0
    have e : A.node s c = (0, false, (s.get c).2) := by simp [Ar.node, h0]
    repeat' (first | refine zck ?_ | refine zcp (by kernel_rfl) ?_ | (refine zap rfl ?_; first | (refine zbr rfl rfl ?_; rw [d0]) | refine zak rfl ?_ | refine zan rfl ?_ | refine zan rfl ?_ | refine zbu rfl ?_) | refine zch ?_ | refine zci rfl ?_)
    rw [e]
    exact ret_tmp2 rfl ⟨rfl, rfl⟩
  · have d0 : decide ((s.get c).1 ≤ 0) = false := decide_eq_false h0
    by_cases h1 : 4096 < (s.get c).1
    · have d1 : decide (4096 < (s.get c).1) = true := decide_eq_true h1
      have e : A.node s c = (0, false, (s.get c).2) := by simp [Ar.node, h1]
      repeat' (first | refine zck ?_ | refine zcp (by kernel_rfl) ?_ | (refine zap rfl ?_; first | (refine zbr rfl rfl ?_; rw [d0]) | (refine zbs rfl rfl ?_; rw [d1]) | refine zaj rfl ?_ | refine zan rfl ?_ | refine zan rfl ?_ | refine zbv rfl ?_) | refine zch ?_ | refine zci rfl ?_)
      rw [e]
      exact ret_tmp2 rfl ⟨rfl, rfl⟩
    · have d1 : decide (4096 < (s.get c).1) = false := decide_eq_false h1
      have e : A.node s c = ((s.get c).1, A.pool.node (s.get c).1, (s.get c).2) := by simp [Ar.node, h0, h1]
      repeat' (first | refine zck ?_ | refine zcp (by kernel_rfl) ?_ | refine zcm ?_ | (refine zap rfl ?_; first | (refine zbr rfl rfl ?_; rw [d0]) | (refine zbs rfl rfl ?_; rw [d1]) | refine zaj rfl ?_ | refine zan rfl ?_ | refine zan rfl ?_ | refine zaa 0 rfl rfl rfl ?_ | refine zah [] (node_spec w0 A.pool hA.1 _) rfl rfl rfl sub_nil rfl ?_ | refine zao rfl ?_ | refine zan rfl ?_ | refine zbv rfl ?_) | refine zch ?_ | refine zcj rfl ?_)
      rw [e]
      exact ret_tmp2 rfl ⟨rfl, rfl⟩

theorem len_spec (w0 : World) (p : Nat) (A : Ar) (hA : A.Ok) (s : Sp) (hsm : Sm s 0) : FnE PP w0 [] 84 [arrV A, spP p] [SpaceA p s]
    (.int .i64 (s.get (A.root + 1)).1) [SpaceA p (s.get (A.root + 1)).2] := by
  obtain ⟨_, h1, h2⟩ := id hA
  refine fn_of_run en84 fn84 rfl rfl rfl ?_
  repeat (first | refine zck ?_ | refine zcl ?_ | refine zcm ?_ | refine zcn ?_)
  first | refine zcp (by kernel_rfl) ?_ | refine zcq PP_mixed (by kernel_rfl) (by kernel_rfl) ?_
  repeat' (refine zap rfl ?_; first | refine zan rfl ?_ | refine zaq (cs := [_, _, _, _]) rfl (fun nb => ?_))
  all_goals refine zch ?_
  all_goals repeat (first | refine zck ?_ | refine zcl ?_ | refine zcm ?_ | refine zcn ?_)
  refine run_share [1] rfl ?_
  repeat' (first | refine zcp (by kernel_rfl) ?_ | (refine zap rfl ?_; first | refine zan rfl ?_ | refine zan rfl ?_ | refine zaa 0 rfl rfl rfl ?_ | refine zah [0] (getS w0 p _ _ (by first | exact hsm.mono (by decide) | (repeat (first | refine sm_get ?_ | refine sm_put ?_ | refine sm_node ?_ | refine sm_take ?_ | refine sm_many ?_ | refine sm_way ?_ | refine sm_poolTake ?_ | refine sm_give ?_)); exact hsm.mono (by decide))) rfl rfl rfl sub_nil rfl ?_ | refine zao rfl ?_ | refine zau rfl rfl (by omega) ?_) | refine zch ?_)
  exact ret_tmp1 rfl ⟨rfl, rfl⟩

theorem many_spec (w0 : World) (hw : PowOk w0) (p : Nat) (A : Ar) (hA : A.Ok) (s : Sp) (hsm : Sm s 0) : FnE PP w0 [] 160 [arrV A, spP p] [SpaceA p s]
    (.tuple #[.int .i64 (A.many s).1, .int .i64 (A.many s).2.1, .bool (A.many s).2.2.1]) [SpaceA p (A.many s).2.2.2] := by
  obtain ⟨_, h1, h2⟩ := id hA
  obtain ⟨T, fr, hw2⟩ := id hw
  refine fn_of_run en160 fn160 rfl rfl rfl ?_
  repeat (first | refine zck ?_ | refine zcl ?_ | refine zcm ?_ | refine zcn ?_)
  first | refine zcp (by kernel_rfl) ?_ | refine zcq PP_mixed (by kernel_rfl) (by kernel_rfl) ?_
  repeat' (refine zap rfl ?_; first | refine zan rfl ?_ | refine zaq (cs := [_, _, _, _]) rfl (fun nb => ?_))
  all_goals refine zch ?_
  all_goals repeat (first | refine zck ?_ | refine zcl ?_ | refine zcm ?_ | refine zcn ?_)
  refine run_share [1] rfl ?_
  generalize hg : s.get (A.root + 1) = g
  have hsm2 : Sm g.2 0 := hg ▸ sm_get hsm
  have hG : FnE PP w0 [] 36 [spP p, .int .i64 (A.root + 1)] [SpaceA p s] (.int .i64 g.1) [SpaceA p g.2] := hg ▸ getS w0 p s (A.root + 1) hsm
  repeat (first | refine zck ?_ | refine zcl ?_ | refine zcm ?_ | refine zcn ?_)
  first | refine zcp (by kernel_rfl) ?_ | refine zcq PP_mixed (by kernel_rfl) (by kernel_rfl) ?_
  repeat' (refine zap rfl ?_; first | refine zan rfl ?_ | refine zan rfl ?_ | refine zaa 0 rfl rfl rfl ?_ | refine zah [0] hG rfl rfl rfl sub_nil rfl ?_ | refine zao rfl ?_ | refine zau rfl rfl (by omega) ?_)
  all_goals refine zch ?_
  all_goals repeat (first | refine zck ?_ | refine zcl ?_ | refine zcm ?_ | refine zcn ?_)
  by_cases h0 : g.1 < 0
  · have d0 : decide (g.1 < 0) = true := decide_eq_true h0
    have e : A.many s = (g.1, 0, false, g.2) := by simp [Ar.many, hg, h0]
    repeat' (first | refine zck ?_ | refine zcp (by kernel_rfl) ?_ | (refine zap rfl ?_; first | (refine zbq rfl rfl ?_; rw [d0]) | refine zak rfl ?_ | refine zan rfl ?_ | refine zan rfl ?_ | refine zbu rfl ?_) | refine zch ?_ | refine zci rfl ?_)
    rw [e]
    exact ret_tmp3 rfl ⟨rfl, rfl⟩
  · have d0 : decide (g.1 < 0) = false := decide_eq_false h0
    by_cases h1 : 4096 < g.1
    · have d1 : decide (4096 < g.1) = true := decide_eq_true h1
      have e : A.many s = (g.1, 0, false, g.2) := by simp [Ar.many, hg, h1]
      repeat' (first | refine zck ?_ | refine zcp (by kernel_rfl) ?_ | (refine zap rfl ?_; first | (refine zbq rfl rfl ?_; rw [d0]) | refine zac rfl hw2 (powL_rd 4 (by decide) _ rfl) ?_ | (refine zbs rfl rfl ?_; rw [show pw 4 = 4096 from rfl, d1]) | refine zaj rfl ?_ | refine zan rfl ?_ | refine zan rfl ?_ | refine zbv rfl ?_ | refine zat rfl rfl (by omega) ?_) | refine zch ?_ | refine zci rfl ?_)
      rw [e]
      exact ret_tmp3 rfl ⟨rfl, rfl⟩
    · have d1 : decide (4096 < g.1) = false := decide_eq_false h1
      have e : A.many s = (g.1, (dep g.1 : Int), decide ((g.2.get (A.root + 2)).1 = dep g.1), (g.2.get (A.root + 2)).2) := by simp [Ar.many, hg, h0, h1]
      repeat' (first | refine zck ?_ | refine zcp (by kernel_rfl) ?_ | refine zcm ?_ | (refine zap rfl ?_; first | (refine zbq rfl rfl ?_; rw [d0]) | refine zac rfl hw2 (powL_rd 4 (by decide) _ rfl) ?_ | (refine zbs rfl rfl ?_; rw [show pw 4 = 4096 from rfl, d1]) | refine zaj rfl ?_ | refine zan rfl ?_ | refine zan rfl ?_ | refine zaa 0 rfl rfl rfl ?_ | refine zah [0] (getS w0 p _ _ hsm2) rfl rfl rfl sub_nil rfl ?_ | refine zah [] (depth_spec w0 hw _) rfl rfl rfl sub_nil rfl ?_ | refine zao rfl ?_ | refine zau rfl rfl (by omega) ?_ | refine zbo rfl rfl ?_ | refine zbv rfl ?_ | refine zat rfl rfl (by omega) ?_) | refine zch ?_ | refine zcj rfl ?_)
      rw [e]
      exact ret_tmp3 rfl ⟨rfl, rfl⟩

end Go.Proofs.YtgdhcgnmffgkiaaGreatDoor

namespace Go.Proofs.YtgdhcgnmffgkiaaGreatDoor
open Go.Vc Sim
set_option maxHeartbeats 4000000

def intL (l : List Int) : List Value := l.map (Value.int .i64)
def wayRA (p : Nat) (r : Option (List Int) × Sp) (v : Value) (Γ : List Asn) : Prop :=
  match r.1 with
  | some l => ∃ a cap, v = .tuple #[.slice a l.length cap, .bool true] ∧ Γ = [SpaceA p r.2, SlA 34 1 a l.length cap (intL l)]
  | none => v = .tuple #[.slice none 0 0, .bool false] ∧ Γ = [SpaceA p r.2]

theorem way_spec (w0 : World) (hw : PowOk w0) (p : Nat) (A : Ar) (hA : A.Ok) (i : Int) (hi : 0 ≤ i ∧ i ≤ 4096) (d : Nat) (hd : d ≤ 4) (dI : Int) (hdI : dI = d) (s : Sp) (hsm : Sm s 0) :
    Vc.Fn PP w0 [] 167 [arrV A, spP p, .int .i64 i, .int .i64 dI] [SpaceA p s] (wayRA p (A.way i d A.root s [])) := by
  subst hdI
  obtain ⟨_, h1, h2⟩ := id hA
  refine fn_of_run en167 fn167 rfl rfl rfl ?_
  repeat (first | refine zck ?_ | refine zcl ?_ | refine zcm ?_ | refine zcn ?_)
  first | refine zcp (by kernel_rfl) ?_ | refine zcq PP_mixed (by kernel_rfl) (by kernel_rfl) ?_
  repeat' (refine zap rfl ?_; first | refine zan rfl ?_ | refine zaq (cs := [_, _, _, _]) rfl (fun nb => ?_))
  all_goals refine zch ?_
  all_goals repeat (first | refine zck ?_ | refine zcl ?_ | refine zcm ?_ | refine zcn ?_)
  refine run_share [1] rfl ?_
  repeat (first | refine zck ?_ | refine zcl ?_ | refine zcm ?_ | refine zcn ?_)
  first | refine zcp (by kernel_rfl) ?_ | refine zcq PP_mixed (by kernel_rfl) (by kernel_rfl) ?_
  repeat' (refine zap rfl ?_; first | refine zan rfl ?_)
  all_goals refine zch ?_
  all_goals repeat (first | refine zck ?_ | refine zcl ?_ | refine zcm ?_ | refine zcn ?_)
  repeat (first | refine zck ?_ | refine zcl ?_ | refine zcm ?_ | refine zcn ?_)
  first | refine zcp (by kernel_rfl) ?_ | refine zcq PP_mixed (by kernel_rfl) (by kernel_rfl) ?_
  repeat' (refine zap rfl ?_; first | refine zan rfl ?_ | refine zaa 0 rfl rfl rfl ?_ | refine zao rfl ?_ | refine reg_addZ rfl rfl (by omega) ?_)
  all_goals refine zch ?_
  all_goals repeat (first | refine zck ?_ | refine zcl ?_ | refine zcm ?_ | refine zcn ?_)
  repeat (first | refine zck ?_ | refine zcl ?_ | refine zcm ?_ | refine zcn ?_ | refine zco ?_)
  refine run_nilslice 34 1 ?_
  refine run_loop (S := Nat × Int × Sp × List Int × Option Addr × Nat)
    (fun st => [(1, spP p), (2, .int .i64 i), (3, .int .i64 (st.1 : Int)), (4, .pointer (some ⟨nb, 0, none⟩)), (11, .int .i64 st.2.1), (10, .slice st.2.2.2.2.1 st.2.2.2.1.length st.2.2.2.2.2)])
    (fun st Γ => Γ = [SpaceA p st.2.2.1, SlA 34 1 st.2.2.2.2.1 st.2.2.2.1.length st.2.2.2.2.2 (intL st.2.2.2.1)] ∧ 0 ≤ st.2.1 ∧ st.2.1 ≤ 5000 ∧ st.1 + st.2.2.2.1.length ≤ 4 ∧ Sm st.2.2.1 0 ∧ A.way i st.1 st.2.1 st.2.2.1 st.2.2.2.1 = A.way i d A.root s [])
    (fun st => st.1) (d, A.root, s, [], none, 0) ⟨rfl, rfl, rfl, rfl, int_eq (by first | exact Int.add_zero _ | rfl), rfl, trivial⟩ ⟨rfl, by dsimp only; omega, by dsimp only; omega, by simpa using hd, hsm, rfl⟩ ?_
  rintro ⟨d', c, s, acc, a, cap⟩ Γ junk ⟨hΓ, hc1, hc2, hl, hsm, he⟩
  dsimp only at hΓ hc1 hc2 hl hsm he ⊢
  subst hΓ
  rw [← he]
  cases d' with
  | zero =>
    repeat' (first | refine zck ?_ | refine zcp (by kernel_rfl) ?_ | (refine zap rfl ?_; first | refine zan rfl ?_ | refine zbs rfl rfl ?_) | refine zch ?_ | refine zcj rfl ?_)
    refine cut_exit rfl rfl ?_
    repeat' (first | refine zck ?_ | refine zcp (by kernel_rfl) ?_ | (refine zap rfl ?_; first | refine zan rfl ?_ | refine zan rfl ?_) | refine zch ?_)
    refine ret_tmp2 rfl ⟨a, cap, rfl, rfl⟩
  | succ d' =>
    repeat (first | refine zck ?_ | refine zcl ?_ | refine zcm ?_ | refine zcn ?_)
    first | refine zcp (by kernel_rfl) ?_ | refine zcq PP_mixed (by kernel_rfl) (by kernel_rfl) ?_
    repeat' (refine zap rfl ?_; first | refine zan rfl ?_ | refine zbs rfl rfl ?_)
    all_goals refine zch ?_
    all_goals repeat (first | refine zck ?_ | refine zcl ?_ | refine zcm ?_ | refine zcn ?_)
    refine zci (bool_eq (by simp)) ?_
    repeat (first | refine zck ?_ | refine zcl ?_ | refine zcm ?_ | refine zcn ?_)
    first | refine zcp (by kernel_rfl) ?_ | refine zcq PP_mixed (by kernel_rfl) (by kernel_rfl) ?_
    repeat' (refine zap rfl ?_; first | refine zan rfl ?_ | refine zan rfl ?_ | refine zaa 0 rfl rfl rfl ?_ | refine zah [0] (anode_spec w0 p A hA _ _ (by first | exact hsm.mono (by decide) | (repeat (first | refine sm_get ?_ | refine sm_put ?_ | refine sm_node ?_ | refine sm_take ?_ | refine sm_many ?_ | refine sm_way ?_ | refine sm_poolTake ?_ | refine sm_give ?_)); exact hsm.mono (by decide))) rfl rfl rfl sub_nil rfl ?_ | refine zan rfl ?_)
    all_goals refine zch ?_
    all_goals repeat (first | refine zck ?_ | refine zcl ?_ | refine zcm ?_ | refine zcn ?_)
    repeat (first | refine zck ?_ | refine zcl ?_ | refine zcm ?_ | refine zcn ?_)
    first | refine zcp (by kernel_rfl) ?_ | refine zcq PP_mixed (by kernel_rfl) (by kernel_rfl) ?_
    repeat' (refine zap rfl ?_; first | refine zan rfl ?_ | refine zbx rfl ?_)
    all_goals refine zch ?_
    all_goals repeat (first | refine zck ?_ | refine zcl ?_ | refine zcm ?_ | refine zcn ?_)
    have hb := A.node_bd s c
    refine run_condV rfl (fun hE => ?_) (fun hE => ?_)
    · have hE : (A.node s c).2.1 = false := by simpa using hE
      repeat' (first | refine zck ?_ | refine zcp (by kernel_rfl) ?_ | (refine zap rfl ?_; first | refine zan rfl ?_) | refine zch ?_)
      have e : A.way i (d' + 1) c s acc = (none, (A.node s c).2.2) := by simp [Ar.way, hE]
      rw [e]
      refine run_take [0] rfl ?_
      exact qret2 (fun _ _ h => h) rfl ⟨rfl, rfl⟩
    · have hE : (A.node s c).2.1 = true := by simpa using hE
      have e : A.way i (d' + 1) c s acc = A.way i d' ((A.node s c).1 + digA i (d' + 1)) (A.node s c).2.2 (acc ++ [(A.node s c).1]) := by simp [Ar.way, hE]
      have hdg := dig_bd i (d' + 1)
      repeat' (first | refine zck ?_ | refine zcp (by kernel_rfl) ?_ | refine zcm ?_ | refine zcn ?_ | (refine zap rfl ?_; first | refine reg_buildSlice rfl rfl rfl rfl rfl rfl (fun nb2 => ?_) | refine reg_append 1 2 rfl rfl rfl rfl rfl rfl rfl rfl (by first | omega | (dsimp only; omega)) (fun _ _ => rfl) (fun a' cap' => ?_) | refine zan rfl ?_ | refine zan rfl ?_ | refine zah [] (digit_spec w0 hw i (d' + 1) hi (by omega) _ (by omega)) rfl rfl rfl sub_nil rfl ?_ | refine zau rfl rfl (by omega) ?_ | refine zav rfl rfl (by omega) ?_) | refine zch ?_)
      refine run_take [0, 0] rfl ?_
      refine cut_end ⟨rfl, (d', (A.node s c).1 + digA i (d' + 1), (A.node s c).2.2, acc ++ [(A.node s c).1], a', cap'), ⟨rfl, rfl, int_eq (by dsimp only; omega), rfl, rfl, ?_, trivial⟩, ⟨?_, by dsimp only; omega, by dsimp only; omega, ?_, sm_node hsm, e.symm⟩, ?_⟩
      · rw [List.length_append]; rfl
      · have e2 : intL (acc ++ [(A.node s c).1]) = intL acc ++ [.int .i64 (A.node s c).1] := by simp [intL]
        rw [e2, List.length_append]; rfl
      · simp; omega
      · simp
end Go.Proofs.YtgdhcgnmffgkiaaGreatDoor

namespace Sim
open Go Go.Vc

theorem way_len (A : Ar) (i : Int) : ∀ (d : Nat) (c : Int) (s : Sp) (acc l : List Int), (A.way i d c s acc).1 = some l → l.length = acc.length + d ∧ ((∀ x ∈ acc, 0 ≤ x ∧ x ≤ 4096) → ∀ x ∈ l, 0 ≤ x ∧ x ≤ 4096)
  | 0, c, s, acc, l, h => by
    simp only [Ar.way, Option.some.injEq] at h
    subst h
    exact ⟨rfl, fun h => h⟩
  | d + 1, c, s, acc, l, h => by
    simp only [Ar.way] at h
    split at h
    · obtain ⟨h1, h2⟩ := way_len A i d _ _ _ l h
      refine ⟨by simp at h1; omega, fun h3 => h2 fun x hx => ?_⟩
      rcases List.mem_append.1 hx with hx | hx
      · exact h3 x hx
      · simp at hx; subst hx; exact A.node_bd s c
    · cases h

def lastD (l : List Int) : Int := l.getLastD 0
def Ar.place (A : Ar) (s : Sp) (i : Int) : Int × Int × Sp :=
  if i < 0 then (0, 3, s) else
  if (s.get (A.root + 1)).1 ≤ i then (0, 3, (s.get (A.root + 1)).2) else
  if (A.many (s.get (A.root + 1)).2).2.2.1 then
    match A.way i (A.many (s.get (A.root + 1)).2).2.1.toNat A.root (A.many (s.get (A.root + 1)).2).2.2.2 [] with
    | (none, t) => (0, 24, t)
    | (some l, t) => (lastD l + digA i 1, 0, t)
  else (0, 24, (A.many (s.get (A.root + 1)).2).2.2.2)
def Ar.get (A : Ar) (s : Sp) (i : Int) : Int × Int × Sp :=
  if (A.place s i).2.1 = 0 then (((A.place s i).2.2.get (A.place s i).1).1, 0, ((A.place s i).2.2.get (A.place s i).1).2) else (0, (A.place s i).2.1, (A.place s i).2.2)
def Ar.set (A : Ar) (s : Sp) (i v : Int) : Int × Int × Sp :=
  if (A.place s i).2.1 = 0 then (((A.place s i).2.2.get (A.place s i).1).1, 0, ((A.place s i).2.2.get (A.place s i).1).2.put (A.place s i).1 v) else (0, (A.place s i).2.1, (A.place s i).2.2)
def Ar.swap (A : Ar) (s : Sp) (i j : Int) : Int × Sp :=
  let g := s.get (A.root + 1)
  if i < 0 ∨ j < 0 ∨ g.1 ≤ i ∨ g.1 ≤ j then (3, g.2) else
  let x := A.place g.2 i
  if x.2.1 = 0 then
    let y := A.place x.2.2 j
    if y.2.1 = 0 then
      let v := y.2.2.get x.1
      let w := v.2.get y.1
      (0, (w.2.put x.1 w.1).put y.1 v.1)
    else (y.2.1, y.2.2)
  else (x.2.1, x.2.2)
theorem sm_place {A : Ar} {s : Sp} {j : Nat} {i : Int} (h : Sm s j) : Sm (A.place s i).2.2 j := by
  unfold Ar.place
  split
  · exact h
  · split
    · exact sm_get h
    · split
      · have := sm_way (A := A) (i := i) (d := (A.many (s.get (A.root + 1)).2).2.1.toNat) (c := A.root) (acc := []) (sm_many (A := A) (sm_get (a := A.root + 1) h))
        split
        · rename_i t ht; rw [ht] at this; exact this
        · rename_i l t ht; rw [ht] at this; exact this
      · exact sm_many (sm_get h)
theorem many_ok {A : Ar} {s : Sp} (h : (A.many s).2.2.1 = true) : (A.many s).1 = (s.get (A.root + 1)).1 ∧ 0 ≤ (A.many s).1 ∧ (A.many s).1 ≤ 4096 ∧ (A.many s).2.1 = dep (A.many s).1 := by
  unfold Ar.many at h ⊢
  split at h
  · cases h
  · rename_i hn
    rw [if_neg hn]
    exact ⟨rfl, by dsimp only; omega, by dsimp only; omega, rfl⟩
end Sim

namespace Go.Proofs.YtgdhcgnmffgkiaaGreatDoor
open Go.Vc Sim
set_option maxHeartbeats 4000000

theorem intL_get (l : List Int) (k : Nat) (x : Int) (h : l[k]? = some x) : nth (intL l) k = some (.int .i64 x) := by
  rw [nth_eq, intL, List.getElem?_map, h]; rfl

end Go.Proofs.YtgdhcgnmffgkiaaGreatDoor

namespace Sim
open Go Go.Vc
end Sim

namespace Go.Proofs.YtgdhcgnmffgkiaaGreatDoor
open Go.Vc Sim
set_option maxHeartbeats 4000000

end Go.Proofs.YtgdhcgnmffgkiaaGreatDoor

namespace Go.Proofs.YtgdhcgnmffgkiaaGreatDoor
open Go.Vc Sim
set_option maxHeartbeats 4000000

end Go.Proofs.YtgdhcgnmffgkiaaGreatDoor

namespace Sim
open Go Go.Vc
end Sim
namespace Go.Proofs.YtgdhcgnmffgkiaaGreatDoor
open Go.Vc Sim
set_option maxHeartbeats 4000000
end Go.Proofs.YtgdhcgnmffgkiaaGreatDoor

namespace Sim
open Go Go.Vc
def Ar.grow (A : Ar) (n : Int) (d : Nat) (s : Sp) : Int × Sp :=
  let c := if 0 < d then A.node (s.get A.root).2 A.root else (0, true, (s.get A.root).2)
  if c.2.1 then
    let t := A.take c.2.2
    if t.2.1 = 0 then (0, ((if 0 < d then t.2.2.put t.1 (s.get A.root).1 else t.2.2).put A.root t.1).put (A.root + 2) (dep (n + 1)))
    else (t.2.1, t.2.2)
  else (24, c.2.2)
def Ar.add (A : Ar) (n : Int) (d : Nat) (cell : Int) (s : Sp) : Int × Sp :=
  if n % pw (d - 1) = 0 then
    let t := A.take s
    if t.2.1 = 0 then (0, t.2.2.put cell t.1) else (t.2.1, t.2.2)
  else (0, s)
def Ar.down (A : Ar) (n : Int) : Nat → Int → Sp → Int × Int × Sp
  | 0, at_, s => (0, at_, s)
  | d + 1, at_, s =>
    if d = 0 then (0, at_, s) else
    let r := A.add n (d + 1) (at_ + digA n (d + 1)) s
    if r.1 = 0 then
      let q := A.node r.2 (at_ + digA n (d + 1))
      if q.2.1 then A.down n d q.1 q.2.2 else (24, 0, q.2.2)
    else (r.1, 0, r.2)
def Ar.rest (A : Ar) (n v : Int) (d : Nat) (s : Sp) : Int × Int × Sp :=
  let c := A.node s A.root
  if c.2.1 then
    let r := A.down n d c.1 c.2.2
    if r.1 = 0 then (n, 0, ((r.2.2.put (r.2.1 + digA n 1) v).put (A.root + 1) (n + 1))) else (0, r.1, r.2.2)
  else (0, 24, c.2.2)
def Ar.pushIn (A : Ar) (n v : Int) (d : Nat) (s : Sp) : Int × Int × Sp :=
  if d < dep (n + 1) then
    if (A.grow n d s).1 = 0 then A.rest n v (dep (n + 1)) (A.grow n d s).2 else (0, (A.grow n d s).1, (A.grow n d s).2)
  else A.rest n v d s
def Ar.undo (m : Int) (r : Int × Int × Sp) : Int × Int × Sp := (r.1, r.2.1, if r.2.1 ≠ 0 then r.2.2.back m else r.2.2)
def Ar.push (A : Ar) (s : Sp) (v : Int) : Int × Int × Sp :=
  let m := A.many s
  if m.2.2.1 then if m.1 = 4096 then (0, 9, m.2.2.2) else Ar.undo m.2.2.2.puts.length (A.pushIn m.1 v m.2.1.toNat m.2.2.2) else (0, 24, m.2.2.2)

end Sim

namespace Go.Proofs.YtgdhcgnmffgkiaaGreatDoor
open Go.Vc Sim
set_option maxHeartbeats 4000000
abbrev eV (eb : Nat) (e : Int) : Asn := pt eb (.cells (List.toArray [.int .i64 e]) 39 (0, 0))
abbrev ptrA (b : Nat) : Value := .pointer (some ⟨b, 0, none⟩)

def pushRV (p : Nat) (r : Int × Int × Sp) (v' : Value) (Γ'' : List Asn) : Prop := v' = .tuple #[.int .i64 r.1, .int .i64 r.2.1] ∧ Γ'' = [SpaceA p r.2.2]

end Go.Proofs.YtgdhcgnmffgkiaaGreatDoor

namespace Sim
open Go Go.Vc
def Ar.gives (A : Ar) (n : Int) (d now : Nat) : List Int → Nat → Int → Sp → Int × Int × Sp
  | [], _, gone, s => (0, gone, s)
  | a :: l, i, gone, s =>
    if (n - 1) % pw (d - i) ≠ 0 ∧ (0 < i ∨ now = d) then A.gives n d now l (i + 1) gone s
    else if (A.pool.give s a).1 = 0 then A.gives n d now l (i + 1) (gone + 1) (A.pool.give s a).2 else ((A.pool.give s a).1, gone, (A.pool.give s a).2)
def Ar.fell (A : Ar) (n : Int) (d now : Nat) (top gone : Int) (s : Sp) : Sp :=
  let s1 := if 0 < gone then (s.get (A.root + 7)).2.put (A.root + 7) (w64 ((s.get (A.root + 7)).1 - gone)) else s
  let s2 := if now < d then (s1.put A.root top).put (A.root + 2) now else s1
  s2.put (A.root + 1) (n - 1)
def Ar.popOn (A : Ar) (n : Int) (d now : Nat) (l : List Int) (v top : Int) (s : Sp) : Int × Int × Sp :=
  let g := A.gives n d now l 0 0 s
  if g.1 = 0 then (v, 0, A.fell n d now top g.2.1 g.2.2) else (0, g.1, g.2.2)
def Ar.popIn (A : Ar) (n : Int) (d : Nat) (s : Sp) : Int × Int × Sp :=
  match A.way (n - 1) d A.root s [] with
  | (none, t) => (0, 24, t)
  | (some l, t) =>
    let g := t.get (l.getD (d - 1) 0 + digA (n - 1) 1)
    let now := dep (n - 1)
    if 0 < now ∧ now < d then
      let x := A.node g.2 (l.getD 0 0)
      if x.2.1 then A.popOn n d now l g.1 x.1 x.2.2 else (0, 24, x.2.2)
    else A.popOn n d now l g.1 (if 0 < now then l.getD 0 0 else 0) g.2
def Ar.undoPop (m : Int) (r : Int × Int × Sp) : Int × Int × Sp := if r.2.1 ≠ 0 then (0, r.2.1, r.2.2.back m) else r
def Ar.pop (A : Ar) (s : Sp) : Int × Int × Sp :=
  let m := A.many s
  if m.1 = 0 then (0, 8, m.2.2.2) else
  if m.2.2.1 then Ar.undoPop m.2.2.2.puts.length (A.popIn m.1 m.2.1.toNat m.2.2.2) else (0, 24, m.2.2.2)

end Sim

namespace Go.Proofs.YtgdhcgnmffgkiaaGreatDoor
open Go.Vc Sim
set_option maxHeartbeats 4000000
abbrev vV (vb : Nat) (x : Int) : Asn := pt vb (.cells (List.toArray [.int .i64 x]) 2 (0, 0))
abbrev mVA (b : Nat) (x : Int) : Asn := pt b (.cells (List.toArray [.int .i64 x]) 3 (0, 0))
abbrev sV (b p : Nat) : Asn := pt b (.cells (List.toArray [spP p]) 24 (0, 0))

theorem aback_spec (w0 : World) (p : Nat) (s : Sp) (m : Int) (eb : Nat) (e : Int) : FnE PP w0 [] 161 [spP p, .int .i64 m, ptrA eb] [SpaceA p s, eV eb e]
    (.tuple #[]) [SpaceA p (if e ≠ 0 then s.back m else s), eV eb e] := by
  refine fn_of_run en161 fn161 rfl rfl rfl ?_
  repeat' (first | refine zck ?_ | refine zcp (by kernel_rfl) ?_ | (refine zap rfl ?_; first | refine zan rfl ?_ | refine zab 1 rfl rfl rfl ?_ | refine zbp rfl rfl ?_ | refine zan rfl ?_) | refine zch ?_)
  refine run_cond rfl (fun hE => ?_) (fun hE => ?_)
  · repeat' (first | refine zcp (by kernel_rfl) ?_ | (refine zap rfl ?_; first | refine zan rfl ?_ | refine zah [0] (back_spec w0 p s m) rfl rfl rfl sub_nil rfl ?_) | refine zch ?_)
    rw [if_pos hE]; exact end_tmp0 rfl ⟨rfl, rfl⟩
  · repeat' (first | refine zcm ?_ | (refine zap rfl ?_; first | refine zan rfl ?_) | refine zch ?_)
    rw [if_neg hE]; exact end_tmp0 rfl ⟨rfl, rfl⟩

theorem pop1_specD (w0 : World) (p : Nat) (s : Sp) (mk e x : Int) (b3 b9 eb vb : Nat) : FnD PP w0 [] 166 [ptrA b3, ptrA b9, ptrA eb, ptrA vb] [SpaceA p s, eV eb e, vV vb x, sV b3 p, mVA b9 mk]
    fun v Γ' => v = .tuple #[] ∧ Γ' = [SpaceA p (if e ≠ 0 then s.back mk else s), eV eb e, vV vb (if e ≠ 0 then 0 else x), sV b3 p, mVA b9 mk] := by
  refine fnD_of_run en166 fn166 rfl rfl rfl ?_
  repeat' (first | refine zck ?_ | refine zcp (by kernel_rfl) ?_ | (refine zap rfl ?_; first | refine zab 1 rfl rfl rfl ?_ | refine zab 3 rfl rfl rfl ?_ | refine zab 4 rfl rfl rfl ?_ | refine zah [0, 0] (aback_spec w0 p s mk eb e) rfl rfl rfl sub_nil rfl ?_ | refine zbp rfl rfl ?_) | refine zch ?_)
  by_cases hE : e ≠ 0
  · refine zci (bool_eq (decide_eq_true hE)) ?_
    repeat' (first | refine zcp (by kernel_rfl) ?_ | (refine zap rfl ?_; first | refine zae 2 rfl rfl rfl rfl rfl rfl rfl ?_) | refine zch ?_)
    refine run_nil ⟨rfl, ends_none rfl ?_⟩
    rw [if_pos hE, if_pos hE]; exact ⟨rfl, rfl⟩
  · refine zcj (bool_eq (decide_eq_false hE)) ?_
    repeat' (first | refine zcm ?_ | (refine zap rfl ?_; first | refine zaj rfl ?_ | refine zak rfl ?_ | refine zal rfl ?_ | refine zam rfl rfl (fun _ => ?_) (fun _ => ?_)) | refine zch ?_)
    refine run_nil ⟨rfl, ends_none rfl ?_⟩
    rw [if_neg hE, if_neg hE]; exact ⟨rfl, rfl⟩

def popD (b3 b9 eb vb : Nat) : Deferred := { target := .fn (.func 166) (List.toArray [ptrA b3, ptrA b9, ptrA eb, ptrA vb]), args := List.toArray [] }

theorem pop_fin (w0 : World) (p b3 b9 eb vb : Nat) (mk : Int) (r : Int × Int × Sp) (x e : Int) (s' : Sp) (ρ : Env) (h4 : ρ 4 = ptrA vb) (h5 : ρ 5 = ptrA eb) (hr : r = (x, e, s')) :
    LeavesS PP w0 [] Tryz.f80 ρ [popD b3 b9 eb vb] [SpaceA p s', vV vb x, eV eb e, mVA b9 mk, sV b3 p] (pushRV p (Ar.undoPop mk r)) := by
  subst hr
  refine leaves_defer1 [0, 1, 0, 1, 0] (pop1_specD w0 p s' mk e x b3 b9 eb vb) rfl rfl sub_nil ?_
  refine leaves_nil (ends_take [0] rfl (ends_two rfl (resOk_pt 2 h4 rfl rfl) (resOk_pt 1 h5 rfl rfl) ?_))
  refine ⟨rfl, ?_⟩
  unfold Ar.undoPop
  by_cases hE : e ≠ 0
  · simp only [if_pos hE]; exact ⟨rfl, rfl⟩
  · simp only [if_neg hE]; exact ⟨rfl, rfl⟩
end Go.Proofs.YtgdhcgnmffgkiaaGreatDoor

