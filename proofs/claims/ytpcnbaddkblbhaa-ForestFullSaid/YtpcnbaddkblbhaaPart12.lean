import Derived.Test.YtpcnbaddkblbhaaPart11
/- Lemmas and walks for the claims of this seat (own work): Lw8. -/
/- The law's statements: ForestPlays, ForestFull. -/
namespace Go.Proofs.Ytpcnbaddkblbhaa
open Go.Vc Sim
set_option maxHeartbeats 8000000
theorem great_spec (w0 : World) (a : Option Addr) (len cap : Nat) : FnE PP w0 [] 9 [.slice a len cap] [] (.bool (decide ((len : Int) > 100))) [] := by
  refine fn_of_run en9 fn9 rfl rfl rfl ?_
  repeat' (first | refine zck ?_ | refine zcp (by kernel_rfl) ?_ | (refine zap rfl ?_; first | ((with_reducible refine zcu ?_); refine zan rfl ?_) | ((with_reducible refine zcv ?_); refine zan rfl ?_) | ((with_reducible refine zcx ?_); refine zce rfl ?_) | ((with_reducible refine zda ?_); refine zbs rfl rfl ?_)) | refine zch ?_)
  exact ret_tmp1 rfl ⟨rfl, rfl⟩
theorem plays_spec (w0 : World) (nn : Int) (hn : u8P nn) (v : Value) (l : List Cl) (hv : InSl w0 Cl.cells 3 v l) (hok : ∀ x ∈ l, x.ok) :
    FnE PP w0 [] 3 [.int .u8 nn, v] [] (.bool true) [] := by
  have hr := hv.rd (sh := [])
  obtain ⟨a, cap, rfl, hmax, hmem⟩ := hv
  have hG := great_spec w0 a l.length cap
  have hA := awake_spec w0
  by_cases hl : (l.length : Int) > 100
  · rw [decide_eq_true hl] at hG
    refine fn_of_run en3 fn3 rfl rfl rfl ?_
    repeat' (first | refine zck ?_ | refine zcp (by kernel_rfl) ?_ | (refine zap rfl ?_; first | ((with_reducible refine zcu ?_); refine zan rfl ?_) | ((with_reducible refine zcv ?_); refine zan rfl ?_) | ((with_reducible refine zcx ?_); first | refine zah [] hG rfl rfl rfl sub_nil rfl ?_ | refine zah [] hA rfl rfl rfl sub_nil rfl ?_)) | refine zch ?_ | refine zci rfl ?_)
    exact ret_tmp1 rfl ⟨rfl, rfl⟩
  · rw [decide_eq_false hl] at hG
    refine fn_of_run en3 fn3 rfl rfl rfl ?_
    repeat' (first | refine zck ?_ | refine zcp (by kernel_rfl) ?_ | refine zcm ?_ | (refine zap rfl ?_; first | (refine zai [] (played_spec w0 [] nn hn _ l hr hok (by omega)) rfl rfl rfl sub_nil ?_; rintro v Γ' ⟨⟨m, r, ad, hM⟩, wb, kn, rfl, rfl, hW⟩) | ((with_reducible refine zct ?_); refine zaj rfl ?_) | ((with_reducible refine zcu ?_); refine zan rfl ?_) | ((with_reducible refine zcv ?_); refine zan rfl ?_) | ((with_reducible refine zcx ?_); first | refine zah [] hG rfl rfl rfl sub_nil rfl ?_ | refine zah [] hA rfl rfl rfl sub_nil rfl ?_) | ((with_reducible refine zcz ?_); refine zan rfl ?_) | ((with_reducible refine zdc ?_); refine zbu rfl ?_) | ((with_reducible refine zdd ?_); refine zae 4 rfl rfl rfl rfl rfl rfl rfl ?_) | ((with_reducible refine zdh ?_); refine zar (fun nb => ?_))) | refine zch ?_ | refine zcj rfl ?_)
    exact run_ret (leaves_nil (ends_take [] rfl (ends_one rfl rfl ⟨rfl, rfl, rfl⟩)))
theorem full_spec (w0 : World) (nn : Int) (hn : u8P nn) : FnE PP w0 [] 7 [.int .u8 nn] [] (.bool true) [] := by
  have hA := awake_spec w0
  have hMd := made_spec w0 38 (by decide)
  have hF := fresh_spec w0 368 (by decide)
  have hK : (0 : Int) ≤ 38 ∧ (38 : Int) ≤ 38 := by decide
  have hn8 : nn.tmod 8 = nn % 8 := Int.tmod_eq_emod_of_nonneg hn.1
  refine fn_of_run en7 fn7 rfl rfl rfl ?_
  repeat (first | refine zck ?_ | refine zcl ?_ | refine zcm ?_ | refine zcn ?_)
  first | refine zcp (by kernel_rfl) ?_ | refine zcq PP_mixed (by kernel_rfl) (by kernel_rfl) ?_
  repeat' (refine zap rfl ?_; first | ((with_reducible refine zcv ?_); refine zan rfl ?_))
  all_goals refine zch ?_
  all_goals repeat (first | refine zck ?_ | refine zcl ?_ | refine zcm ?_ | refine zcn ?_)
  repeat (first | refine zck ?_ | refine zcl ?_ | refine zcm ?_ | refine zcn ?_)
  first | refine zcp (by kernel_rfl) ?_ | refine zcq PP_mixed (by kernel_rfl) (by kernel_rfl) ?_
  repeat' (refine zap rfl ?_; first | ((with_reducible refine zcx ?_); first | (refine zai [] hF rfl rfl rfl sub_nil ?_; rintro v Γ' ⟨wb, rfl, rfl⟩) | refine zah [] hMd rfl rfl rfl sub_nil rfl ?_) | ((with_reducible refine zdd ?_); refine zae 1 rfl rfl rfl rfl rfl rfl rfl ?_) | ((with_reducible refine zdh ?_); refine zar (fun nb => ?_)) | refine zcb rfl ?_)
  all_goals refine zch ?_
  all_goals repeat (first | refine zck ?_ | refine zcl ?_ | refine zcm ?_ | refine zcn ?_)
  revert nb; intro xb
  repeat (first | refine zck ?_ | refine zcl ?_ | refine zcm ?_ | refine zcn ?_)
  first | refine zcp (by kernel_rfl) ?_ | refine zcq PP_mixed (by kernel_rfl) (by kernel_rfl) ?_
  repeat' (refine zap rfl ?_; first | (refine reg_rem rfl rfl (by decide) ?_; rw [hn8]) | refine zbz rfl (by omega) ?_ | ((with_reducible refine zcu ?_); refine zan rfl ?_) | ((with_reducible refine zda ?_); refine zau rfl rfl (by omega) ?_))
  all_goals refine zch ?_
  all_goals repeat (first | refine zck ?_ | refine zcl ?_ | refine zcm ?_ | refine zcn ?_)
  generalize hN : 60 + nn % 8 = N
  have hNb : 60 ≤ N ∧ N ≤ 67 := by omega
  clear hN
  obtain ⟨q, rfl⟩ : ∃ q : Nat, N = q := ⟨N.toNat, by omega⟩
  refine run_slots [(3, ptr xb), (15, .int .i64 q), (16, .int .i64 0)] ⟨rfl, rfl, rfl, trivial⟩ (fun junk => ?_)
  refine run_emp (A := LstA 3 (.slice none 0 0) []) ⟨none, 0, rfl, SlA_nil⟩ ?_
  refine run_emp (A := LstA 3 (.slice none 0 0) []) ⟨none, 0, rfl, SlA_nil⟩ ?_
  refine run_emp (A := LstA 3 (.slice none 0 0) []) ⟨none, 0, rfl, SlA_nil⟩ ?_
  refine run_loop (S := Nat × Rl × Nat × List (Int × Wd) × (Int → Int)) (fun st => [(3, ptr xb), (15, .int .i64 q), (16, .int .i64 (st.1 : Int))])
    (fun st Γ => Γ = wdA st.2.2.1 st.2.2.2.1 :: stB xb st.2.2.1 38 st.2.1 (min st.1 64) [] :: rl3 st.2.1 (min st.1 64) [] ∧ st.1 ≤ q ∧
      WM 368 st.1 st.2.2.2.1 st.2.2.2.2 ∧ ∃ ad, Mm 38 st.2.2.2.2 (min st.1 64) (nC (min st.1 64)) (tC (min st.1 64)) [] ad) (fun st => q - st.1) (0, ⟨none, 0, none, 0, none, 0⟩, wb, wk 0 (List.replicate 368 0), fun _ => 0) ⟨rfl, rfl, rfl, trivial⟩ ⟨rfl, Nat.zero_le _, fresh_WM 368 (by decide), _, Mm.zero 38 hK⟩ ?_
  rintro ⟨i, r, wb, kn, m⟩ Γ junk ⟨rfl, hi, hW, ad, hM⟩
  dsimp only at hi hW hM ⊢
  by_cases hlt : i < q
  · have hst : stepJ 38 (min i 64) [] 0 0 0 = (min (i + 1) 64, []) := by
      unfold stepJ
      rw [if_neg (by decide), if_neg (by decide), if_neg (by decide)]
      by_cases h64 : i < 64
      · rw [if_pos ⟨by omega, by unfold cN; omega⟩]
        congr 1
        omega
      · rw [if_neg (by omega)]
        congr 1
        omega
    have hS := fun sh => step_spec w0 sh wb hK r kn i (by omega) hW hM 0 0 0 (by decide) (by decide) (by decide) (min (i + 1) 64) [] hst
    have hbl := bL_len (min (i + 1) 64) []
    repeat (first | refine zck ?_ | refine zcl ?_ | refine zcm ?_ | refine zcn ?_)
    first | refine zcp (by kernel_rfl) ?_ | refine zcq PP_mixed (by kernel_rfl) (by kernel_rfl) ?_
    repeat' (refine zap rfl ?_; first | ((with_reducible refine zda ?_); refine zbg rfl rfl (by omega) ?_))
    all_goals refine zch ?_
    all_goals repeat (first | refine zck ?_ | refine zcl ?_ | refine zcm ?_ | refine zcn ?_)
    refine zci rfl ?_
    repeat (first | refine zck ?_ | refine zcl ?_ | refine zcm ?_ | refine zcn ?_)
    first | refine zcp (by kernel_rfl) ?_ | refine zcq PP_mixed (by kernel_rfl) (by kernel_rfl) ?_
    repeat' (refine zap rfl ?_; first | ((with_reducible refine zcu ?_); refine zan rfl ?_) | ((with_reducible refine zcv ?_); refine zan rfl ?_))
    all_goals refine zch ?_
    all_goals repeat (first | refine zck ?_ | refine zcl ?_ | refine zcm ?_ | refine zcn ?_)
    repeat (first | refine zck ?_ | refine zcl ?_ | refine zcm ?_ | refine zcn ?_)
    first | refine zcp (by kernel_rfl) ?_ | refine zcq PP_mixed (by kernel_rfl) (by kernel_rfl) ?_
    repeat' (refine zap rfl ?_; first | refine zcb rfl ?_ | (refine zai [0, 1, 1, 1] (hS []) rfl rfl rfl sub_nil ?_; rintro v Γ' ⟨⟨m1, r1, ad1, hM1⟩, wb1, kn1, rfl, rfl, hW1⟩) | ((with_reducible refine zcu ?_); refine zan rfl ?_) | ((with_reducible refine zcv ?_); refine zan rfl ?_) | ((with_reducible refine zcw ?_); refine zab 1 rfl rfl rfl ?_) | ((with_reducible refine zcz ?_); refine zan rfl ?_) | ((with_reducible refine zdd ?_); refine zae 5 rfl rfl rfl rfl rfl rfl rfl ?_) | ((with_reducible refine zdh ?_); refine zar (fun nb => ?_)))
    all_goals refine zch ?_
    all_goals repeat (first | refine zck ?_ | refine zcl ?_ | refine zcm ?_ | refine zcn ?_)
    revert nb; intro nx
    repeat (first | refine zck ?_ | refine zcl ?_ | refine zcm ?_ | refine zcn ?_)
    first | refine zcp (by kernel_rfl) ?_ | refine zcq PP_mixed (by kernel_rfl) (by kernel_rfl) ?_
    repeat' (refine zap rfl ?_; first | ((with_reducible refine zct ?_); refine zaj rfl ?_) | ((with_reducible refine zcu ?_); refine zan rfl ?_) | ((with_reducible refine zcw ?_); refine zab 5 rfl rfl rfl ?_) | ((with_reducible refine zcx ?_); first | refine zce rfl ?_ | refine zcg rfl rfl ?_) | ((with_reducible refine zcy ?_); refine zao rfl ?_) | ((with_reducible refine zda ?_); first | refine zbf rfl rfl (by omega) ?_ | refine zau rfl rfl (by omega) ?_) | ((with_reducible refine zdb ?_); refine zbx rfl ?_) | ((with_reducible refine zdc ?_); refine zbv rfl ?_))
    all_goals refine zch ?_
    all_goals repeat (first | refine zck ?_ | refine zcl ?_ | refine zcm ?_ | refine zcn ?_)
    refine zcj rfl ?_
    repeat' (first | refine zcp (by kernel_rfl) ?_ | refine zcm ?_ | refine zcn ?_ | (refine zap rfl ?_; first | ((with_reducible refine zcu ?_); refine zan rfl ?_) | ((with_reducible refine zcw ?_); refine zab 5 rfl rfl rfl ?_) | ((with_reducible refine zda ?_); refine zau rfl rfl (by omega) ?_) | ((with_reducible refine zdd ?_); refine zae 4 rfl rfl rfl rfl rfl rfl rfl ?_)) | refine zch ?_)
    refine run_take [0, 3, 0, 0, 0] rfl ?_
    refine cut_end ⟨rfl, (i + 1, r1, wb1, kn1, m1), ⟨rfl, rfl, congrArg (Value.int .i64) (by dsimp only; omega), trivial⟩, ⟨rfl, by dsimp only; omega, ?_, ad1, hM1⟩, by dsimp only; omega⟩
    exact (show ((i + 1 : Nat) : Int) = (i : Int) + 1 by omega) ▸ hW1
  · have hil : i = q := by omega
    have hk : min i 64 = min q 64 := by rw [hil]
    have hkb : 1 ≤ min q 64 ∧ min q 64 ≤ 64 := by omega
    rw [hk] at hM
    rw [hk]
    generalize min q 64 = k at hM hkb
    have hbl := bL_len k []
    obtain ⟨k', J'⟩ : Nat × Jn := stepJ 38 k [] 2 1 ((bL k []).length : Int)
    have hS := step_spec w0 [] wb hK r kn i (by omega) hW hM 2 1 ((bL k []).length : Int) (by decide) (by decide) (by omega) (stepJ 38 k [] 2 1 ((bL k []).length : Int)).1 (stepJ 38 k [] 2 1 ((bL k []).length : Int)).2 rfl
    repeat' (first | refine zck ?_ | refine zcp (by kernel_rfl) ?_ | (refine zap rfl ?_; first | ((with_reducible refine zda ?_); refine zbh rfl rfl (by omega) ?_)) | refine zch ?_ | refine zcj rfl ?_)
    refine cut_exit rfl rfl ?_
    repeat (first | refine zck ?_ | refine zcl ?_ | refine zcm ?_ | refine zcn ?_)
    first | refine zcp (by kernel_rfl) ?_ | refine zcq PP_mixed (by kernel_rfl) (by kernel_rfl) ?_
    repeat' (refine zap rfl ?_; first | refine zcb rfl ?_ | (refine zai [0, 1, 1, 1] hS rfl rfl rfl sub_nil ?_; rintro v Γ' ⟨⟨m1, r1, ad1, hM1⟩, wb1, kn1, rfl, rfl, hW1⟩) | ((with_reducible refine zcu ?_); refine zan rfl ?_) | ((with_reducible refine zcv ?_); refine zan rfl ?_) | ((with_reducible refine zcw ?_); refine zab 1 rfl rfl rfl ?_) | ((with_reducible refine zcx ?_); refine zce rfl ?_) | ((with_reducible refine zcy ?_); refine zao rfl ?_) | ((with_reducible refine zcz ?_); refine zan rfl ?_) | ((with_reducible refine zdd ?_); refine zae 5 rfl rfl rfl rfl rfl rfl rfl ?_) | ((with_reducible refine zdh ?_); refine zar (fun nb => ?_)))
    all_goals refine zch ?_
    all_goals repeat (first | refine zck ?_ | refine zcl ?_ | refine zcm ?_ | refine zcn ?_)
    have hI := is_spec w0 [] wb1 hK r1 kn1 (i + 1) (by omega) hW1 hM1
    repeat' (first | refine zcp (by kernel_rfl) ?_ | (refine zap rfl ?_; first | (refine zai [0, 0, 0, 0] hI rfl rfl rfl sub_nil ?_; rintro v Γ' ⟨rfl, rfl⟩) | ((with_reducible refine zct ?_); refine zaj rfl ?_) | ((with_reducible refine zcu ?_); refine zan rfl ?_) | ((with_reducible refine zcv ?_); refine zan rfl ?_) | ((with_reducible refine zcw ?_); refine zab 5 rfl rfl rfl ?_) | ((with_reducible refine zcx ?_); refine zah [] hA rfl rfl rfl sub_nil rfl ?_) | ((with_reducible refine zdc ?_); refine zbu rfl ?_)) | refine zch ?_)
    exact run_ret (leaves_nil (ends_take [] rfl (ends_one rfl rfl ⟨rfl, rfl, rfl⟩)))
end Go.Proofs.Ytpcnbaddkblbhaa

