import Derived.Test.YtpcnbaddkblbhaaPart5
/- Lemmas and walks for the claims of this seat (own work): Un3. -/
/- The law's ForestUndoes. -/
namespace Go.Proofs.Ytpcnbaddkblbhaa
open Go.Vc Sim
set_option maxHeartbeats 8000000
abbrev encP2 (x : Int × Int) : List Value := [.int .u8 x.1, .int .u8 x.2]
/-- Where the joins stand. -/
structure Us where
  i : Nat
  wb : Nat
  kn : List (Int × Wd)
  m : Int → Int
  k : Nat
  J : Jn
  H : List Nat
  a : Option Addr
  cap : Nat
  vs : List Value
structure UsOk (K : Int) (T : Nat) (s : Us) : Prop where
  w : WM 368 ((T + s.i : Nat) : Int) s.kn s.m
  mm : ∃ ad, Mm K s.m s.k (nC s.k) (tC s.k) s.J ad
  vs : s.vs.length = s.H.length
  hj : s.H.length ≤ s.J.length
  hk : ∀ h ∈ s.H, h ≤ s.k
theorem undoes_spec (w0 : World) (nn : Int) (hn : u8P nn) (v : Value) (l : List Cl) (hv : InSl w0 Cl.cells 3 v l) (hok : ∀ x ∈ l, x.ok) (v2 : Value) (pr : List (Int × Int)) (hv2 : InSl w0 encP2 2 v2 pr) (hok2 : ∀ x ∈ pr, u8P x.1 ∧ u8P x.2) :
    FnE PP w0 [] 4 [.int .u8 nn, v, v2] [] (.bool true) [] := by
  have hr := hv.rd (sh := [])
  have hr2 := hv2.rd (sh := [])
  obtain ⟨a, cap, rfl, hmax, hmem⟩ := hv
  obtain ⟨a2, cap2, rfl, hmax2, hmem2⟩ := hv2
  have hG := great_spec w0 a l.length cap
  have hA := awake_spec w0
  by_cases hl : (l.length : Int) > 100
  · rw [decide_eq_true hl] at hG
    refine fn_of_run en4 fn4 rfl rfl rfl ?_
    repeat' (first | refine zck ?_ | refine zcp (by kernel_rfl) ?_ | (refine zap rfl ?_; first | ((with_reducible refine zct ?_); refine zak rfl ?_) | ((with_reducible refine zcu ?_); refine zan rfl ?_) | ((with_reducible refine zcv ?_); refine zan rfl ?_) | ((with_reducible refine zcx ?_); first | refine zah [] hG rfl rfl rfl sub_nil rfl ?_ | refine zah [] hA rfl rfl rfl sub_nil rfl ?_) | ((with_reducible refine zdc ?_); refine zbu rfl ?_)) | refine zch ?_ | refine zci rfl ?_)
    exact ret_tmp1 rfl ⟨rfl, rfl⟩
  rw [decide_eq_false hl] at hG
  by_cases hl2 : (pr.length : Int) > 20
  · refine fn_of_run en4 fn4 rfl rfl rfl ?_
    repeat' (first | refine zck ?_ | refine zcp (by kernel_rfl) ?_ | (refine zap rfl ?_; first | ((with_reducible refine zct ?_); refine zaj rfl ?_) | ((with_reducible refine zcu ?_); refine zan rfl ?_) | ((with_reducible refine zcv ?_); refine zan rfl ?_) | ((with_reducible refine zcx ?_); first | refine zah [] hG rfl rfl rfl sub_nil rfl ?_ | refine zah [] hA rfl rfl rfl sub_nil rfl ?_ | refine zce rfl ?_) | ((with_reducible refine zda ?_); refine zbk rfl rfl (by omega) ?_) | ((with_reducible refine zdc ?_); refine zbv rfl ?_)) | refine zch ?_ | refine zci rfl ?_)
    exact ret_tmp1 rfl ⟨rfl, rfl⟩
  have hP := played_spec w0 [] nn hn _ l hr hok (by omega)
  have hK : 0 ≤ nn % 39 ∧ nn % 39 ≤ 38 := by omega
  generalize nn % 39 = K at hK hP
  generalize plJ K l l.length = kJ at hP
  obtain ⟨k0, J0⟩ := kJ
  refine fn_of_run en4 fn4 rfl rfl rfl ?_
  repeat (first | refine zck ?_ | refine zcl ?_ | refine zcm ?_ | refine zcn ?_)
  first | refine zcp (by kernel_rfl) ?_ | refine zcq PP_mixed (by kernel_rfl) (by kernel_rfl) ?_
  repeat' (refine zap rfl ?_; first | ((with_reducible refine zcv ?_); refine zan rfl ?_))
  all_goals refine zch ?_
  all_goals repeat (first | refine zck ?_ | refine zcl ?_ | refine zcm ?_ | refine zcn ?_)
  repeat (first | refine zck ?_ | refine zcl ?_ | refine zcm ?_ | refine zcn ?_)
  first | refine zcp (by kernel_rfl) ?_ | refine zcq PP_mixed (by kernel_rfl) (by kernel_rfl) ?_
  repeat' (refine zap rfl ?_; first | ((with_reducible refine zct ?_); refine zaj rfl ?_) | ((with_reducible refine zcu ?_); refine zan rfl ?_) | ((with_reducible refine zcx ?_); first | refine zah [] hG rfl rfl rfl sub_nil rfl ?_ | refine zce rfl ?_) | ((with_reducible refine zda ?_); refine zbl rfl rfl (by omega) ?_) | ((with_reducible refine zdc ?_); refine zbv rfl ?_))
  all_goals refine zch ?_
  all_goals repeat (first | refine zck ?_ | refine zcl ?_ | refine zcm ?_ | refine zcn ?_)
  refine zcj rfl ?_
  repeat (first | refine zck ?_ | refine zcl ?_ | refine zcm ?_ | refine zcn ?_ | refine zco ?_)
  repeat (first | refine zck ?_ | refine zcl ?_ | refine zcm ?_ | refine zcn ?_)
  first | refine zcp (by kernel_rfl) ?_ | refine zcq PP_mixed (by kernel_rfl) (by kernel_rfl) ?_
  repeat' (refine zap rfl ?_; first | (refine zai [] hP rfl rfl rfl sub_nil ?_; rintro v Γ' ⟨⟨m, r, ad, hM⟩, wb0, kn, rfl, rfl, hW⟩) | ((with_reducible refine zcu ?_); refine zan rfl ?_) | ((with_reducible refine zcv ?_); refine zan rfl ?_) | ((with_reducible refine zcz ?_); refine zan rfl ?_) | ((with_reducible refine zdd ?_); refine zae 4 rfl rfl rfl rfl rfl rfl rfl ?_) | ((with_reducible refine zdh ?_); refine zar (fun nb => ?_)))
  all_goals refine zch ?_
  all_goals repeat (first | refine zck ?_ | refine zcl ?_ | refine zcm ?_ | refine zcn ?_)
  revert nb; intro xb
  refine run_share [4] rfl ?_
  refine run_take [0] rfl ?_
  repeat (first | refine zck ?_ | refine zcl ?_ | refine zcm ?_ | refine zcn ?_)
  first | refine zcp (by kernel_rfl) ?_ | refine zcq PP_mixed (by kernel_rfl) (by kernel_rfl) ?_
  repeat' (refine zap rfl ?_; first | ((with_reducible refine zcu ?_); refine zan rfl ?_) | ((with_reducible refine zdb ?_); refine zbx rfl ?_))
  all_goals refine zch ?_
  all_goals repeat (first | refine zck ?_ | refine zcl ?_ | refine zcm ?_ | refine zcn ?_)
  refine zcj rfl ?_
  repeat (first | refine zck ?_ | refine zcl ?_ | refine zcm ?_ | refine zcn ?_ | refine zco ?_)
  repeat (first | refine zck ?_ | refine zcl ?_ | refine zcm ?_ | refine zcn ?_)
  first | refine zcp (by kernel_rfl) ?_ | refine zcq PP_mixed (by kernel_rfl) (by kernel_rfl) ?_
  repeat' (refine zap rfl ?_; first | ((with_reducible refine zcv ?_); refine zan rfl ?_) | refine zan rfl ?_)
  all_goals refine zch ?_
  all_goals repeat (first | refine zck ?_ | refine zcl ?_ | refine zcm ?_ | refine zcn ?_)
  repeat (first | refine zck ?_ | refine zcl ?_ | refine zcm ?_ | refine zcn ?_)
  first | refine zcp (by kernel_rfl) ?_ | refine zcq PP_mixed (by kernel_rfl) (by kernel_rfl) ?_
  repeat' (refine zap rfl ?_; first | refine zaa 0 rfl rfl rfl ?_ | ((with_reducible refine zcv ?_); refine zan rfl ?_) | ((with_reducible refine zcy ?_); refine zao rfl ?_))
  all_goals refine zch ?_
  all_goals repeat (first | refine zck ?_ | refine zcl ?_ | refine zcm ?_ | refine zcn ?_)
  repeat (first | refine zck ?_ | refine zcl ?_ | refine zcm ?_ | refine zcn ?_)
  first | refine zcp (by kernel_rfl) ?_ | refine zcq PP_mixed (by kernel_rfl) (by kernel_rfl) ?_
  repeat' (refine zap rfl ?_; first | ((with_reducible refine zcv ?_); refine zan rfl ?_))
  all_goals refine zch ?_
  all_goals repeat (first | refine zck ?_ | refine zcl ?_ | refine zcm ?_ | refine zcn ?_)
  repeat (first | refine zck ?_ | refine zcl ?_ | refine zcm ?_ | refine zcn ?_)
  first | refine zcp (by kernel_rfl) ?_ | refine zcq PP_mixed (by kernel_rfl) (by kernel_rfl) ?_
  repeat' (refine zap rfl ?_; first | ((with_reducible refine zcu ?_); refine zan rfl ?_) | ((with_reducible refine zcx ?_); refine zce rfl ?_))
  all_goals refine zch ?_
  all_goals repeat (first | refine zck ?_ | refine zcl ?_ | refine zcm ?_ | refine zcn ?_)
  refine run_nilslice 41 1 ?_
  refine run_emp (A := StarsA (lsA 2 [] [])) rfl ?_
  refine run_slots [(7, ptr xb), (9, .func (.func 12) #[] (List.toArray [ptr xb])), (10, .map (some wb0)), (11, .slice none 0 0), (50, .slice a2 pr.length cap2), (51, .int .i64 (pr.length : Nat)), (52, .int .i64 0)] ⟨rfl, rfl, rfl, rfl, rfl, rfl, rfl, trivial⟩ (fun junk => ?_)
  refine run_loop (S := Us) (fun s => [(7, ptr xb), (9, .func (.func 12) #[] (List.toArray [ptr xb])), (10, .map (some s.wb)), (11, .slice s.a s.vs.length s.cap), (50, .slice a2 pr.length cap2), (51, .int .i64 (pr.length : Nat)), (52, .int .i64 (s.i : Int))])
    (fun s Γ => Γ = [wdA s.wb s.kn, SlA 41 1 s.a s.vs.length s.cap s.vs, StarsA (lsA 2 s.vs (snaps s.J s.H).reverse)] ∧ s.i ≤ pr.length ∧ UsOk K l.length s) (fun s => pr.length - s.i) ⟨0, wb0, kn, m, k0, J0, [], none, 0, []⟩ ⟨rfl, rfl, rfl, rfl, rfl, rfl, rfl, trivial⟩ ⟨by cases J0 <;> rfl, Nat.zero_le _, ⟨hW, ⟨ad, hM⟩, rfl, Nat.zero_le _, by simp⟩⟩ ?_
  rintro ⟨i, wb, kn, m, k, J, H, sa, sc, vs⟩ Γ junk ⟨rfl, hi, hO⟩
  obtain ⟨hW, ⟨ad, hM⟩, hvs, hHJ, hHk⟩ := hO
  dsimp only at hi hW hM hvs hHJ hHk ⊢
  have hlvs : (snaps J H).length = vs.length := (snaps_len J H hHJ).trans hvs.symm
  have hkle := hM.le
  have hJl := joins_lt hM.vd
  by_cases hlt : i < pr.length
  · have hx : pr[i]? = some pr[i] := List.getElem?_eq_getElem hlt
    have hxo := hok2 _ (List.getElem_mem hlt)
    generalize pr[i] = x at hx hxo
    obtain ⟨x, y⟩ := x
    obtain ⟨b, off, cc, TT, fr, rfl, hh, hcx⟩ := hr2.cells hx
    have hh' : ∀ (sh : Shared) hF Γ w, Sh sh hF → St w0 hF Γ w → w.heap[b]? = some (.cells cc TT fr) := fun sh hF Γ w h1 h2 => hh hF Γ w (fun p hp => by cases hp) h2
    have hm16 : ((lookW kn 16).getD ⟨0, 0, 0⟩).val = (k : Int) := by rw [valW_getD, hW.val 16 (by decide) (by decide)]; exact hM.many
    refine run_share [0] rfl ?_
    repeat (first | refine zck ?_ | refine zcl ?_ | refine zcm ?_ | refine zcn ?_)
    first | refine zcp (by kernel_rfl) ?_ | refine zcq PP_mixed (by kernel_rfl) (by kernel_rfl) ?_
    repeat' (refine zap rfl ?_; first | ((with_reducible refine zda ?_); refine zbg rfl rfl (by omega) ?_))
    all_goals refine zch ?_
    all_goals repeat (first | refine zck ?_ | refine zcl ?_ | refine zcm ?_ | refine zcn ?_)
    refine zci rfl ?_
    repeat (first | refine zck ?_ | refine zcl ?_ | refine zcm ?_ | refine zcn ?_)
    first | refine zcp (by kernel_rfl) ?_ | refine zcq PP_mixed (by kernel_rfl) (by kernel_rfl) ?_
    repeat' (refine zap rfl ?_; first | refine zad rfl (hh' _) (hcx _ (by omega)) ?_ | ((with_reducible refine zdd ?_); refine zae 2 rfl rfl rfl rfl rfl rfl rfl ?_) | ((with_reducible refine zdf ?_); refine zas rfl rfl (by omega) ?_) | ((with_reducible refine zdh ?_); refine zar (fun nb => ?_)))
    all_goals refine zch ?_
    all_goals repeat (first | refine zck ?_ | refine zcl ?_ | refine zcm ?_ | refine zcn ?_)
    revert nb; intro pb
    refine run_share [2] rfl ?_
    repeat (first | refine zck ?_ | refine zcl ?_ | refine zcm ?_ | refine zcn ?_)
    first | refine zcp (by kernel_rfl) ?_ | refine zcq PP_mixed (by kernel_rfl) (by kernel_rfl) ?_
    repeat' (refine zap rfl ?_; first | refine reg_lookup_sh 1 rfl rfl rfl (valW_look kn _ _ rfl) ?_ | (refine reg_fieldV rfl rfl ?_; rw [hm16]) | ((with_reducible refine zcu ?_); refine zan rfl ?_) | ((with_reducible refine zdd ?_); refine zae 2 rfl rfl rfl rfl rfl rfl rfl ?_) | ((with_reducible refine zdh ?_); refine zar (fun nb => ?_)))
    all_goals refine zch ?_
    all_goals repeat (first | refine zck ?_ | refine zcl ?_ | refine zcm ?_ | refine zcn ?_)
    revert nb; intro mb
    refine run_share [2] rfl ?_
    by_cases hk0 : k = 0
    · subst hk0
      repeat' (first | refine zck ?_ | refine zcp (by kernel_rfl) ?_ | (refine zap rfl ?_; first | ((with_reducible refine zcv ?_); refine zan rfl ?_) | ((with_reducible refine zcw ?_); refine zaa 0 rfl rfl rfl ?_) | ((with_reducible refine zcx ?_); refine zah [] hA rfl rfl rfl sub_nil rfl ?_) | ((with_reducible refine zda ?_); refine zbc rfl rfl (by omega) ?_)) | refine zch ?_ | refine zci rfl ?_)
      exact cut_ret (leaves_nil (ends_take [] rfl (ends_one rfl rfl ⟨rfl, rfl, rfl⟩)))
    have hx5 : x.tmod 5 = x % 5 := Int.tmod_eq_emod_of_nonneg hxo.1.1
    repeat (first | refine zck ?_ | refine zcl ?_ | refine zcm ?_ | refine zcn ?_)
    first | refine zcp (by kernel_rfl) ?_ | refine zcq PP_mixed (by kernel_rfl) (by kernel_rfl) ?_
    repeat' (refine zap rfl ?_; first | refine zaa 0 rfl rfl rfl ?_ | ((with_reducible refine zda ?_); refine zbd rfl rfl (by omega) ?_))
    all_goals refine zch ?_
    all_goals repeat (first | refine zck ?_ | refine zcl ?_ | refine zcm ?_ | refine zcn ?_)
    refine zcj rfl ?_
    repeat (first | refine zck ?_ | refine zcl ?_ | refine zcm ?_ | refine zcn ?_ | refine zco ?_)
    refine run_slots [(7, ptr xb), (9, .func (.func 12) #[] (List.toArray [ptr xb])), (10, .map (some wb)), (11, .slice sa vs.length sc), (50, .slice (some ⟨b, off, none⟩) pr.length cap2), (51, .int .i64 (pr.length : Nat)), (52, .int .i64 (i : Int)), (13, ptr pb), (14, ptr mb)] ⟨rfl, rfl, rfl, rfl, rfl, rfl, rfl, rfl, rfl, trivial⟩ (fun junk => ?_)
    repeat (first | refine zck ?_ | refine zcl ?_ | refine zcm ?_ | refine zcn ?_)
    first | refine zcp (by kernel_rfl) ?_ | refine zcq PP_mixed (by kernel_rfl) (by kernel_rfl) ?_
    repeat' (refine zap rfl ?_; first | refine zaa 1 rfl rfl rfl ?_ | (refine reg_rem rfl rfl (by decide) ?_; rw [hx5]) | ((with_reducible refine zda ?_); refine zbo rfl rfl ?_) | ((with_reducible refine zdf ?_); refine zat rfl rfl (by omega) ?_))
    all_goals refine zch ?_
    all_goals repeat (first | refine zck ?_ | refine zcl ?_ | refine zcm ?_ | refine zcn ?_)
    by_cases h5 : x % 5 = 0
    · have hU : Pg.Ok 368 (f0 K).make m fun _ m' => ∃ k', k ≤ k' ∧ ∃ ad', Mm K m' k' (nC k') (tC k') J ad' := by
        by_cases hc : k < 64 ∧ (cN (k + 1) : Int) ≤ K
        · exact (make_ok hK hM hc.1 hc.2).mono fun _ _ h => ⟨k + 1, by omega, h.2⟩
        · exact (make_full hK hM (by omega)).mono fun _ _ h => ⟨k, Nat.le_refl _, ad, h.2 ▸ hM⟩
      have hD := done_mem (σ := Qm _) w0 [(xb, stO wb0 K r k0 J0)] wb kn 368 ((l.length + i : Nat) : Int) m (by omega) hW 17 (List.toArray [ptr xb]) (StarsA []) (fun _ => StarsA []) (fun st => st.1)
        (fun p s hC _ => un2_spec w0 _ p xb wb0 hK r _ hU s hC (.head _))
      refine run_emp (A := StarsA []) rfl ?_
      rw [decide_eq_true h5]
      refine zci rfl ?_
      repeat (first | refine zck ?_ | refine zcl ?_ | refine zcm ?_ | refine zcn ?_ | refine zco ?_)
      repeat (first | refine zck ?_ | refine zcl ?_ | refine zcm ?_ | refine zcn ?_)
      first | refine zcp (by kernel_rfl) ?_ | refine zcq PP_mixed (by kernel_rfl) (by kernel_rfl) ?_
      repeat' (refine zap rfl ?_; first | ((with_reducible refine zcu ?_); refine zan rfl ?_) | ((with_reducible refine zcv ?_); refine zan rfl ?_) | ((with_reducible refine zcx ?_); (refine zai [2] hD rfl rfl rfl (sub_at [2, 3] rfl) ?_; rintro v Γ' ⟨⟨m2, k2, hk2, ad2, hM2⟩, nb, wa, wl, wc, kn2, rfl, rfl, hW2⟩)) | ((with_reducible refine zcz ?_); refine zan rfl ?_) | refine zan rfl ?_)
      all_goals refine zch ?_
      all_goals repeat (first | refine zck ?_ | refine zcl ?_ | refine zcm ?_ | refine zcn ?_)
      repeat' (first | refine zck ?_ | refine zcp (by kernel_rfl) ?_ | refine zcm ?_ | refine zcs rfl ?_ | (refine zap rfl ?_; first | ((with_reducible refine zcu ?_); refine zan rfl ?_) | ((with_reducible refine zcv ?_); refine zan rfl ?_) | ((with_reducible refine zda ?_); refine zau rfl rfl (by omega) ?_) | ((with_reducible refine zdb ?_); refine zbx rfl ?_)) | refine zch ?_ | refine zcj rfl ?_)
      refine run_take [0, 1, 1] rfl ?_
      refine cut_end ⟨rfl, ⟨i + 1, nb, kn2, m2, k2, J, H, sa, sc, vs⟩, ⟨rfl, rfl, rfl, rfl, rfl, rfl, congrArg (Value.int .i64) (by dsimp only; omega), trivial⟩, ⟨rfl, by dsimp only; omega, ⟨?_, ⟨ad2, hM2⟩, hvs, hHJ, fun h hh => Nat.le_trans (hHk h hh) hk2⟩⟩, by dsimp only; omega⟩
      exact (show ((l.length + (i + 1) : Nat) : Int) = ((l.length + i : Nat) : Int) + 1 by omega) ▸ hW2
    · rw [decide_eq_false h5]
      refine zcj rfl ?_
      repeat (first | refine zck ?_ | refine zcl ?_ | refine zcm ?_ | refine zcn ?_ | refine zco ?_)
      have hT := told_spec w0 [(xb, stO wb0 K r k0 J0)] xb wb wb0 hK r kn ((l.length + i : Nat) : Int) (by omega) hW hM (.head _)
      repeat (first | refine zck ?_ | refine zcl ?_ | refine zcm ?_ | refine zcn ?_)
      first | refine zcp (by kernel_rfl) ?_ | refine zcq PP_mixed (by kernel_rfl) (by kernel_rfl) ?_
      repeat' (refine zap rfl ?_; first | ((with_reducible refine zcu ?_); refine zan rfl ?_) | ((with_reducible refine zcv ?_); refine zan rfl ?_) | ((with_reducible refine zcx ?_); (refine zai [] hT rfl rfl rfl (sub_at [2, 3] rfl) ?_; rintro v Γ' ⟨⟨a1, c1⟩, rfl, rfl⟩)))
      all_goals refine zch ?_
      all_goals repeat (first | refine zck ?_ | refine zcl ?_ | refine zcm ?_ | refine zcn ?_)
      repeat (first | refine zck ?_ | refine zcl ?_ | refine zcm ?_ | refine zcn ?_)
      first | refine zcp (by kernel_rfl) ?_ | refine zcq PP_mixed (by kernel_rfl) (by kernel_rfl) ?_
      repeat' (refine zap rfl ?_; first | ((with_reducible refine zdd ?_); refine zae 3 rfl rfl rfl rfl rfl rfl rfl ?_) | ((with_reducible refine zdh ?_); refine zar (fun nb => ?_)))
      all_goals refine zch ?_
      all_goals repeat (first | refine zck ?_ | refine zcl ?_ | refine zcm ?_ | refine zcn ?_)
      revert nb; intro jb
      repeat (first | refine zck ?_ | refine zcl ?_ | refine zcm ?_ | refine zcn ?_)
      first | refine zcp (by kernel_rfl) ?_ | refine zcq PP_mixed (by kernel_rfl) (by kernel_rfl) ?_
      repeat' (refine zap rfl ?_; first | ((with_reducible refine zdh ?_); refine zar (fun nb => ?_)))
      all_goals refine zch ?_
      all_goals repeat (first | refine zck ?_ | refine zcl ?_ | refine zcm ?_ | refine zcn ?_)
      revert nb; intro eb
      refine run_pack [3, 3] rfl ?_
      refine run_slots [(7, ptr xb), (9, .func (.func 12) #[] (List.toArray [ptr xb])), (10, .map (some wb)), (11, .slice sa vs.length sc), (50, .slice (some ⟨b, off, none⟩) pr.length cap2), (51, .int .i64 (pr.length : Nat)), (52, .int .i64 (i : Int)), (13, ptr pb), (14, ptr mb), (18, .slice a1 (tld J k).length c1), (19, ptr jb), (20, ptr eb)] ⟨rfl, rfl, rfl, rfl, rfl, rfl, rfl, rfl, rfl, rfl, rfl, rfl, trivial⟩ (fun junk => ?_)
      have hX0 := Int.emod_nonneg x (show (k : Int) ≠ 0 by omega)
      have hX1 := Int.emod_lt_of_pos x (show 0 < (k : Int) by omega)
      have hY0 := Int.emod_nonneg y (show (k : Int) ≠ 0 by omega)
      have hY1 := Int.emod_lt_of_pos y (show 0 < (k : Int) by omega)
      by_cases he : rep J (1 + x % k) = rep J (1 + y % k)
      · have hU := union_same hK hM (x := 1 + x % k) (y := 1 + y % k) (by omega) (by omega) he
        have hD := done_mem (σ := Qm _) w0 [(mb, nbC k), (pb, pbC x y), (xb, stO wb0 K r k0 J0)] wb kn 368 ((l.length + i : Nat) : Int) m (by omega) hW 19 (List.toArray [ptr xb, ptr pb, ptr mb, ptr jb, ptr eb]) (StarsA [okB jb false, erB eb 0]) (fun _ => StarsA [okB jb false, erB eb 0]) (fun st => st.1)
          (fun p s hC _ => un3_spec w0 _ p xb wb0 pb mb jb eb hK r _ false x y hxo.1 hxo.2 (by omega) hkle hU s hC (.tail _ (.tail _ (.head _))) (.tail _ (.head _)) (.head _))
        repeat (first | refine zck ?_ | refine zcl ?_ | refine zcm ?_ | refine zcn ?_)
        first | refine zcp (by kernel_rfl) ?_ | refine zcq PP_mixed (by kernel_rfl) (by kernel_rfl) ?_
        repeat' (refine zap rfl ?_; first | ((with_reducible refine zcu ?_); refine zan rfl ?_) | ((with_reducible refine zcv ?_); refine zan rfl ?_) | ((with_reducible refine zcx ?_); (refine zai [0] hD rfl rfl rfl (sub_at [2, 0, 1, 3] rfl) ?_; rintro v Γ' ⟨⟨m2, hm2⟩, nb, wa, wl, wc, kn2, rfl, rfl, hW2⟩)) | ((with_reducible refine zcz ?_); refine zan rfl ?_) | refine zan rfl ?_)
        all_goals refine zch ?_
        all_goals repeat (first | refine zck ?_ | refine zcl ?_ | refine zcm ?_ | refine zcn ?_)
        dsimp only at hm2 hW2
        rw [hm2] at hW2
        have hAl := (alike_spec w0 nb wb kn2 kn).owned
        rw [alike_same hW2 hW] at hAl
        refine run_unpack [1] rfl ?_
        repeat (first | refine zck ?_ | refine zcl ?_ | refine zcm ?_ | refine zcn ?_)
        first | refine zcp (by kernel_rfl) ?_ | refine zcq PP_mixed (by kernel_rfl) (by kernel_rfl) ?_
        repeat' (refine zap rfl ?_; first | ((with_reducible refine zct ?_); refine zaj rfl ?_) | ((with_reducible refine zcu ?_); refine zan rfl ?_) | ((with_reducible refine zcw ?_); first | refine zab 0 rfl rfl rfl ?_ | refine zab 1 rfl rfl rfl ?_) | ((with_reducible refine zcx ?_); (refine zai [2] hAl rfl rfl rfl (sub_at [2] rfl) ?_; rintro v Γ' ⟨_, ⟨rfl, rfl⟩, rfl⟩)) | ((with_reducible refine zda ?_); refine zbf rfl rfl (by omega) ?_) | ((with_reducible refine zdb ?_); refine zbx rfl ?_) | ((with_reducible refine zdc ?_); first | refine zbu rfl ?_ | refine zbv rfl ?_))
        all_goals refine zch ?_
        all_goals repeat (first | refine zck ?_ | refine zcl ?_ | refine zcm ?_ | refine zcn ?_)
        repeat' (first | refine zck ?_ | refine zcp (by kernel_rfl) ?_ | refine zcm ?_ | refine zcn ?_ | (refine zap rfl ?_; first | ((with_reducible refine zcu ?_); refine zan rfl ?_) | ((with_reducible refine zcv ?_); refine zan rfl ?_) | ((with_reducible refine zcw ?_); refine zab 1 rfl rfl rfl ?_) | ((with_reducible refine zda ?_); refine zau rfl rfl (by omega) ?_)) | refine zch ?_ | refine zcj rfl ?_)
        refine run_take [0, 3, 3] rfl ?_
        refine cut_end ⟨rfl, ⟨i + 1, nb, kn2, m, k, J, H, sa, sc, vs⟩, ⟨rfl, rfl, rfl, rfl, rfl, rfl, congrArg (Value.int .i64) (by dsimp only; omega), trivial⟩, ⟨rfl, by dsimp only; omega, ⟨?_, ⟨ad, hM⟩, hvs, hHJ, hHk⟩⟩, by dsimp only; omega⟩
        exact (show ((l.length + (i + 1) : Nat) : Int) = ((l.length + i : Nat) : Int) + 1 by omega) ▸ hW2
      · have hU := (union_join hK hM (x := 1 + x % k) (y := 1 + y % k) (by omega) (by omega) he).mono (Q' := fun r m' => r = (true, 0) ∧ ∃ ad, Mm K m' k (nC k) (tC k) (lowHigh J (rep J (1 + x % k)) (rep J (1 + y % k)) :: J) ad) fun _ _ h => ⟨h.1, ad, h.2⟩
        have hD := done_mem (σ := Qm _) w0 [(mb, nbC k), (pb, pbC x y), (xb, stO wb0 K r k0 J0)] wb kn 368 ((l.length + i : Nat) : Int) m (by omega) hW 19 (List.toArray [ptr xb, ptr pb, ptr mb, ptr jb, ptr eb]) (StarsA [okB jb false, erB eb 0]) (fun _ => StarsA [okB jb true, erB eb 0]) (fun st => st.1)
          (fun p s hC _ => un3_spec w0 _ p xb wb0 pb mb jb eb hK r _ true x y hxo.1 hxo.2 (by omega) hkle hU s hC (.tail _ (.tail _ (.head _))) (.tail _ (.head _)) (.head _))
        generalize lowHigh J (rep J (1 + x % k)) (rep J (1 + y % k)) = ba at hD
        repeat (first | refine zck ?_ | refine zcl ?_ | refine zcm ?_ | refine zcn ?_)
        first | refine zcp (by kernel_rfl) ?_ | refine zcq PP_mixed (by kernel_rfl) (by kernel_rfl) ?_
        repeat' (refine zap rfl ?_; first | ((with_reducible refine zcu ?_); refine zan rfl ?_) | ((with_reducible refine zcv ?_); refine zan rfl ?_) | ((with_reducible refine zcx ?_); (refine zai [0] hD rfl rfl rfl (sub_at [2, 0, 1, 3] rfl) ?_; rintro v Γ' ⟨⟨m2, ad2, hM2⟩, nb, wa, wl, wc, kn2, rfl, rfl, hW2⟩)) | ((with_reducible refine zcz ?_); refine zan rfl ?_) | refine zan rfl ?_)
        all_goals refine zch ?_
        all_goals repeat (first | refine zck ?_ | refine zcl ?_ | refine zcm ?_ | refine zcn ?_)
        refine run_unpack [1] rfl ?_
        repeat (first | refine zck ?_ | refine zcl ?_ | refine zcm ?_ | refine zcn ?_)
        first | refine zcp (by kernel_rfl) ?_ | refine zcq PP_mixed (by kernel_rfl) (by kernel_rfl) ?_
        repeat' (refine zap rfl ?_; first | ((with_reducible refine zct ?_); first | refine zaj rfl ?_ | refine zak rfl ?_) | ((with_reducible refine zcu ?_); refine zan rfl ?_) | ((with_reducible refine zcw ?_); first | refine zab 0 rfl rfl rfl ?_ | refine zab 1 rfl rfl rfl ?_) | ((with_reducible refine zda ?_); refine zbf rfl rfl (by omega) ?_) | ((with_reducible refine zdb ?_); refine zbx rfl ?_) | ((with_reducible refine zdc ?_); refine zbv rfl ?_))
        all_goals refine zch ?_
        all_goals repeat (first | refine zck ?_ | refine zcl ?_ | refine zcm ?_ | refine zcn ?_)
        refine zcj rfl ?_
        repeat (first | refine zck ?_ | refine zcl ?_ | refine zcm ?_ | refine zcn ?_ | refine zco ?_)
        repeat (first | refine zck ?_ | refine zcl ?_ | refine zcm ?_ | refine zcn ?_)
        first | refine zcp (by kernel_rfl) ?_ | refine zcq PP_mixed (by kernel_rfl) (by kernel_rfl) ?_
        repeat' (refine zap rfl ?_; first | ((with_reducible refine zcu ?_); refine zan rfl ?_) | ((with_reducible refine zcv ?_); refine zan rfl ?_))
        all_goals refine zch ?_
        all_goals repeat (first | refine zck ?_ | refine zcl ?_ | refine zcm ?_ | refine zcn ?_)
        repeat (first | refine zck ?_ | refine zcl ?_ | refine zcm ?_ | refine zcn ?_)
        first | refine zcp (by kernel_rfl) ?_ | refine zcq PP_mixed (by kernel_rfl) (by kernel_rfl) ?_
        repeat' (refine zap rfl ?_; first | ((with_reducible refine zcw ?_); refine zab 0 rfl rfl rfl ?_))
        all_goals refine zch ?_
        all_goals repeat (first | refine zck ?_ | refine zcl ?_ | refine zcm ?_ | refine zcn ?_)
        refine zci rfl ?_
        refine run_slots [(7, ptr xb), (9, .func (.func 12) #[] (List.toArray [ptr xb])), (10, .map (some nb)), (11, .slice sa vs.length sc), (50, .slice (some ⟨b, off, none⟩) pr.length cap2), (51, .int .i64 (pr.length : Nat)), (52, .int .i64 (i : Int)), (18, .slice a1 (tld J k).length c1)] ⟨rfl, rfl, rfl, rfl, rfl, rfl, rfl, rfl, trivial⟩ (fun junk => ?_)
        repeat' (first | refine zcp (by kernel_rfl) ?_ | refine zcn ?_ | (refine zap rfl ?_; first | refine reg_buildSlice rfl rfl rfl rfl rfl rfl (fun nb2 => ?_) | refine reg_append 4 6 rfl rfl rfl rfl rfl rfl rfl rfl (by omega) (fun _ _ => rfl) (fun a' cap' => ?_) | ((with_reducible refine zcu ?_); refine zan rfl ?_) | ((with_reducible refine zcv ?_); refine zan rfl ?_) | ((with_reducible refine zda ?_); refine zau rfl rfl (by omega) ?_)) | refine zch ?_)
        refine run_snoc [5, 3] rfl ?_
        refine run_take [3, 3, 0] rfl ?_
        refine cut_end ⟨rfl, ⟨i + 1, nb, kn2, m2, k, ba :: J, k :: H, a', cap', vs ++ [.slice a1 (tld J k).length c1]⟩, ⟨rfl, rfl, rfl, congrArg (fun q => Value.slice a' q cap') (by simp), rfl, rfl, congrArg (Value.int .i64) (by dsimp only; omega), trivial⟩, ⟨?_, by dsimp only; omega, ⟨?_, ⟨ad2, hM2⟩, by simp [hvs], by simp; omega, fun h hh => ?_⟩⟩, by dsimp only; omega⟩
        · dsimp only
          rw [snaps_join, lsA_snoc _ _ (by rw [List.length_reverse]; omega), List.length_append]
          rfl
        · exact (show ((l.length + (i + 1) : Nat) : Int) = ((l.length + i : Nat) : Int) + 1 by omega) ▸ hW2
        · rcases List.mem_cons.1 hh with rfl | hh
          · exact Nat.le_refl _
          · exact hHk h hh
  · have hil : i = pr.length := by omega
    subst hil
    repeat (first | refine zck ?_ | refine zcl ?_ | refine zcm ?_ | refine zcn ?_)
    first | refine zcp (by kernel_rfl) ?_ | refine zcq PP_mixed (by kernel_rfl) (by kernel_rfl) ?_
    repeat' (refine zap rfl ?_; first | ((with_reducible refine zda ?_); refine zbh rfl rfl (by omega) ?_))
    all_goals refine zch ?_
    all_goals repeat (first | refine zck ?_ | refine zcl ?_ | refine zcm ?_ | refine zcn ?_)
    refine zcj rfl ?_
    repeat (first | refine zck ?_ | refine zcl ?_ | refine zcm ?_ | refine zcn ?_ | refine zco ?_)
    refine cut_exit rfl rfl ?_
    repeat (first | refine zck ?_ | refine zcl ?_ | refine zcm ?_ | refine zcn ?_ | refine zco ?_)
    repeat (first | refine zck ?_ | refine zcl ?_ | refine zcm ?_ | refine zcn ?_)
    first | refine zcp (by kernel_rfl) ?_ | refine zcq PP_mixed (by kernel_rfl) (by kernel_rfl) ?_
    repeat' (refine zap rfl ?_; first | ((with_reducible refine zcu ?_); refine zan rfl ?_) | ((with_reducible refine zcv ?_); refine zan rfl ?_) | ((with_reducible refine zcx ?_); refine zce rfl ?_) | ((with_reducible refine zda ?_); refine zav rfl rfl (by omega) ?_))
    all_goals refine zch ?_
    all_goals repeat (first | refine zck ?_ | refine zcl ?_ | refine zcm ?_ | refine zcn ?_)
    refine run_shareV [1] rfl fun sh1 hs1 hvl hB => ?_
    refine run_lendL _ _ [1] rfl fun sh2 hs2 hI => ?_
    have hxb : (xb, stO wb0 K r k0 J0) ∈ sh2 := hs2 _ (hs1 _ (.head _))
    have hB2 : ∀ (j : Nat) v, vs[j]? = some v → ∃ bb c T fr, sa = some ⟨bb, 0, none⟩ ∧ (∀ (sh3 : Shared), (∀ p ∈ sh2, p ∈ sh3) → ∀ hF Γ w, Sh sh3 hF → St w0 hF Γ w → w.heap[bb]? = some (.cells c T fr)) ∧ c[j]? = some v := fun j v h => by
      obtain ⟨bb, c, T, fr, e1, e2, e3⟩ := hB j v h
      exact ⟨bb, c, T, fr, e1, fun sh3 hs3 hF Γ w h1 h2 => e2 hF Γ w (fun p hp => h1 p (hs3 p (hs2 p hp))) h2, e3⟩
    refine run_slots [(7, ptr xb), (9, .func (.func 12) #[] (List.toArray [ptr xb])), (10, .map (some wb)), (11, .slice sa vs.length sc), (24, .int .i64 ((vs.length : Int) - 1))] ⟨rfl, rfl, rfl, rfl, congrArg (Value.int .i64) (by omega), trivial⟩ (fun junk => ?_)
    refine run_loop (S := Nat × Nat × List (Int × Wd) × (Int → Int)) (fun s => [(7, ptr xb), (9, .func (.func 12) #[] (List.toArray [ptr xb])), (10, .map (some s.2.1)), (11, .slice sa vs.length sc), (24, .int .i64 ((vs.length : Int) - 1 - (s.1 : Int)))])
      (fun s Γ => Γ = [wdA s.2.1 s.2.2.1] ∧ s.1 ≤ vs.length ∧ WM 368 ((l.length + pr.length + s.1 : Nat) : Int) s.2.2.1 s.2.2.2 ∧ ∃ ad, Mm K s.2.2.2 k (nC k) (tC k) (J.drop s.1) ad) (fun s => vs.length - s.1) (0, wb, kn, m) ⟨rfl, rfl, rfl, rfl, congrArg (Value.int .i64) (by dsimp only; omega), trivial⟩ ⟨rfl, Nat.zero_le _, hW, ad, hM⟩ ?_
    clear hM hW
    rintro ⟨j, wb1, kn1, m1⟩ Γ junk ⟨rfl, hj, hW, ad, hM⟩
    dsimp only at hj hW hM ⊢
    by_cases hlt2 : j < vs.length
    · obtain ⟨h, hh⟩ : ∃ h, H[j]? = some h := ⟨_, List.getElem?_eq_getElem (by omega)⟩
      have hhk := hHk h (List.mem_of_getElem? hh)
      obtain ⟨wv, hwv⟩ : ∃ wv, vs[vs.length - 1 - j]? = some wv := ⟨_, List.getElem?_eq_getElem (by omega)⟩
      have hsn := snaps_rev J H j h hHJ hh
      rw [← hvs] at hsn
      have hIw := hI _ _ _ hwv hsn
      obtain ⟨ba, hba⟩ : ∃ ba, J.drop j = ba :: J.drop (j + 1) := ⟨_, List.drop_eq_getElem_cons (by omega)⟩
      obtain ⟨b1, a1⟩ := ba
      rw [hba] at hM
      generalize hJ1 : J.drop (j + 1) = J1 at hM hsn hIw hba
      have hlh := tld_len J1 h
      have hlk := tld_len J1 k
      have hU := (undo_ok hK hM).mono (Q' := fun r m' => r = (true, 0) ∧ ∃ ad, Mm K m' k (nC k) (tC k) J1 ad) fun _ _ h => ⟨h.1, ad, h.2⟩
      refine run_share [0] rfl ?_
      repeat (first | refine zck ?_ | refine zcl ?_ | refine zcm ?_ | refine zcn ?_)
      first | refine zcp (by kernel_rfl) ?_ | refine zcq PP_mixed (by kernel_rfl) (by kernel_rfl) ?_
      repeat' (refine zap rfl ?_; first | ((with_reducible refine zcu ?_); refine zan rfl ?_) | ((with_reducible refine zda ?_); refine zbm rfl rfl (by omega) ?_))
      all_goals refine zch ?_
      all_goals repeat (first | refine zck ?_ | refine zcl ?_ | refine zcm ?_ | refine zcn ?_)
      refine zci rfl ?_
      repeat (first | refine zck ?_ | refine zcl ?_ | refine zcm ?_ | refine zcn ?_ | refine zco ?_)
      repeat (first | refine zck ?_ | refine zcl ?_ | refine zcm ?_ | refine zcn ?_)
      first | refine zcp (by kernel_rfl) ?_ | refine zcq PP_mixed (by kernel_rfl) (by kernel_rfl) ?_
      repeat' (refine zap rfl ?_; first | ((with_reducible refine zdd ?_); refine zae 0 rfl rfl rfl rfl rfl rfl rfl ?_) | ((with_reducible refine zdh ?_); refine zar (fun nb => ?_)))
      all_goals refine zch ?_
      all_goals repeat (first | refine zck ?_ | refine zcl ?_ | refine zcm ?_ | refine zcn ?_)
      revert nb; intro ub
      have hD := done_mem (σ := Qm _) w0 sh2 wb1 kn1 368 ((l.length + pr.length + j : Nat) : Int) m1 (by omega) hW 22 (List.toArray [ptr xb, ptr ub]) (okB ub false) (fun _ => okB ub true) (fun st => st.1)
        (fun p s hC _ => un4_spec w0 _ p xb wb0 ub hK r _ hU s hC hxb)
      repeat (first | refine zck ?_ | refine zcl ?_ | refine zcm ?_ | refine zcn ?_)
      first | refine zcp (by kernel_rfl) ?_ | refine zcq PP_mixed (by kernel_rfl) (by kernel_rfl) ?_
      repeat' (refine zap rfl ?_; first | ((with_reducible refine zcu ?_); refine zan rfl ?_) | ((with_reducible refine zcv ?_); refine zan rfl ?_) | ((with_reducible refine zcx ?_); (refine zai [0] hD rfl rfl rfl (fun _ h => h) ?_; rintro v Γ' ⟨⟨m2, ad2, hM2⟩, nb, wa, wl, wc, kn2, rfl, rfl, hW2⟩)) | ((with_reducible refine zcz ?_); refine zan rfl ?_) | refine zan rfl ?_)
      all_goals refine zch ?_
      all_goals repeat (first | refine zck ?_ | refine zcl ?_ | refine zcm ?_ | refine zcn ?_)
      repeat (first | refine zck ?_ | refine zcl ?_ | refine zcm ?_ | refine zcn ?_)
      first | refine zcp (by kernel_rfl) ?_ | refine zcq PP_mixed (by kernel_rfl) (by kernel_rfl) ?_
      repeat' (refine zap rfl ?_; first | ((with_reducible refine zct ?_); refine zaj rfl ?_) | ((with_reducible refine zcu ?_); refine zan rfl ?_) | ((with_reducible refine zcw ?_); refine zab 1 rfl rfl rfl ?_) | ((with_reducible refine zdb ?_); refine zbx rfl ?_) | ((with_reducible refine zdc ?_); refine zbv rfl ?_))
      all_goals refine zch ?_
      all_goals repeat (first | refine zck ?_ | refine zcl ?_ | refine zcm ?_ | refine zcn ?_)
      refine zcj rfl ?_
      repeat (first | refine zck ?_ | refine zcl ?_ | refine zcm ?_ | refine zcn ?_ | refine zco ?_)
      repeat (first | refine zck ?_ | refine zcl ?_ | refine zcm ?_ | refine zcn ?_)
      first | refine zcp (by kernel_rfl) ?_ | refine zcq PP_mixed (by kernel_rfl) (by kernel_rfl) ?_
      repeat' (refine zap rfl ?_; first | ((with_reducible refine zcu ?_); refine zan rfl ?_) | ((with_reducible refine zcv ?_); refine zan rfl ?_))
      all_goals refine zch ?_
      all_goals repeat (first | refine zck ?_ | refine zcl ?_ | refine zcm ?_ | refine zcn ?_)
      have hT := (told_spec w0 sh2 xb nb wb0 hK r kn2 _ (by omega) hW2 hM2 hxb).owned
      repeat (first | refine zck ?_ | refine zcl ?_ | refine zcm ?_ | refine zcn ?_)
      first | refine zcp (by kernel_rfl) ?_ | refine zcq PP_mixed (by kernel_rfl) (by kernel_rfl) ?_
      repeat' (refine zap rfl ?_; first | ((with_reducible refine zcu ?_); refine zan rfl ?_) | ((with_reducible refine zcv ?_); refine zan rfl ?_) | ((with_reducible refine zcx ?_); (refine zai [0] hT rfl rfl rfl (fun _ h => .tail _ h) ?_; rintro v Γ' ⟨_, ⟨⟨na, nc⟩, rfl, rfl⟩, rfl⟩)))
      all_goals refine zch ?_
      all_goals repeat (first | refine zck ?_ | refine zcl ?_ | refine zcm ?_ | refine zcn ?_)
      repeat (first | refine zck ?_ | refine zcl ?_ | refine zcm ?_ | refine zcn ?_)
      first | refine zcp (by kernel_rfl) ?_ | refine zcq PP_mixed (by kernel_rfl) (by kernel_rfl) ?_
      repeat' (refine zap rfl ?_; first | ((with_reducible refine zcu ?_); refine zan rfl ?_) | ((with_reducible refine zcx ?_); refine zce rfl ?_))
      all_goals refine zch ?_
      all_goals repeat (first | refine zck ?_ | refine zcl ?_ | refine zcm ?_ | refine zcn ?_)
      refine run_shareL [0] rfl fun sh3 hs3 hN => ?_
      refine run_take [0] rfl ?_
      refine run_slots [(7, ptr xb), (9, .func (.func 12) #[] (List.toArray [ptr xb])), (10, .map (some nb)), (11, .slice sa vs.length sc), (24, .int .i64 ((vs.length : Int) - 1 - (j : Int))), (29, .slice na (tld J1 k).length nc), (133, .slice na (tld J1 k).length nc), (134, .int .i64 ((tld J1 k).length : Nat)), (135, .int .i64 0)] ⟨rfl, rfl, rfl, rfl, rfl, rfl, rfl, rfl, rfl, trivial⟩ (fun junk => ?_)
      obtain ⟨aw, cw, rfl, hcw⟩ := id hIw
      obtain ⟨bb, cB, TB, fB, rfl, hmB0, hcB⟩ := hB2 _ _ hwv
      have hmB := hmB0 sh3 (fun p hp => hs3 _ (.tail _ hp))
      have hIw3 := hIw.mono (fun p hp => hs3 _ (.tail _ hp))
      refine run_loop (S := Nat) (fun q => [(7, ptr xb), (9, .func (.func 12) #[] (List.toArray [ptr xb])), (10, .map (some nb)), (11, .slice (some ⟨bb, 0, none⟩) vs.length sc), (24, .int .i64 ((vs.length : Int) - 1 - (j : Int))), (29, .slice na (tld J1 k).length nc), (134, .int .i64 ((tld J1 k).length : Nat)), (135, .int .i64 (q : Int))])
        (fun q Γ => Γ = [wdA nb kn2] ∧ q ≤ 2 * k) (fun q => 2 * k - q) 0 ⟨rfl, rfl, rfl, rfl, rfl, rfl, rfl, rfl, trivial⟩ ⟨rfl, Nat.zero_le _⟩ ?_
      rintro q Γ junk ⟨rfl, hq⟩
      by_cases hqk : q < 2 * k
      · obtain ⟨u, hu⟩ : ∃ u, (tld J1 k)[q]? = some u := ⟨_, List.getElem?_eq_getElem (by omega)⟩
        obtain ⟨bn, on, cn, Tn, fn, rfl, hmn, hrn⟩ := hN.at hu
        by_cases hqh : q < 2 * h
        · obtain ⟨u2, hu2⟩ : ∃ u2, (tld J1 h)[q]? = some u2 := ⟨_, List.getElem?_eq_getElem (by omega)⟩
          have hsame := tld_same J1 hhk hu2
          rw [hu] at hsame
          cases hsame
          obtain ⟨bw, ow, cW, Tw, fw, rfl, hmw, hrw⟩ := hIw3.at hu2
          repeat' (first | refine zck ?_ | refine zcp (by kernel_rfl) ?_ | refine zcq PP_mixed (by kernel_rfl) (by kernel_rfl) ?_ | refine zcm ?_ | refine zcl ?_ | refine zcn ?_ | (refine zap rfl ?_; first | refine zad rfl hmB (rd_one hcB _ (by omega)) ?_ | refine zad rfl hmn (hrn _ (by omega)) ?_ | refine zad rfl hmw (hrw _ (by omega)) ?_ | ((with_reducible refine zct ?_); first | refine zaj rfl ?_ | refine zak rfl ?_) | ((with_reducible refine zcu ?_); refine zan rfl ?_) | ((with_reducible refine zcv ?_); refine zan rfl ?_) | ((with_reducible refine zcx ?_); refine zce rfl ?_) | ((with_reducible refine zda ?_); first | refine zbf rfl rfl (by omega) ?_ | refine zbg rfl rfl (by omega) ?_ | refine zbn rfl rfl (by omega) ?_ | refine zau rfl rfl (by omega) ?_) | ((with_reducible refine zdc ?_); first | refine zbu rfl ?_ | refine zbv rfl ?_) | ((with_reducible refine zdf ?_); refine zas rfl rfl (by omega) ?_)) | refine zch ?_ | refine zci rfl ?_ | refine zcj rfl ?_)
          exact cut_end ⟨rfl, q + 1, ⟨rfl, rfl, rfl, rfl, rfl, rfl, rfl, congrArg (Value.int .i64) (by omega), trivial⟩, ⟨rfl, by omega⟩, by omega⟩
        · by_cases hodd : q % 2 = 1
          · obtain ⟨u2, hu2, hpos⟩ := tld_pos J1 k q hqk hodd
            rw [hu] at hu2
            cases hu2
            repeat' (first | refine zck ?_ | refine zcp (by kernel_rfl) ?_ | refine zcq PP_mixed (by kernel_rfl) (by kernel_rfl) ?_ | refine zcm ?_ | refine zcl ?_ | refine zcn ?_ | (refine zap rfl ?_; first | refine zad rfl hmB (rd_one hcB _ (by omega)) ?_ | refine zad rfl hmn (hrn _ (by omega)) ?_ | ((with_reducible refine zct ?_); first | refine zaj rfl ?_ | refine zak rfl ?_) | ((with_reducible refine zcu ?_); refine zan rfl ?_) | ((with_reducible refine zcv ?_); refine zan rfl ?_) | ((with_reducible refine zcx ?_); refine zce rfl ?_) | ((with_reducible refine zda ?_); first | refine zbc rfl rfl (by omega) ?_ | refine zbg rfl rfl (by omega) ?_ | refine zbh rfl rfl (by omega) ?_ | refine zbm rfl rfl (by omega) ?_ | refine zau rfl rfl (by omega) ?_ | refine zay rfl rfl (by omega) ?_) | ((with_reducible refine zdc ?_); first | refine zbu rfl ?_ | refine zbv rfl ?_) | ((with_reducible refine zdf ?_); refine zas rfl rfl (by omega) ?_)) | refine zch ?_ | refine zci rfl ?_ | refine zcj rfl ?_)
            exact cut_end ⟨rfl, q + 1, ⟨rfl, rfl, rfl, rfl, rfl, rfl, rfl, congrArg (Value.int .i64) (by omega), trivial⟩, ⟨rfl, by omega⟩, by omega⟩
          · repeat' (first | refine zck ?_ | refine zcp (by kernel_rfl) ?_ | refine zcq PP_mixed (by kernel_rfl) (by kernel_rfl) ?_ | refine zcm ?_ | refine zcl ?_ | refine zcn ?_ | (refine zap rfl ?_; first | refine zad rfl hmB (rd_one hcB _ (by omega)) ?_ | ((with_reducible refine zct ?_); first | refine zaj rfl ?_ | refine zak rfl ?_) | ((with_reducible refine zcu ?_); refine zan rfl ?_) | ((with_reducible refine zcv ?_); refine zan rfl ?_) | ((with_reducible refine zcx ?_); refine zce rfl ?_) | ((with_reducible refine zda ?_); first | refine zbd rfl rfl (by omega) ?_ | refine zbg rfl rfl (by omega) ?_ | refine zbh rfl rfl (by omega) ?_ | refine zbm rfl rfl (by omega) ?_ | refine zau rfl rfl (by omega) ?_ | refine zay rfl rfl (by omega) ?_) | ((with_reducible refine zdc ?_); first | refine zbu rfl ?_ | refine zbv rfl ?_) | ((with_reducible refine zdf ?_); refine zas rfl rfl (by omega) ?_)) | refine zch ?_ | refine zci rfl ?_ | refine zcj rfl ?_)
            exact cut_end ⟨rfl, q + 1, ⟨rfl, rfl, rfl, rfl, rfl, rfl, rfl, congrArg (Value.int .i64) (by omega), trivial⟩, ⟨rfl, by omega⟩, by omega⟩
      · repeat' (first | refine zck ?_ | refine zcp (by kernel_rfl) ?_ | (refine zap rfl ?_; first | ((with_reducible refine zda ?_); refine zbh rfl rfl (by omega) ?_)) | refine zch ?_ | refine zcj rfl ?_)
        refine cut_exit rfl rfl ?_
        repeat' (first | refine zcp (by kernel_rfl) ?_ | refine zcn ?_ | (refine zap rfl ?_; first | ((with_reducible refine zcu ?_); refine zan rfl ?_) | ((with_reducible refine zcv ?_); refine zan rfl ?_) | ((with_reducible refine zda ?_); refine zav rfl rfl (by omega) ?_)) | refine zch ?_)
        refine cut_end ⟨rfl, (j + 1, nb, kn2, m2), ⟨rfl, rfl, rfl, rfl, congrArg (Value.int .i64) (by dsimp only; omega), trivial⟩, ⟨rfl, by dsimp only; omega, ?_, ad2, ?_⟩, by dsimp only; omega⟩
        · exact (show ((l.length + pr.length + (j + 1) : Nat) : Int) = ((l.length + pr.length + j : Nat) : Int) + 1 by omega) ▸ hW2
        · dsimp only
          rw [hJ1]
          exact hM2
    · repeat' (first | refine zck ?_ | refine zcp (by kernel_rfl) ?_ | (refine zap rfl ?_; first | ((with_reducible refine zcu ?_); refine zan rfl ?_) | ((with_reducible refine zda ?_); refine zbn rfl rfl (by omega) ?_)) | refine zch ?_ | refine zcj rfl ?_)
      refine cut_exit rfl rfl ?_
      repeat' (first | refine zck ?_ | refine zcp (by kernel_rfl) ?_ | (refine zap rfl ?_; first | ((with_reducible refine zcv ?_); refine zan rfl ?_) | ((with_reducible refine zcx ?_); refine zah [] hA rfl rfl rfl sub_nil rfl ?_)) | refine zch ?_)
      exact run_ret (leaves_nil (ends_take [] rfl (ends_one rfl rfl ⟨rfl, rfl, rfl⟩)))
end Go.Proofs.Ytpcnbaddkblbhaa

