import Derived.Test.YtpcnbaddkblbhaaPart12
/- Lemmas and walks for the claims of this seat (own work): Lw14. -/
/- The law's ForestAsks: the walk. -/
namespace Sim
open Go Go.Vc
theorem writes_puts {s t : Sp} (h : t.puts = s.puts) : t.writes = s.writes := by unfold Sp.writes; rw [h]
theorem known_step {kn kq : List (Int × Wd)} {l : List Int} {i : Nat} {x : Int} (h : ∀ a, lookW kq a = if a ∈ l.take i then lookW kn a else none) (hx : l[i]? = some x) {w : Wd} (hw : lookW kn x = some w) :
    ∀ a, lookW (insW kq x w) a = if a ∈ l.take (i + 1) then lookW kn a else none := by
  intro a
  rw [look_insW, List.take_add_one, hx, h a]
  by_cases ha : x = a
  · subst ha; simp [hw]
  · by_cases hm : a ∈ l.take i
    · simp [ha, hm]
    · rw [if_neg ha, if_neg hm, if_neg]
      simp only [List.mem_append, Option.toList_some, List.mem_singleton]
      exact fun hh => hh.elim hm fun e => ha e.symm
end Sim
namespace Go.Proofs.Ytpcnbaddkblbhaa
open Go.Vc Sim
set_option maxHeartbeats 8000000
theorem asksA_spec (w0 : World) (nn : Int) (hn : u8P nn) (v : Value) (l : List Cl) (hv : InSl w0 Cl.cells 3 v l) (hok : ∀ x ∈ l, x.ok) (c : Cl) (hc : c.ok) :
    FnE PP w0 [] 6 [.int .u8 nn, v, .agg (List.toArray c.cells)] [] (.bool true) [] := by
  have hr := hv.rd (sh := [])
  obtain ⟨a, cap, rfl, hmax, hmem⟩ := hv
  have hG := great_spec w0 a l.length cap
  have hA := awake_spec w0
  by_cases hl : (l.length : Int) > 100
  · rw [decide_eq_true hl] at hG
    refine fn_of_run en6 fn6 rfl rfl rfl ?_
    repeat' (first | refine zck ?_ | refine zcp (by kernel_rfl) ?_ | (refine zap rfl ?_; first | ((with_reducible refine zcu ?_); refine zan rfl ?_) | ((with_reducible refine zcv ?_); refine zan rfl ?_) | ((with_reducible refine zcx ?_); first | refine zah [] hG rfl rfl rfl sub_nil rfl ?_ | refine zah [] hA rfl rfl rfl sub_nil rfl ?_) | ((with_reducible refine zdg ?_); refine zaq (cs := [_, _, _]) rfl (fun nb => ?_))) | refine zch ?_ | refine zci rfl ?_)
    exact run_ret (leaves_nil (ends_take [] rfl (ends_one rfl rfl ⟨rfl, rfl, rfl⟩)))
  · rw [decide_eq_false hl] at hG
    have hP := played_spec w0 [] nn hn _ l hr hok (by omega)
    have hK : 0 ≤ nn % 39 ∧ nn % 39 ≤ 38 := by omega
    generalize nn % 39 = K at hK hP
    generalize plJ K l l.length = kJ at hP
    obtain ⟨k, J⟩ := kJ
    refine fn_of_run en6 fn6 rfl rfl rfl ?_
    repeat (first | refine zck ?_ | refine zcl ?_ | refine zcm ?_ | refine zcn ?_)
    first | refine zcp (by kernel_rfl) ?_ | refine zcq PP_mixed (by kernel_rfl) (by kernel_rfl) ?_
    repeat' (refine zap rfl ?_; first | ((with_reducible refine zcv ?_); refine zan rfl ?_) | ((with_reducible refine zdg ?_); refine zaq (cs := [_, _, _]) rfl (fun nb => ?_)))
    all_goals refine zch ?_
    all_goals repeat (first | refine zck ?_ | refine zcl ?_ | refine zcm ?_ | refine zcn ?_)
    revert nb; intro cb
    refine run_share [0] rfl ?_
    repeat (first | refine zck ?_ | refine zcl ?_ | refine zcm ?_ | refine zcn ?_)
    first | refine zcp (by kernel_rfl) ?_ | refine zcq PP_mixed (by kernel_rfl) (by kernel_rfl) ?_
    repeat' (refine zap rfl ?_; first | ((with_reducible refine zcu ?_); refine zan rfl ?_) | ((with_reducible refine zcx ?_); refine zah [] hG rfl rfl rfl sub_nil rfl ?_))
    all_goals refine zch ?_
    all_goals repeat (first | refine zck ?_ | refine zcl ?_ | refine zcm ?_ | refine zcn ?_)
    refine zcj rfl ?_
    repeat (first | refine zck ?_ | refine zcl ?_ | refine zcm ?_ | refine zcn ?_ | refine zco ?_)
    repeat (first | refine zck ?_ | refine zcl ?_ | refine zcm ?_ | refine zcn ?_)
    first | refine zcp (by kernel_rfl) ?_ | refine zcq PP_mixed (by kernel_rfl) (by kernel_rfl) ?_
    repeat' (refine zap rfl ?_; first | (refine zai [] hP rfl rfl rfl sub_nil ?_; rintro v Γ' ⟨⟨m, r, ad, hM⟩, wb, kn, rfl, rfl, hW⟩) | ((with_reducible refine zcu ?_); refine zan rfl ?_) | ((with_reducible refine zcv ?_); refine zan rfl ?_) | ((with_reducible refine zcz ?_); refine zan rfl ?_) | ((with_reducible refine zdd ?_); refine zae 4 rfl rfl rfl rfl rfl rfl rfl ?_) | ((with_reducible refine zdh ?_); refine zar (fun nb => ?_)))
    all_goals refine zch ?_
    all_goals repeat (first | refine zck ?_ | refine zcl ?_ | refine zcm ?_ | refine zcn ?_)
    revert nb; intro xb
    refine run_share [0] rfl ?_
    refine run_share [3] rfl ?_
    refine run_take [] rfl ?_
    repeat (first | refine zck ?_ | refine zcl ?_ | refine zcm ?_ | refine zcn ?_)
    first | refine zcp (by kernel_rfl) ?_ | refine zcq PP_mixed (by kernel_rfl) (by kernel_rfl) ?_
    repeat' (refine zap rfl ?_; first | ((with_reducible refine zcu ?_); refine zan rfl ?_) | ((with_reducible refine zdb ?_); refine zbx rfl ?_))
    all_goals refine zch ?_
    all_goals repeat (first | refine zck ?_ | refine zcl ?_ | refine zcm ?_ | refine zcn ?_)
    refine zcj rfl ?_
    repeat (first | refine zck ?_ | refine zcl ?_ | refine zcm ?_ | refine zcn ?_ | refine zco ?_)
    refine run_slots [(5, ptr cb), (7, ptr xb)] ⟨rfl, rfl, trivial⟩ (fun junk => ?_)
    repeat (first | refine zck ?_ | refine zcl ?_ | refine zcm ?_ | refine zcn ?_)
    first | refine zcp (by kernel_rfl) ?_ | refine zcq PP_mixed (by kernel_rfl) (by kernel_rfl) ?_
    repeat' (refine zap rfl ?_; first | ((with_reducible refine zcv ?_); refine zan rfl ?_) | refine zan rfl ?_)
    all_goals refine zch ?_
    all_goals repeat (first | refine zck ?_ | refine zcl ?_ | refine zcm ?_ | refine zcn ?_)
    have hN := new_sh w0 wb kn (fun q a w h => ⟨keys_look kn hW.ok.nd q a w h, (hW.ok.wd a w (keys_look kn hW.ok.nd q a w h)).1⟩)
    repeat (first | refine zck ?_ | refine zcl ?_ | refine zcm ?_ | refine zcn ?_)
    first | refine zcp (by kernel_rfl) ?_ | refine zcq PP_mixed (by kernel_rfl) (by kernel_rfl) ?_
    repeat' (refine zap rfl ?_; first | ((with_reducible refine zcv ?_); refine zan rfl ?_) | ((with_reducible refine zcw ?_); refine zaa 0 rfl rfl rfl ?_) | ((with_reducible refine zcx ?_); (refine zai [] hN rfl rfl rfl (fun p hp => by rw [List.mem_singleton.1 hp]; exact .tail _ (.head _)) ?_; rintro v Γ' ⟨p1, kn1, rfl, rfl, hk1⟩)) | ((with_reducible refine zcy ?_); refine zao rfl ?_))
    all_goals refine zch ?_
    all_goals repeat (first | refine zck ?_ | refine zcl ?_ | refine zcm ?_ | refine zcn ?_)
    obtain ⟨f1, f2, f3, f4, f5, f6, f7⟩ := doA_two hK hM c.d c.X c.Y hW hk1
    have hS1 := fun sh hcb hxb => asks1_spec w0 sh p1 cb xb wb hK r (J := J) (k := k) c.d c.X c.Y hc.1 hc.2.1.2 hc.2.2.2 hcb hxb _ f1
    generalize hR1 : Pg.run ((f0 K).doA c.d c.X c.Y) ⟨kn1, [], [], 0, false⟩ = R1 at hS1 f2 f3 f4 f5 f6 f7
    obtain ⟨v1, s1⟩ := R1
    dsimp only at hS1 f2 f3 f4 f5 f6 f7
    repeat (first | refine zck ?_ | refine zcl ?_ | refine zcm ?_ | refine zcn ?_)
    first | refine zcp (by kernel_rfl) ?_ | refine zcq PP_mixed (by kernel_rfl) (by kernel_rfl) ?_
    repeat' (refine zap rfl ?_; first | ((with_reducible refine zcu ?_); refine zan rfl ?_) | ((with_reducible refine zcv ?_); refine zan rfl ?_) | ((with_reducible refine zcx ?_); refine zah [0] (hS1 _ (.tail _ (.tail _ (.head _))) (.head _)) rfl rfl rfl (fun _ h => h) rfl ?_))
    all_goals refine zch ?_
    all_goals repeat (first | refine zck ?_ | refine zcl ?_ | refine zcm ?_ | refine zcn ?_)
    repeat (first | refine zck ?_ | refine zcl ?_ | refine zcm ?_ | refine zcn ?_)
    first | refine zcp (by kernel_rfl) ?_ | refine zcq PP_mixed (by kernel_rfl) (by kernel_rfl) ?_
    repeat' (refine zap rfl ?_; first | ((with_reducible refine zcv ?_); refine zan rfl ?_) | refine zcc (fun nb => ?_))
    all_goals refine zch ?_
    all_goals repeat (first | refine zck ?_ | refine zcl ?_ | refine zcm ?_ | refine zcn ?_)
    revert nb; intro mb
    have hRd := rds_spec w0 p1 s1 (by omega)
    have hrl : (s1.rd.mergeSort leI).length = s1.rd.length := List.length_mergeSort _
    have hrm : ∀ x, x ∈ s1.rd.mergeSort leI ↔ x ∈ s1.rd := fun x => List.mem_mergeSort
    repeat (first | refine zck ?_ | refine zcl ?_ | refine zcm ?_ | refine zcn ?_)
    first | refine zcp (by kernel_rfl) ?_ | refine zcq PP_mixed (by kernel_rfl) (by kernel_rfl) ?_
    repeat' (refine zap rfl ?_; first | ((with_reducible refine zcu ?_); refine zan rfl ?_) | ((with_reducible refine zcx ?_); first | (refine zai [0] hRd rfl rfl rfl sub_nil ?_; rintro v Γ' ⟨ra, rc, rfl, rfl⟩) | refine zce rfl ?_))
    all_goals refine zch ?_
    all_goals repeat (first | refine zck ?_ | refine zcl ?_ | refine zcm ?_ | refine zcn ?_)
    generalize hl2 : s1.rd.mergeSort leI = l2 at hrl hrm
    refine run_slots [(7, ptr xb), (9, .func (.func 28) #[] (List.toArray [ptr cb, ptr xb])), (10, spP p1), (11, .bool v1), (12, .map (some mb)), (37, .slice ra s1.rd.length rc), (38, .int .i64 (s1.rd.length : Nat)), (39, .int .i64 0)] ⟨rfl, rfl, rfl, rfl, rfl, rfl, rfl, rfl, trivial⟩ (fun junk => ?_)
    refine run_exch 1 (LstA 27 (.slice ra s1.rd.length rc) l2) rfl (fun g h => ⟨ra, rc, by rw [hrl], by rw [hrl]; exact h⟩) rfl ?_
    refine run_lend [1] rfl fun sh' hi rr => ?_
    have hcb : (cb, clC c.d c.X c.Y) ∈ sh' := hi _ (.tail _ (.tail _ (.head _)))
    have hxb : (xb, .cells (List.toArray (stC wb K r k J)) 36 (0, 0)) ∈ sh' := hi _ (.head _)
    have hwb : (wb, mapI (knM kn)) ∈ sh' := hi _ (.tail _ (.head _))
    have hmx : ∀ hF Γ w, Sh sh' hF → St w0 hF Γ w → w.heap[xb]? = some (.cells (List.toArray (stC wb K r k J)) 36 (0, 0)) := fun hF Γ w h1 h2 => (h2.frame (h1 _ hxb)).2
    refine run_loop (S := Nat × List (Int × Wd)) (fun st => [(7, ptr xb), (9, .func (.func 28) #[] (List.toArray [ptr cb, ptr xb])), (10, spP p1), (11, .bool v1), (12, .map (some mb)), (37, .slice ra s1.rd.length rc), (38, .int .i64 (s1.rd.length : Nat)), (39, .int .i64 (st.1 : Int))])
      (fun st Γ => Γ = [SpaceA p1 s1, pt mb (mapI (knM st.2))] ∧ st.1 ≤ s1.rd.length ∧ (st.2.map (·.1)).Nodup ∧ ∀ a, lookW st.2 a = if a ∈ l2.take st.1 then lookW kn a else none) (fun st => s1.rd.length - st.1) (0, []) ⟨rfl, rfl, rfl, rfl, rfl, rfl, rfl, rfl, trivial⟩ ⟨rfl, Nat.zero_le _, List.nodup_nil, fun a => by simp [lookW]⟩ ?_
    rintro ⟨i, kq⟩ Γ junk ⟨rfl, hi2, hnd, hkq⟩
    dsimp only at hi2 hnd hkq ⊢
    by_cases hlt : i < s1.rd.length
    · have hx : l2[i]? = some (l2[i]'(by omega)) := List.getElem?_eq_getElem _
      generalize l2[i]'(by omega) = x at hx
      obtain ⟨w, hw⟩ := f4 x ((hrm x).1 (List.mem_of_getElem? hx))
      obtain ⟨bb, off, cc, TT, fr, e2, hm, hrd⟩ := rr.at hx
      have hst := known_step hkq hx hw
      have hins : ins (knM kq) x (wordV ((lookW kn x).getD ⟨0, 0, 0⟩)) = knM (insW kq x w) := by rw [ins_knM, hw]; rfl
      subst e2
      repeat' (first | refine zck ?_ | refine zcp (by kernel_rfl) ?_ | refine zcm ?_ | refine zcl ?_ | refine zcn ?_ | (refine zap rfl ?_; first | refine zad rfl hmx rfl ?_ | refine zad rfl hm (hrd _ (by omega)) ?_ | refine reg_lookup_in hwb rfl rfl (valW_look kn _ _ rfl) ?_ | refine reg_mapUpdate 1 (u := wordV ((lookW kn x).getD ⟨0, 0, 0⟩)) (Γ' := [SpaceA p1 s1, pt mb (mapI (knM (insW kq x w)))]) rfl rfl rfl rfl (by rw [← hins]; rfl) ?_ | ((with_reducible refine zcu ?_); refine zan rfl ?_) | ((with_reducible refine zcv ?_); refine zan rfl ?_) | ((with_reducible refine zcy ?_); refine zao rfl ?_) | ((with_reducible refine zda ?_); first | refine zbg rfl rfl (by omega) ?_ | refine zau rfl rfl (by omega) ?_) | ((with_reducible refine zdf ?_); refine zas rfl rfl (by omega) ?_)) | refine zch ?_ | refine zci rfl ?_)
      exact cut_end ⟨rfl, (i + 1, insW kq x w), ⟨rfl, rfl, rfl, rfl, rfl, rfl, rfl, congrArg (Value.int .i64) (by dsimp only; omega), trivial⟩, ⟨rfl, hlt, insW_keys kq x w hnd, hst⟩, by dsimp only; omega⟩
    · have hil : i = s1.rd.length := by omega
      repeat' (first | refine zck ?_ | refine zcp (by kernel_rfl) ?_ | (refine zap rfl ?_; first | ((with_reducible refine zda ?_); refine zbh rfl rfl (by omega) ?_)) | refine zch ?_ | refine zcj rfl ?_)
      refine cut_exit rfl rfl ?_
      have hkk : ∀ a ∈ s1.rd, lookW kq a = lookW kn a := fun a ha => by
        rw [hkq a, List.take_of_length_le (by omega), if_pos ((hrm a).2 ha)]
      have hN2 := new_sh w0 mb kq (fun q a w h => by
        have h1 := keys_look kq hnd q a w h
        refine ⟨h1, ?_⟩
        rw [hkq a] at h1
        split at h1
        · exact (hW.ok.wd a w h1).1
        · cases h1)
      refine run_share [1] rfl ?_
      repeat (first | refine zck ?_ | refine zcl ?_ | refine zcm ?_ | refine zcn ?_ | refine zco ?_)
      repeat (first | refine zck ?_ | refine zcl ?_ | refine zcm ?_ | refine zcn ?_)
      first | refine zcp (by kernel_rfl) ?_ | refine zcq PP_mixed (by kernel_rfl) (by kernel_rfl) ?_
      repeat' (refine zap rfl ?_; first | ((with_reducible refine zcu ?_); refine zan rfl ?_) | ((with_reducible refine zcv ?_); refine zan rfl ?_) | ((with_reducible refine zcx ?_); (refine zai [] hN2 rfl rfl rfl (fun p hp => by rw [List.mem_singleton.1 hp]; exact .head _) ?_; rintro v Γ' ⟨p2, kn2, rfl, rfl, hk2⟩)))
      all_goals refine zch ?_
      all_goals repeat (first | refine zck ?_ | refine zcl ?_ | refine zcm ?_ | refine zcn ?_)
      obtain ⟨g1, g2, g3, g4⟩ := f7 kn2 (fun a ha => (hk2 a).trans (hkk a ha))
      have hS2 := fun sh hcb hxb => asks1_spec w0 sh p2 cb xb wb hK r (J := J) (k := k) c.d c.X c.Y hc.1 hc.2.1.2 hc.2.2.2 hcb hxb _ g1
      generalize hR2 : Pg.run ((f0 K).doA c.d c.X c.Y) ⟨kn2, [], [], 0, false⟩ = R2 at hS2 g2 g3 g4
      obtain ⟨v2, s2⟩ := R2
      dsimp only at hS2 g2 g3 g4
      subst g2
      have hlen2 : s2.puts.length ≤ 5 := by rw [g4]; exact f5
      have hww : (s2.writes.length : Int) = s1.writes.length := by rw [writes_puts g4]
      repeat (first | refine zck ?_ | refine zcl ?_ | refine zcm ?_ | refine zcn ?_)
      first | refine zcp (by kernel_rfl) ?_ | refine zcq PP_mixed (by kernel_rfl) (by kernel_rfl) ?_
      repeat' (refine zap rfl ?_; first | ((with_reducible refine zcu ?_); refine zan rfl ?_) | ((with_reducible refine zcv ?_); refine zan rfl ?_) | ((with_reducible refine zcx ?_); refine zah [0] (hS2 _ (.tail _ hcb) (.tail _ hxb)) rfl rfl rfl (fun _ h => h) rfl ?_))
      all_goals refine zch ?_
      all_goals repeat (first | refine zck ?_ | refine zcl ?_ | refine zcm ?_ | refine zcn ?_)
      refine run_slots [(10, spP p1), (11, .bool v2), (15, spP p2), (16, .bool v2)] ⟨rfl, rfl, rfl, rfl, trivial⟩ (fun junk => ?_)
      cases v2 with
      | true =>
        repeat' (first | refine zcp (by kernel_rfl) ?_ | (refine zap rfl ?_; first | ((with_reducible refine zct ?_); first | refine zaj rfl ?_ | refine zak rfl ?_) | ((with_reducible refine zcu ?_); refine zan rfl ?_) | ((with_reducible refine zcv ?_); refine zan rfl ?_) | ((with_reducible refine zcx ?_); first | (refine zai [0] (writes_spec w0 p2 s2 (by omega)) rfl rfl rfl sub_nil ?_; rintro v Γ' ⟨wa2, wcap2, rfl, rfl⟩) | (refine zah [1] (ended_spec w0 p1 s1) rfl rfl rfl sub_nil rfl ?_; rw [f2]) | (refine zah [1] (ended_spec w0 p2 s2) rfl rfl rfl sub_nil rfl ?_; rw [g3]) | (refine zai [2] (writes_spec w0 p1 s1 (by omega)) rfl rfl rfl sub_nil ?_; rintro v Γ' ⟨wa, wcap, rfl, rfl⟩) | refine zah [] hA rfl rfl rfl sub_nil rfl ?_ | refine zce rfl ?_) | ((with_reducible refine zda ?_); first | refine zbc rfl rfl (by omega) ?_ | refine zbb rfl rfl ?_) | ((with_reducible refine zdb ?_); refine zbx rfl ?_) | ((with_reducible refine zdc ?_); refine zbu rfl ?_)) | refine zch ?_)
        exact run_ret (leaves_nil (ends_take [] rfl (ends_one rfl rfl ⟨rfl, rfl, rfl⟩)))
      | false =>
        have hw0 : (s1.writes.length : Int) = 0 := by rw [Sp.writes_nil (f6 rfl)]; rfl
        repeat' (first | refine zcp (by kernel_rfl) ?_ | (refine zap rfl ?_; first | ((with_reducible refine zct ?_); refine zaj rfl ?_) | ((with_reducible refine zcu ?_); refine zan rfl ?_) | ((with_reducible refine zcv ?_); refine zan rfl ?_) | ((with_reducible refine zcx ?_); first | (refine zai [0] (writes_spec w0 p2 s2 (by omega)) rfl rfl rfl sub_nil ?_; rintro v Γ' ⟨wa2, wcap2, rfl, rfl⟩) | (refine zah [0] (ended_spec w0 p1 s1) rfl rfl rfl sub_nil rfl ?_; rw [f2]) | (refine zai [1] (writes_spec w0 p1 s1 (by omega)) rfl rfl rfl sub_nil ?_; rintro v Γ' ⟨wa, wcap, rfl, rfl⟩) | (refine zai [2] (writes_spec w0 p1 s1 (by omega)) rfl rfl rfl sub_nil ?_; rintro v Γ' ⟨wa, wcap, rfl, rfl⟩) | (refine zah [2] (ended_spec w0 p2 s2) rfl rfl rfl sub_nil rfl ?_; rw [g3]) | refine zah [] hA rfl rfl rfl sub_nil rfl ?_ | refine zce rfl ?_) | ((with_reducible refine zda ?_); first | refine zbc rfl rfl (by omega) ?_ | refine zbb rfl rfl ?_) | ((with_reducible refine zdb ?_); refine zbx rfl ?_) | ((with_reducible refine zdc ?_); first | refine zbu rfl ?_ | refine zbv rfl ?_)) | refine zch ?_)
        exact run_ret (leaves_nil (ends_take [] rfl (ends_one rfl rfl ⟨rfl, rfl, rfl⟩)))
end Go.Proofs.Ytpcnbaddkblbhaa

