import Derived.Test.YtfnjeldpfilplaaGreatDoorPart4
import Derived.Test.YtfnjeldpfilplaaGreatDoorPart1
import Derived.Test.YtfnjeldpfilplaaGreatDoorKit
import Derived.Test.YtfnjeldpfilplaaGreatDoorPart3
/- Lemmas and walks for the claims of this seat (own work): Sx6 Sx7 Ct1 Ct2 Fi0 Bl0 Ty0 Ty1 Ty2. -/
namespace Sim
open Go Go.Vc
theorem freshAll_drop {met l : List ByteArray} {j : Nat} {x : ByteArray} (h : l[j]? = some x) : freshAll met (l.drop j) = if freshN met x [] ≠ 0 then freshN met x [] else freshAll (met ++ [x]) (l.drop (j + 1)) := by
  have hj := (List.getElem?_eq_some_iff.1 h).1
  rw [List.drop_eq_getElem_cons hj, (List.getElem?_eq_some_iff.1 h).2, freshAll]
theorem wrongD_drop {met : List ByteArray} {l : List (ByteArray × ByteArray)} {j : Nat} {x : ByteArray × ByteArray} (h : l[j]? = some x) : wrongD met (l.drop j) = if freshN met x.1 [x.2] ≠ 0 then freshN met x.1 [x.2] else wrongD (met ++ [x.1]) (l.drop (j + 1)) := by
  have hj := (List.getElem?_eq_some_iff.1 h).1
  rw [List.drop_eq_getElem_cons hj, (List.getElem?_eq_some_iff.1 h).2, wrongD]
theorem wrongOs_drop {met : List ByteArray} {l : List PO} {j : Nat} {x : PO} (h : l[j]? = some x) : wrongOs met (l.drop j) = if wrongO met x ≠ 0 then wrongO met x else wrongOs (met ++ [x.name]) (l.drop (j + 1)) := by
  have hj := (List.getElem?_eq_some_iff.1 h).1
  rw [List.drop_eq_getElem_cons hj, (List.getElem?_eq_some_iff.1 h).2, wrongOs]
theorem take_snoc {α : Type} {l : List α} {j : Nat} {x : α} (h : l[j]? = some x) : l.take (j + 1) = l.take j ++ [x] := by rw [List.take_add_one, h]; rfl
end Sim
namespace Go.Proofs.YtfnjeldpfilplaaGreatDoor
open Go.Vc Sim
set_option maxHeartbeats 1000000 in
theorem operWrong_spec (w0 : World) (hk : KwOk w0) (sh : Shared) (r : Nat) (met : List ByteArray) (o : PO) (vp vb : Value) (hp : RdSl w0 sh encY 1 vp o.params) (hb : RdSt w0 sh vb o.body) (hsz : PS.sizeL o.body ≤ 1000000) :
    Vc.Fn PP w0 sh 38 [.agg (List.toArray [.string o.name, vp, vb]), .map (some r)] [MapS r (metM met)]
      (fun v Γ => v = .int .i64 (wrongO met o) ∧ ∃ met', Γ = [MapS r (metM met')] ∧ (wrongO met o = 0 → met' = met ++ [o.name])) := by
  obtain ⟨a1, c1, hvp, hc1, _⟩ := id hp
  obtain ⟨a2, c2, hvb, hc2⟩ := hb.len
  subst hvp; subst hvb
  have hfr := fresh_spec w0 hk sh r met o.name (.slice none 0 0) [] RdSl.nil (by decide)
  have hbody := wrongs_spec w0 hk sh _ o.body 1 hsz hb (by omega) (by omega)
  refine fn_of_run en38 fn38 rfl rfl rfl ?_
  repeat (first | refine zck ?_ | refine zcl ?_ | refine zcm ?_ | refine zcn ?_)
  first | refine zcp (by kernel_rfl) ?_ | refine zcq PP_mixed (by kernel_rfl) (by kernel_rfl) ?_
  repeat' (refine zap rfl ?_; first | refine zan rfl ?_ | refine zaq (cs := [_, _, _]) rfl (fun nb => ?_))
  all_goals refine zch ?_
  all_goals repeat (first | refine zck ?_ | refine zcl ?_ | refine zcm ?_ | refine zcn ?_)
  refine run_share [1] rfl ?_
  obtain ⟨be, hbe⟩ : ∃ b, b = nb := ⟨_, rfl⟩
  subst hbe
  by_cases hF : freshN met o.name [] = 0
  · rw [if_pos hF, hF] at hfr
    by_cases h4 : 4 < o.params.length
    · have hw : wrongO met o = 15 := by unfold wrongO; rw [if_neg (by omega), if_pos h4]
      repeat' (first | refine zck ?_ | refine zcp (by kernel_rfl) ?_ | refine zcm ?_ | (refine zap rfl ?_; first | refine zan rfl ?_ | refine zan rfl ?_ | refine zaa 0 rfl rfl rfl ?_ | refine zce rfl ?_ | refine zah [0] hfr rfl rfl rfl (fun p hp => by simp [hp]) rfl ?_ | refine zce rfl ?_ | refine zao rfl ?_ | refine zbf rfl rfl (by omega) ?_ | refine zbk rfl rfl (by omega) ?_) | refine zch ?_ | refine zci rfl ?_ | refine zcj rfl ?_)
      exact ret_tmp1 rfl ⟨by rw [hw]; rfl, _, rfl, fun _ => rfl⟩
    have hw : wrongO met o = if freshAll [] o.params ≠ 0 then freshAll [] o.params else wrongSs o.body 1 := by unfold wrongO; rw [if_neg (by omega), if_neg h4]
    repeat' (first | refine zck ?_ | refine zcp (by kernel_rfl) ?_ | refine zcm ?_ | refine zcl ?_ | (refine zap rfl ?_; first | refine zan rfl ?_ | refine zan rfl ?_ | refine zaa 0 rfl rfl rfl ?_ | refine zce rfl ?_ | refine zah [0] hfr rfl rfl rfl (fun p hp => by simp [hp]) rfl ?_ | refine zce rfl ?_ | refine zao rfl ?_ | refine zbf rfl rfl (by omega) ?_ | refine zbl rfl rfl (by omega) ?_ | refine zcc (fun nb => ?_)) | refine zch ?_ | refine zcj rfl ?_)
    refine run_exch 1 (MapS nb (metM [])) rfl (mapS_make nb) rfl ?_
    refine run_loop (S := Nat) (fun j => [(2, .pointer (some ⟨be, 0, none⟩)), (6, .map (some nb)), (23, .slice a1 o.params.length c1), (24, .int .i64 o.params.length), (25, .int .i64 j)])
      (fun j Γ => Γ = [MapS r (metM (met ++ [o.name])), MapS nb (metM (o.params.take j))] ∧ j ≤ o.params.length ∧ freshAll (o.params.take j) (o.params.drop j) = freshAll [] o.params) (fun j => o.params.length - j) 0
      ⟨rfl, rfl, rfl, rfl, rfl, trivial⟩ ⟨rfl, by omega, rfl⟩ ?_
    rintro j Γ junk ⟨rfl, q1, q2⟩
    by_cases hj : j < o.params.length
    · obtain ⟨x, hx⟩ : ∃ x, o.params[j]? = some x := ⟨_, List.getElem?_eq_getElem hj⟩
      obtain ⟨b, off, cc, T, fr, rfl, e2, _, e3⟩ := hp.cells hx
      rw [freshAll_drop hx] at q2
      have hfr2 := fresh_spec w0 hk sh nb (o.params.take j) x (.slice none 0 0) [] RdSl.nil (by decide)
      by_cases h0 : freshN (o.params.take j) x [] = 0
      · rw [if_neg (by omega), ← take_snoc hx] at q2
        rw [if_pos h0, h0, ← take_snoc hx] at hfr2
        repeat' (first | refine zck ?_ | refine zcp (by kernel_rfl) ?_ | refine zcm ?_ | refine zcl ?_ | refine zcn ?_ | (refine zap rfl ?_; first | refine zad rfl (fun hF Γ w h1 h2 => e2 hF Γ w (fun p hp => h1 p (by simp [hp])) h2) (e3 0 _ rfl _ (by omega)) ?_ | refine zan rfl ?_ | refine zan rfl ?_ | refine zce rfl ?_ | refine zah [1] hfr2 rfl rfl rfl (fun p hp => by simp [hp]) rfl ?_ | refine zce rfl ?_ | refine zbf rfl rfl (by omega) ?_ | refine zbg rfl rfl (by omega) ?_ | refine zau rfl rfl (by omega) ?_ | refine zas rfl rfl (by omega) ?_) | refine zch ?_ | refine zci rfl ?_ | refine zcj rfl ?_)
        refine run_perm (List.Perm.swap _ _ _) ?_
        exact cut_end ⟨rfl, j + 1, ⟨rfl, rfl, rfl, rfl, int_eq (by omega), trivial⟩, ⟨rfl, by omega, q2⟩, by omega⟩
      · rw [if_pos h0] at q2
        rw [if_neg h0] at hfr2
        repeat' (first | refine zck ?_ | refine zcp (by kernel_rfl) ?_ | refine zcm ?_ | refine zcl ?_ | (refine zap rfl ?_; first | refine zad rfl (fun hF Γ w h1 h2 => e2 hF Γ w (fun p hp => h1 p (by simp [hp])) h2) (e3 0 _ rfl _ (by omega)) ?_ | refine zan rfl ?_ | refine zan rfl ?_ | refine zce rfl ?_ | refine zah [1] hfr2 rfl rfl rfl (fun p hp => by simp [hp]) rfl ?_ | refine zce rfl ?_ | refine zbe rfl rfl (by omega) ?_ | refine zbg rfl rfl (by omega) ?_ | refine zas rfl rfl (by omega) ?_) | refine zch ?_ | refine zci rfl ?_)
        refine run_take [1] rfl ?_
        rw [← q2, if_pos h0] at hw
        exact qret1 (fun _ _ h => h) rfl ⟨by rw [hw]; rfl, _, rfl, fun h => absurd (hw ▸ h) h0⟩
    · rw [List.drop_of_length_le (by omega)] at q2
      rw [← q2] at hw
      have hw : wrongO met o = wrongSs o.body 1 := hw
      repeat' (first | refine zck ?_ | refine zcp (by kernel_rfl) ?_ | (refine zap rfl ?_; first | refine zbh rfl rfl (by omega) ?_) | refine zch ?_ | refine zcj rfl ?_)
      refine cut_exit rfl rfl ?_
      repeat' (first | refine zck ?_ | refine zcp (by kernel_rfl) ?_ | (refine zap rfl ?_; first | refine zan rfl ?_ | refine zaa 0 rfl rfl rfl ?_ | refine zah [] hbody rfl rfl rfl (fun p hp => by simp [hp]) rfl ?_ | refine zce rfl ?_ | refine zao rfl ?_) | refine zch ?_)
      refine run_take [0] rfl ?_
      exact ret_tmp1 rfl ⟨by rw [hw]; rfl, _, rfl, fun _ => rfl⟩
  · rw [if_neg hF] at hfr
    have hw : wrongO met o = freshN met o.name [] := by unfold wrongO; rw [if_pos hF]
    repeat' (first | refine zck ?_ | refine zcp (by kernel_rfl) ?_ | (refine zap rfl ?_; first | refine zan rfl ?_ | refine zan rfl ?_ | refine zaa 0 rfl rfl rfl ?_ | refine zce rfl ?_ | refine zah [0] hfr rfl rfl rfl (fun p hp => by simp [hp]) rfl ?_ | refine zce rfl ?_ | refine zao rfl ?_ | refine zbe rfl rfl (by omega) ?_) | refine zch ?_ | refine zci rfl ?_)
    exact ret_tmp1 rfl ⟨by rw [hw]; rfl, _, rfl, fun h => absurd (hw ▸ h) hF⟩
def PP'.small (p : PP') : Prop := p.stores.length ≤ 1000000 ∧ p.opers.length ≤ 1000000 ∧ ∀ o ∈ p.opers, PS.sizeL o.body ≤ 1000000 ∧ o.params.length ≤ 1000000
set_option maxHeartbeats 2000000 in
theorem check_spec (w0 : World) (hk : KwOk w0) (sh : Shared) (v : Value) (p : PP') (hp : RdP w0 sh v p) (hs : PP'.small p) : FnE PP w0 sh 25 [v] [] (.int .i64 (checkP p)) [] := by
  obtain ⟨vs, vo, hv, h1, h2⟩ := hp
  subst hv
  obtain ⟨a1, c1, hvs, hc1, _⟩ := id h1
  obtain ⟨a2, c2, hvo, hc2⟩ := h2.len
  subst hvs; subst hvo
  obtain ⟨hs1, hs2, hs3⟩ := hs
  refine fn_of_run en25 fn25 rfl rfl rfl ?_
  repeat (first | refine zck ?_ | refine zcl ?_ | refine zcm ?_ | refine zcn ?_)
  first | refine zcp (by kernel_rfl) ?_ | refine zcq PP_mixed (by kernel_rfl) (by kernel_rfl) ?_
  repeat' (refine zap rfl ?_; first | refine zan rfl ?_ | refine zaq (cs := [_, _]) rfl (fun nb => ?_))
  all_goals refine zch ?_
  all_goals repeat (first | refine zck ?_ | refine zcl ?_ | refine zcm ?_ | refine zcn ?_)
  refine run_share [0] rfl ?_
  obtain ⟨be, hbe⟩ : ∃ b, b = nb := ⟨_, rfl⟩
  subst hbe
  by_cases hA : 12 < p.stores.length
  · have hw : checkP p = 15 := by unfold checkP; rw [if_pos (.inl hA)]
    repeat' (first | refine zck ?_ | refine zcp (by kernel_rfl) ?_ | (refine zap rfl ?_; first | refine zak rfl ?_ | refine zan rfl ?_ | refine zan rfl ?_ | refine zaa 0 rfl rfl rfl ?_ | refine zce rfl ?_ | refine zao rfl ?_ | refine zbk rfl rfl (by omega) ?_ | refine zbu rfl ?_) | refine zch ?_ | refine zci rfl ?_)
    exact ret_tmp1 rfl ⟨by rw [hw]; rfl, rfl⟩
  by_cases hB : 32 < p.opers.length
  · have hw : checkP p = 15 := by unfold checkP; rw [if_pos (.inr hB)]
    repeat' (first | refine zck ?_ | refine zcp (by kernel_rfl) ?_ | (refine zap rfl ?_; first | refine zaj rfl ?_ | refine zan rfl ?_ | refine zan rfl ?_ | refine zaa 0 rfl rfl rfl ?_ | refine zce rfl ?_ | refine zao rfl ?_ | refine zbk rfl rfl (by omega) ?_ | refine zbl rfl rfl (by omega) ?_ | refine zbv rfl ?_) | refine zch ?_ | refine zci rfl ?_)
    exact ret_tmp1 rfl ⟨by rw [hw]; rfl, rfl⟩
  have hw : checkP p = if wrongD [] p.stores ≠ 0 then wrongD [] p.stores else wrongOs [] p.opers := by unfold checkP; rw [if_neg (by omega)]
  repeat' (first | refine zck ?_ | refine zcp (by kernel_rfl) ?_ | refine zcm ?_ | refine zcl ?_ | (refine zap rfl ?_; first | refine zaj rfl ?_ | refine zan rfl ?_ | refine zan rfl ?_ | refine zaa 0 rfl rfl rfl ?_ | refine zce rfl ?_ | refine zao rfl ?_ | refine zbl rfl rfl (by omega) ?_ | refine zbv rfl ?_ | refine zcc (fun nb => ?_)) | refine zch ?_ | refine zcj rfl ?_)
  obtain ⟨m1, hm1⟩ : ∃ b, b = nb := ⟨_, rfl⟩
  subst hm1
  refine run_exch 0 (MapS m1 (metM [])) rfl (mapS_make m1) rfl ?_
  refine run_loop (S := Nat) (fun j => [(1, .pointer (some ⟨be, 0, none⟩)), (3, .map (some m1)), (22, .slice a1 p.stores.length c1), (23, .int .i64 p.stores.length), (24, .int .i64 j)])
    (fun j Γ => Γ = [MapS m1 (metM ((p.stores.take j).map (·.1)))] ∧ j ≤ p.stores.length ∧ wrongD ((p.stores.take j).map (·.1)) (p.stores.drop j) = wrongD [] p.stores) (fun j => p.stores.length - j) 0
    ⟨rfl, rfl, rfl, rfl, rfl, trivial⟩ ⟨rfl, by omega, rfl⟩ ?_
  rintro j Γ junk ⟨rfl, q1, q2⟩
  by_cases hj : j < p.stores.length
  · obtain ⟨x, hx⟩ : ∃ x, p.stores[j]? = some x := ⟨_, List.getElem?_eq_getElem hj⟩
    obtain ⟨b, off, cc, T, fr, rfl, e2, e3, _⟩ := h1.cells hx
    rw [wrongD_drop hx] at q2
    have ht : (p.stores.take (j + 1)).map (·.1) = (p.stores.take j).map (·.1) ++ [x.1] := by rw [take_snoc hx, List.map_append]; rfl
    have hfr : ∀ nb, FnE PP w0 ((nb, Obj.cells (List.toArray [Value.string x.2]) 9 (0, 0)) :: sh) 37 [.map (some m1), .string x.1, .slice (some ⟨nb, 0, none⟩) 1 1] [MapS m1 (metM ((p.stores.take j).map (·.1)))] (.int .i64 (freshN ((p.stores.take j).map (·.1)) x.1 [x.2]))
        [MapS m1 (metM (if freshN ((p.stores.take j).map (·.1)) x.1 [x.2] = 0 then (p.stores.take j).map (·.1) ++ [x.1] else (p.stores.take j).map (·.1)))] := fun nb =>
      fresh_spec w0 hk _ m1 _ x.1 _ [x.2] (RdSl.flat (encE := encY) (q := 1) (w0 := w0) (b := nb) (l := [x.2]) (fun _ _ => rfl) (.head _)) (by simp)
    by_cases h0 : freshN ((p.stores.take j).map (·.1)) x.1 [x.2] = 0
    · rw [if_neg (by omega), ← ht] at q2
      rw [if_pos h0, h0, ← ht] at hfr
      repeat' (first | refine zck ?_ | refine zcp (by kernel_rfl) ?_ | refine zcm ?_ | refine zcl ?_ | refine zcn ?_ | (refine zap rfl ?_; first | refine zad rfl (fun hF Γ w h1 h2 => e2 hF Γ w (fun p hp => h1 p (by simp [hp])) h2) (e3 _ (by omega)) ?_ | refine reg_buildSlice rfl rfl rfl rfl rfl rfl (fun nb3 => ?_) | refine zan rfl ?_ | refine zan rfl ?_ | refine zab 1 rfl rfl rfl ?_ | refine zce rfl ?_ | (refine zai [2, 0] (hfr _).owned rfl rfl rfl (fun p hp => by simp [hp]) ?_; rintro v Γ ⟨_, ⟨rfl, rfl⟩, rfl⟩) | refine zce rfl ?_ | refine zao rfl ?_ | refine zbf rfl rfl (by omega) ?_ | refine zbg rfl rfl (by omega) ?_ | refine zau rfl rfl (by omega) ?_ | refine zae 1 rfl rfl rfl rfl rfl rfl rfl ?_ | refine zas rfl rfl (by omega) ?_ | refine zar (fun nb => ?_)) | refine zch ?_ | refine zci rfl ?_ | refine zcj rfl ?_)
      refine run_take [0] rfl ?_
      exact cut_end ⟨rfl, j + 1, ⟨rfl, rfl, rfl, rfl, int_eq (by omega), trivial⟩, ⟨rfl, by omega, q2⟩, by omega⟩
    · rw [if_pos h0] at q2
      rw [if_neg h0] at hfr
      repeat' (first | refine zck ?_ | refine zcp (by kernel_rfl) ?_ | refine zcm ?_ | refine zcl ?_ | (refine zap rfl ?_; first | refine zad rfl (fun hF Γ w h1 h2 => e2 hF Γ w (fun p hp => h1 p (by simp [hp])) h2) (e3 _ (by omega)) ?_ | refine reg_buildSlice rfl rfl rfl rfl rfl rfl (fun nb3 => ?_) | refine zan rfl ?_ | refine zan rfl ?_ | refine zab 1 rfl rfl rfl ?_ | refine zce rfl ?_ | (refine zai [2, 0] (hfr _).owned rfl rfl rfl (fun p hp => by simp [hp]) ?_; rintro v Γ ⟨_, ⟨rfl, rfl⟩, rfl⟩) | refine zce rfl ?_ | refine zao rfl ?_ | refine zbe rfl rfl (by omega) ?_ | refine zbg rfl rfl (by omega) ?_ | refine zae 1 rfl rfl rfl rfl rfl rfl rfl ?_ | refine zas rfl rfl (by omega) ?_ | refine zar (fun nb => ?_)) | refine zch ?_ | refine zci rfl ?_)
      refine run_take [] rfl ?_
      rw [← q2, if_pos h0] at hw
      exact qret1 (fun _ _ h => h) rfl ⟨by rw [hw]; rfl, rfl⟩
  · rw [List.drop_of_length_le (by omega)] at q2
    have q2 : wrongD [] p.stores = 0 := q2.symm
    rw [q2, if_neg (by decide)] at hw
    repeat' (first | refine zck ?_ | refine zcp (by kernel_rfl) ?_ | (refine zap rfl ?_; first | refine zbh rfl rfl (by omega) ?_) | refine zch ?_ | refine zcj rfl ?_)
    refine cut_exit rfl rfl ?_
    refine run_take [] rfl ?_
    repeat' (first | refine zck ?_ | refine zcp (by kernel_rfl) ?_ | refine zcl ?_ | (refine zap rfl ?_; first | refine zan rfl ?_ | refine zan rfl ?_ | refine zaa 0 rfl rfl rfl ?_ | refine zce rfl ?_ | refine zao rfl ?_ | refine zcc (fun nb => ?_)) | refine zch ?_)
    obtain ⟨m2, hm2⟩ : ∃ b, b = nb := ⟨_, rfl⟩
    subst hm2
    refine run_exch 0 (MapS m2 (metM [])) rfl (mapS_make m2) rfl ?_
    refine run_loop (S := Nat) (fun j => [(3, .map (some m2)), (41, .slice a2 p.opers.length c2), (42, .int .i64 p.opers.length), (43, .int .i64 j)])
      (fun j Γ => Γ = [MapS m2 (metM ((p.opers.take j).map (·.name)))] ∧ j ≤ p.opers.length ∧ wrongOs ((p.opers.take j).map (·.name)) (p.opers.drop j) = wrongOs [] p.opers) (fun j => p.opers.length - j) 0
      ⟨rfl, rfl, rfl, rfl, trivial⟩ ⟨rfl, by omega, rfl⟩ ?_
    rintro j Γ junk ⟨rfl, q1, q2⟩
    by_cases hj : j < p.opers.length
    · obtain ⟨x, hx⟩ : ∃ x, p.opers[j]? = some x := ⟨_, List.getElem?_eq_getElem hj⟩
      obtain ⟨b, off, cc, T, fr, cs, rfl, e2, e3, ⟨vp, vb, rfl, r1, r2⟩, _⟩ := h2.at hx
      obtain ⟨a3, c3, hvp, _⟩ := id r1
      obtain ⟨a4, c4, hvb, _⟩ := r2.len
      subst hvp; subst hvb
      rw [wrongOs_drop hx] at q2
      have ht : (p.opers.take (j + 1)).map (·.name) = (p.opers.take j).map (·.name) ++ [x.name] := by rw [take_snoc hx, List.map_append]; rfl
      have hfr := operWrong_spec w0 hk sh m2 ((p.opers.take j).map (·.name)) x _ _ r1 r2 (hs3 x (List.mem_iff_getElem?.2 ⟨_, hx⟩)).1
      by_cases h0 : wrongO ((p.opers.take j).map (·.name)) x = 0
      · rw [if_neg (by omega), ← ht] at q2
        rw [h0, ← ht] at hfr
        repeat' (first | refine zck ?_ | refine zcp (by kernel_rfl) ?_ | refine zcm ?_ | refine zcl ?_ | refine zcn ?_ | (refine zap rfl ?_; first | refine zad rfl (fun hF Γ w h1 h2 => e2 hF Γ w (fun p hp => h1 p (by simp [hp])) h2) (e3 _ (by omega)) ?_ | refine zan rfl ?_ | refine zan rfl ?_ | refine zab 1 rfl rfl rfl ?_ | refine zce rfl ?_ | (refine zai [0] hfr rfl rfl rfl (fun p hp => by simp [hp]) ?_; rintro v Γ ⟨rfl, met', rfl, hm⟩; obtain rfl := hm rfl) | refine zce rfl ?_ | refine zbf rfl rfl (by omega) ?_ | refine zbg rfl rfl (by omega) ?_ | refine zau rfl rfl (by omega) ?_ | refine zae 1 rfl rfl rfl rfl rfl rfl rfl ?_ | refine zas rfl rfl (by omega) ?_ | refine zar (fun nb => ?_)) | refine zch ?_ | refine zci rfl ?_ | refine zcj rfl ?_)
        refine run_take [0] rfl ?_
        exact cut_end ⟨rfl, j + 1, ⟨rfl, rfl, rfl, int_eq (by omega), trivial⟩, ⟨rfl, by omega, q2⟩, by omega⟩
      · rw [if_pos h0] at q2
        repeat' (first | refine zck ?_ | refine zcp (by kernel_rfl) ?_ | refine zcm ?_ | refine zcl ?_ | (refine zap rfl ?_; first | refine zad rfl (fun hF Γ w h1 h2 => e2 hF Γ w (fun p hp => h1 p (by simp [hp])) h2) (e3 _ (by omega)) ?_ | refine zan rfl ?_ | refine zan rfl ?_ | refine zab 1 rfl rfl rfl ?_ | refine zce rfl ?_ | (refine zai [0] hfr rfl rfl rfl (fun p hp => by simp [hp]) ?_; rintro v Γ ⟨rfl, met', rfl, hm⟩) | refine zce rfl ?_ | refine zbe rfl rfl (by omega) ?_ | refine zbg rfl rfl (by omega) ?_ | refine zae 1 rfl rfl rfl rfl rfl rfl rfl ?_ | refine zas rfl rfl (by omega) ?_ | refine zar (fun nb => ?_)) | refine zch ?_ | refine zci rfl ?_)
        refine run_take [] rfl ?_
        rw [← q2] at hw
        exact qret1 (fun _ _ h => h) rfl ⟨by rw [hw]; rfl, rfl⟩
    · rw [List.drop_of_length_le (by omega)] at q2
      repeat' (first | refine zck ?_ | refine zcp (by kernel_rfl) ?_ | (refine zap rfl ?_; first | refine zbh rfl rfl (by omega) ?_) | refine zch ?_ | refine zcj rfl ?_)
      refine cut_exit rfl rfl ?_
      repeat' (first | refine zck ?_ | refine zcp (by kernel_rfl) ?_ | (refine zap rfl ?_; first | refine zan rfl ?_) | refine zch ?_)
      refine run_take [] rfl ?_
      rw [← q2] at hw
      exact ret_tmp1 rfl ⟨by rw [hw]; rfl, rfl⟩
end Go.Proofs.YtfnjeldpfilplaaGreatDoor

namespace Sim
open Go Go.Vc
def findP (p : PP') (s : ByteArray) : Option PO := p.opers.find? fun o => decide (o.name = s)
theorem idxP_find {α : Type} (p : α → Bool) : ∀ (l : List α) (k : Int), 0 ≤ k → match l.find? p with
    | some x => ∃ i : Nat, idxP p l k = k + i ∧ l[i]? = some x
    | none => idxP p l k = -1
  | [], k, _ => rfl
  | x :: l, k, h => by
    have ih := idxP_find p l (k + 1) (by omega)
    by_cases e : p x = true
    · rw [List.find?_cons_of_pos e]
      exact ⟨0, by rw [idxP, if_pos e]; simp, rfl⟩
    · rw [List.find?_cons_of_neg e]
      have e1 : idxP p (x :: l) k = idxP p l (k + 1) := by rw [idxP, if_neg e]
      cases hf : l.find? p with
      | none => rw [hf] at ih; exact e1.trans ih
      | some y =>
        rw [hf] at ih
        obtain ⟨i, h1, h2⟩ := ih
        exact ⟨i + 1, by rw [e1, h1]; omega, h2⟩
end Sim
namespace Go.Vc
open Sim
def RdOv (w0 : World) (sh : Shared) (v : Value) (o : PO) : Prop := ∃ cs, v = .agg (List.toArray cs) ∧ RdO w0 sh o cs
theorem sub_h2 {a b : Nat × Obj} {sh : Shared} : ∀ p ∈ a :: sh, p ∈ a :: b :: sh := fun p hp => by
  rcases List.mem_cons.1 hp with h | h
  · rw [h]; exact List.mem_cons_self ..
  · exact List.mem_cons_of_mem _ (List.mem_cons_of_mem _ h)
end Go.Vc
namespace Go.Proofs.YtfnjeldpfilplaaGreatDoor
open Go.Vc Sim
theorem find1_spec (w0 : World) (sh : Shared) (xc : Nat) (name : ByteArray) (o : PO) (a1 a2 : Option Addr) (n1 c1 n2 c2 : Nat) :
    FnE PP w0 ((xc, .cells (List.toArray [.string name]) 9 (0, 0)) :: sh) 31 [.agg (List.toArray [.string o.name, .slice a1 n1 c1, .slice a2 n2 c2]), .pointer (some ⟨xc, 0, none⟩)] [] (.bool (decide (o.name = name))) [] := by
  refine fn_of_run en31 fn31 rfl rfl rfl ?_
  repeat' (first | refine zck ?_ | refine zcp (by kernel_rfl) ?_ | (refine zap rfl ?_; first | refine reg_eqS rfl rfl ?_ | refine zan rfl ?_ | refine zaa 0 rfl rfl rfl ?_ | refine zab 0 rfl rfl rfl ?_ | refine zao rfl ?_ | refine zaq (cs := [_, _, _]) rfl (fun nb => ?_)) | refine zch ?_)
  refine run_take [] rfl ?_
  exact ret_tmp1 rfl ⟨rfl, rfl⟩
theorem idxO_spec (w0 : World) (sh : Shared) (v : Value) (l : List PO) (xc : Nat) (name : ByteArray) (hl : RdOl w0 sh v l) (hb : l.length ≤ 1099511627776) :
    FnE PP w0 ((xc, .cells (List.toArray [.string name]) 9 (0, 0)) :: sh) 30 [v, .func (.func 31) #[] #[.pointer (some ⟨xc, 0, none⟩)]] [] (.int .i64 (idxP (fun o => decide (o.name = name)) l 0)) [] := by
  obtain ⟨a, cap, hv, _⟩ := hl.len
  subst hv
  refine fn_of_run en30 fn30 rfl rfl rfl ?_
  repeat' (first | refine zck ?_ | refine zcp (by kernel_rfl) ?_ | refine zcl ?_ | (refine zap rfl ?_; first | refine zan rfl ?_ | refine zan rfl ?_ | refine zce rfl ?_) | refine zch ?_)
  refine run_loop (S := Nat) (fun j => [(0, .slice a l.length cap), (1, .func (.func 31) #[] #[.pointer (some ⟨xc, 0, none⟩)]), (7, .int .i64 l.length), (8, .int .i64 j)])
    (fun j Γ => Γ = [] ∧ j ≤ l.length ∧ idxP (fun o => decide (o.name = name)) (l.drop j) j = idxP (fun o => decide (o.name = name)) l 0) (fun j => l.length - j) 0 ⟨rfl, rfl, rfl, rfl, trivial⟩ ⟨rfl, by omega, rfl⟩ ?_
  rintro j Γ junk ⟨rfl, g1, g2⟩
  by_cases hj : j < l.length
  · obtain ⟨x, hx⟩ : ∃ x, l[j]? = some x := ⟨_, List.getElem?_eq_getElem hj⟩
    obtain ⟨b, off, c, T, fr, cs, rfl, e2, e3, ⟨vp, vb, rfl, r1, r2⟩, _⟩ := hl.at hx
    obtain ⟨a3, c3, hvp, _⟩ := id r1
    obtain ⟨a4, c4, hvb, _⟩ := r2.len
    subst hvp; subst hvb
    have hd : l.drop j = x :: l.drop (j + 1) := by
      rw [List.drop_eq_getElem_cons hj]
      congr 1
      exact (List.getElem?_eq_some_iff.1 hx).2
    have hc := find1_spec w0 sh xc name x a3 a4 x.params.length c3 x.body.length c4
    rw [hd, idxP] at g2
    by_cases hs : decide (x.name = name) = true
    · rw [if_pos hs] at g2
      rw [hs] at hc
      repeat' (first | refine zck ?_ | refine zcp (by kernel_rfl) ?_ | refine zcm ?_ | refine zcl ?_ | (refine zap rfl ?_; first | refine zad rfl (fun hF Γ w h1 h2 => e2 hF Γ w (fun p hp => h1 p (by simp [hp])) h2) (e3 _ (by omega)) ?_ | refine zan rfl ?_ | refine zan rfl ?_ | refine zah [] hc rfl rfl rfl (fun _ h => h) rfl ?_ | refine zbg rfl rfl (by omega) ?_ | refine zas rfl rfl (by omega) ?_) | refine zch ?_ | refine zci rfl ?_)
      exact qret1 (fun _ _ h => h) rfl ⟨by rw [← g2]; rfl, rfl⟩
    · rw [if_neg hs] at g2
      rw [Bool.eq_false_iff.2 hs] at hc
      repeat' (first | refine zck ?_ | refine zcp (by kernel_rfl) ?_ | refine zcm ?_ | refine zcl ?_ | refine zcn ?_ | (refine zap rfl ?_; first | refine zad rfl (fun hF Γ w h1 h2 => e2 hF Γ w (fun p hp => h1 p (by simp [hp])) h2) (e3 _ (by omega)) ?_ | refine zan rfl ?_ | refine zan rfl ?_ | refine zah [] hc rfl rfl rfl (fun _ h => h) rfl ?_ | refine zbg rfl rfl (by omega) ?_ | refine zau rfl rfl (by omega) ?_ | refine zas rfl rfl (by omega) ?_) | refine zch ?_ | refine zci rfl ?_ | refine zcj rfl ?_)
      exact cut_end ⟨rfl, j + 1, ⟨rfl, rfl, rfl, int_eq (by omega), trivial⟩, ⟨rfl, by omega, by rw [← g2]; rfl⟩, by omega⟩
  · repeat' (first | refine zck ?_ | refine zcp (by kernel_rfl) ?_ | (refine zap rfl ?_; first | refine zbh rfl rfl (by omega) ?_) | refine zch ?_ | refine zcj rfl ?_)
    refine cut_exit rfl rfl ?_
    repeat' (first | refine zck ?_ | refine zcp (by kernel_rfl) ?_ | (refine zap rfl ?_; first | refine zan rfl ?_) | refine zch ?_)
    rw [List.drop_of_length_le (by omega)] at g2
    exact ret_tmp1 rfl ⟨by rw [← g2]; rfl, rfl⟩
theorem find_spec (w0 : World) (sh : Shared) (v : Value) (p : PP') (name : ByteArray) (hp : RdP w0 sh v p) (hb : p.opers.length ≤ 1000000) :
    Vc.Fn PP w0 sh 16 [v, .string name] [] (fun r Γ => Γ = [] ∧ match findP p name with
      | some o => ∃ v, r = .tuple #[v, .bool true] ∧ RdOv w0 sh v o
      | none => r = .tuple #[.agg (List.toArray [.string ⟨#[]⟩, .slice none 0 0, .slice none 0 0]), .bool false]) := by
  obtain ⟨vs, vo, hv, h1, h2⟩ := hp
  subst hv
  obtain ⟨a1, c1, hvs, hc1, _⟩ := id h1
  obtain ⟨a2, c2, hvo, hc2⟩ := h2.len
  subst hvs; subst hvo
  have hf := idxP_find (fun o : PO => decide (o.name = name)) p.opers 0 (Int.le_refl _)
  have hi := fun xc => idxO_spec w0 sh _ p.opers xc name h2 (by omega)
  unfold findP
  refine fn_of_run en16 fn16 rfl rfl rfl ?_
  repeat (first | refine zck ?_ | refine zcl ?_ | refine zcm ?_ | refine zcn ?_)
  first | refine zcp (by kernel_rfl) ?_ | refine zcq PP_mixed (by kernel_rfl) (by kernel_rfl) ?_
  repeat' (refine zap rfl ?_; first | refine zan rfl ?_ | refine zaq (cs := [_]) rfl (fun nb => ?_) | refine zaq (cs := [_, _]) rfl (fun nb => ?_) | refine zar (fun nb => ?_))
  all_goals refine zch ?_
  all_goals repeat (first | refine zck ?_ | refine zcl ?_ | refine zcm ?_ | refine zcn ?_)
  refine run_share [0] rfl ?_
  refine run_share [0] rfl ?_
  cases hq : p.opers.find? (fun o => decide (o.name = name)) with
  | none =>
    rw [hq] at hf
    rw [hf] at hi
    repeat' (first | refine zck ?_ | refine zcp (by kernel_rfl) ?_ | (refine zap rfl ?_; first | refine zan rfl ?_ | refine zan rfl ?_ | refine zaa 1 rfl rfl rfl ?_ | refine zah [] (hi _) rfl rfl rfl sub_h2 rfl ?_ | refine zao rfl ?_ | refine zbg rfl rfl (by omega) ?_ | refine zae 0 rfl rfl rfl rfl rfl rfl rfl ?_ | refine zcb rfl ?_ | refine zan rfl ?_) | refine zch ?_ | refine zci rfl ?_)
    exact run_ret (leaves_nil (ends_take [] rfl (ends_two rfl (resOk_pt 0 rfl rfl rfl) rfl ⟨rfl, rfl, rfl⟩)))
  | some x =>
    rw [hq] at hf
    obtain ⟨i, hi1, hx⟩ := hf
    rw [hi1] at hi
    obtain ⟨b, off, c, T, fr, cs, ha2, e2, e3, hro, _⟩ := h2.at hx
    have hr2 := hro
    obtain ⟨vp, vb, hcs, r1, r2⟩ := hro
    obtain ⟨a3, c3, hvp, _⟩ := id r1
    obtain ⟨a4, c4, hvb, _⟩ := r2.len
    subst hvp; subst hvb; subst hcs; subst ha2
    have hlt := (List.getElem?_eq_some_iff.1 hx).1
    repeat' (first | refine zck ?_ | refine zcp (by kernel_rfl) ?_ | refine zcm ?_ | (refine zap rfl ?_; first | refine zad rfl (fun hF Γ w h1 h2 => e2 hF Γ w (fun p hp => h1 p (by simp [hp])) h2) (e3 _ (by omega)) ?_ | refine zan rfl ?_ | refine zan rfl ?_ | refine zaa 1 rfl rfl rfl ?_ | refine zah [] (hi _) rfl rfl rfl sub_h2 rfl ?_ | refine zao rfl ?_ | refine zbh rfl rfl (by omega) ?_ | refine zae 0 rfl rfl rfl rfl rfl rfl rfl ?_ | refine zas rfl rfl (by omega) ?_ | refine zan rfl ?_) | refine zch ?_ | refine zcj rfl ?_)
    exact run_ret (leaves_nil (ends_take [] rfl (ends_two rfl (resOk_pt 0 rfl rfl rfl) rfl ⟨rfl, rfl, _, rfl, _, rfl, hr2⟩)))
end Go.Proofs.YtfnjeldpfilplaaGreatDoor

namespace Go.Proofs.YtfnjeldpfilplaaGreatDoor
open Go.Vc Sim
abbrev MsR (w0 : World) (k : Int) (v : Value) (Γ : List Asn) : Prop := Γ = [Rds fun bl => RdSl w0 bl encM 4 v (msK k)]
theorem methods0 (w0 : World) : Vc.Fn PP w0 [] 129 [.int .i64 0] [] (MsR w0 0) := by
  refine fn_of_run en129 fn129 rfl rfl rfl ?_
  repeat' (first | refine zck ?_ | refine zcp (by kernel_rfl) ?_ | refine zcl ?_ | (refine zap rfl ?_; first | refine reg_buildSlice rfl rfl rfl rfl rfl rfl (fun nb => ?_) | refine zan rfl ?_ | refine zan rfl ?_ | refine zce rfl ?_ | (refine zai [] (row_spec w0) rfl rfl rfl sub_nil ?_; rintro v Γ ⟨m1, s0, s1, s2, s3, s7, rfl, rfl⟩) | (refine zai [] (keyed_spec w0) rfl rfl rfl sub_nil ?_; rintro v Γ ⟨m2, s4, s5, s6, rfl, rfl⟩) | (refine zai [] (linked_spec w0) rfl rfl rfl sub_nil ?_; rintro v Γ ⟨m3, s8, s9, rfl, rfl⟩)) | refine zch ?_)
  refine run_share [13] rfl ?_
  refine run_loop1 ?_
  repeat' (first | refine zck ?_ | refine zcp (by kernel_rfl) ?_ | refine zcm ?_ | refine zcl ?_ | (refine zap rfl ?_; first | refine reg_lookup 7 (v := .tuple #[mSl s0 3, .bool true]) rfl rfl rfl rfl ?_ | refine zan rfl ?_ | refine zan rfl ?_ | refine zaa 0 rfl rfl rfl ?_ | refine zan rfl ?_ | refine zbg rfl rfl (by omega) ?_ | refine zas rfl rfl (by omega) ?_) | refine zch ?_ | refine zci rfl ?_)
  refine run_take [8] rfl ?_
  refine run_exch 0 (Rds fun bl => RdSl w0 bl encM 4 (mSl s0 3) (msK 0)) rfl (fun g hg => Rds.mono (fun bl hb => RdSl.flat (encE := encM) (q := 4) (w0 := w0) (b := s0) (l := ms0) (fun _ _ => rfl) hb) g (Rds.of_pt g hg)) rfl ?_
  exact ret_tmp1 rfl rfl
theorem methods1 (w0 : World) : Vc.Fn PP w0 [] 129 [.int .i64 1] [] (MsR w0 1) := by
  refine fn_of_run en129 fn129 rfl rfl rfl ?_
  repeat' (first | refine zck ?_ | refine zcp (by kernel_rfl) ?_ | refine zcl ?_ | (refine zap rfl ?_; first | refine reg_buildSlice rfl rfl rfl rfl rfl rfl (fun nb => ?_) | refine zan rfl ?_ | refine zan rfl ?_ | refine zce rfl ?_ | (refine zai [] (row_spec w0) rfl rfl rfl sub_nil ?_; rintro v Γ ⟨m1, s0, s1, s2, s3, s7, rfl, rfl⟩) | (refine zai [] (keyed_spec w0) rfl rfl rfl sub_nil ?_; rintro v Γ ⟨m2, s4, s5, s6, rfl, rfl⟩) | (refine zai [] (linked_spec w0) rfl rfl rfl sub_nil ?_; rintro v Γ ⟨m3, s8, s9, rfl, rfl⟩)) | refine zch ?_)
  refine run_share [13] rfl ?_
  refine run_loop1 ?_
  repeat' (first | refine zck ?_ | refine zcp (by kernel_rfl) ?_ | refine zcm ?_ | refine zcl ?_ | (refine zap rfl ?_; first | refine reg_lookup 7 (v := .tuple #[mSl s1 4, .bool true]) rfl rfl rfl rfl ?_ | refine zan rfl ?_ | refine zan rfl ?_ | refine zaa 0 rfl rfl rfl ?_ | refine zan rfl ?_ | refine zbg rfl rfl (by omega) ?_ | refine zas rfl rfl (by omega) ?_) | refine zch ?_ | refine zci rfl ?_)
  refine run_take [9] rfl ?_
  refine run_exch 0 (Rds fun bl => RdSl w0 bl encM 4 (mSl s1 4) (msK 1)) rfl (fun g hg => Rds.mono (fun bl hb => RdSl.flat (encE := encM) (q := 4) (w0 := w0) (b := s1) (l := ms1) (fun _ _ => rfl) hb) g (Rds.of_pt g hg)) rfl ?_
  exact ret_tmp1 rfl rfl
theorem methods2 (w0 : World) : Vc.Fn PP w0 [] 129 [.int .i64 2] [] (MsR w0 2) := by
  refine fn_of_run en129 fn129 rfl rfl rfl ?_
  repeat' (first | refine zck ?_ | refine zcp (by kernel_rfl) ?_ | refine zcl ?_ | (refine zap rfl ?_; first | refine reg_buildSlice rfl rfl rfl rfl rfl rfl (fun nb => ?_) | refine zan rfl ?_ | refine zan rfl ?_ | refine zce rfl ?_ | (refine zai [] (row_spec w0) rfl rfl rfl sub_nil ?_; rintro v Γ ⟨m1, s0, s1, s2, s3, s7, rfl, rfl⟩) | (refine zai [] (keyed_spec w0) rfl rfl rfl sub_nil ?_; rintro v Γ ⟨m2, s4, s5, s6, rfl, rfl⟩) | (refine zai [] (linked_spec w0) rfl rfl rfl sub_nil ?_; rintro v Γ ⟨m3, s8, s9, rfl, rfl⟩)) | refine zch ?_)
  refine run_share [13] rfl ?_
  refine run_loop1 ?_
  repeat' (first | refine zck ?_ | refine zcp (by kernel_rfl) ?_ | refine zcm ?_ | refine zcl ?_ | (refine zap rfl ?_; first | refine reg_lookup 7 (v := .tuple #[mSl s2 4, .bool true]) rfl rfl rfl rfl ?_ | refine zan rfl ?_ | refine zan rfl ?_ | refine zaa 0 rfl rfl rfl ?_ | refine zan rfl ?_ | refine zbg rfl rfl (by omega) ?_ | refine zas rfl rfl (by omega) ?_) | refine zch ?_ | refine zci rfl ?_)
  refine run_take [10] rfl ?_
  refine run_exch 0 (Rds fun bl => RdSl w0 bl encM 4 (mSl s2 4) (msK 2)) rfl (fun g hg => Rds.mono (fun bl hb => RdSl.flat (encE := encM) (q := 4) (w0 := w0) (b := s2) (l := ms2) (fun _ _ => rfl) hb) g (Rds.of_pt g hg)) rfl ?_
  exact ret_tmp1 rfl rfl
theorem methods3 (w0 : World) : Vc.Fn PP w0 [] 129 [.int .i64 3] [] (MsR w0 3) := by
  refine fn_of_run en129 fn129 rfl rfl rfl ?_
  repeat' (first | refine zck ?_ | refine zcp (by kernel_rfl) ?_ | refine zcl ?_ | (refine zap rfl ?_; first | refine reg_buildSlice rfl rfl rfl rfl rfl rfl (fun nb => ?_) | refine zan rfl ?_ | refine zan rfl ?_ | refine zce rfl ?_ | (refine zai [] (row_spec w0) rfl rfl rfl sub_nil ?_; rintro v Γ ⟨m1, s0, s1, s2, s3, s7, rfl, rfl⟩) | (refine zai [] (keyed_spec w0) rfl rfl rfl sub_nil ?_; rintro v Γ ⟨m2, s4, s5, s6, rfl, rfl⟩) | (refine zai [] (linked_spec w0) rfl rfl rfl sub_nil ?_; rintro v Γ ⟨m3, s8, s9, rfl, rfl⟩)) | refine zch ?_)
  refine run_share [13] rfl ?_
  refine run_loop1 ?_
  repeat' (first | refine zck ?_ | refine zcp (by kernel_rfl) ?_ | refine zcm ?_ | refine zcl ?_ | (refine zap rfl ?_; first | refine reg_lookup 7 (v := .tuple #[mSl s3 7, .bool true]) rfl rfl rfl rfl ?_ | refine zan rfl ?_ | refine zan rfl ?_ | refine zaa 0 rfl rfl rfl ?_ | refine zan rfl ?_ | refine zbg rfl rfl (by omega) ?_ | refine zas rfl rfl (by omega) ?_) | refine zch ?_ | refine zci rfl ?_)
  refine run_take [11] rfl ?_
  refine run_exch 0 (Rds fun bl => RdSl w0 bl encM 4 (mSl s3 7) (msK 3)) rfl (fun g hg => Rds.mono (fun bl hb => RdSl.flat (encE := encM) (q := 4) (w0 := w0) (b := s3) (l := ms3) (fun _ _ => rfl) hb) g (Rds.of_pt g hg)) rfl ?_
  exact ret_tmp1 rfl rfl
theorem methods4 (w0 : World) : Vc.Fn PP w0 [] 129 [.int .i64 4] [] (MsR w0 4) := by
  refine fn_of_run en129 fn129 rfl rfl rfl ?_
  repeat' (first | refine zck ?_ | refine zcp (by kernel_rfl) ?_ | refine zcl ?_ | (refine zap rfl ?_; first | refine reg_buildSlice rfl rfl rfl rfl rfl rfl (fun nb => ?_) | refine zan rfl ?_ | refine zan rfl ?_ | refine zce rfl ?_ | (refine zai [] (row_spec w0) rfl rfl rfl sub_nil ?_; rintro v Γ ⟨m1, s0, s1, s2, s3, s7, rfl, rfl⟩) | (refine zai [] (keyed_spec w0) rfl rfl rfl sub_nil ?_; rintro v Γ ⟨m2, s4, s5, s6, rfl, rfl⟩) | (refine zai [] (linked_spec w0) rfl rfl rfl sub_nil ?_; rintro v Γ ⟨m3, s8, s9, rfl, rfl⟩)) | refine zch ?_)
  refine run_share [13] rfl ?_
  refine run_loop1 ?_
  repeat' (first | refine zck ?_ | refine zcp (by kernel_rfl) ?_ | refine zcm ?_ | refine zcl ?_ | refine zcn ?_ | refine zco ?_ | (refine zap rfl ?_; first | refine reg_lookup 7 (v := .tuple #[.slice none 0 0, .bool false]) rfl rfl rfl rfl ?_ | refine reg_lookup 3 (v := .tuple #[mSl s4 5, .bool true]) rfl rfl rfl rfl ?_ | refine zan rfl ?_ | refine zan rfl ?_ | refine zaa 0 rfl rfl rfl ?_ | refine zan rfl ?_ | refine zbg rfl rfl (by omega) ?_ | refine zau rfl rfl (by omega) ?_ | refine zas rfl rfl (by omega) ?_) | refine zch ?_ | refine zci rfl ?_ | refine zcj rfl ?_)
  refine run_take [4] rfl ?_
  refine run_exch 0 (Rds fun bl => RdSl w0 bl encM 4 (mSl s4 5) (msK 4)) rfl (fun g hg => Rds.mono (fun bl hb => RdSl.flat (encE := encM) (q := 4) (w0 := w0) (b := s4) (l := ms4) (fun _ _ => rfl) hb) g (Rds.of_pt g hg)) rfl ?_
  exact ret_tmp1 rfl rfl
theorem methods5 (w0 : World) : Vc.Fn PP w0 [] 129 [.int .i64 5] [] (MsR w0 5) := by
  refine fn_of_run en129 fn129 rfl rfl rfl ?_
  repeat' (first | refine zck ?_ | refine zcp (by kernel_rfl) ?_ | refine zcl ?_ | (refine zap rfl ?_; first | refine reg_buildSlice rfl rfl rfl rfl rfl rfl (fun nb => ?_) | refine zan rfl ?_ | refine zan rfl ?_ | refine zce rfl ?_ | (refine zai [] (row_spec w0) rfl rfl rfl sub_nil ?_; rintro v Γ ⟨m1, s0, s1, s2, s3, s7, rfl, rfl⟩) | (refine zai [] (keyed_spec w0) rfl rfl rfl sub_nil ?_; rintro v Γ ⟨m2, s4, s5, s6, rfl, rfl⟩) | (refine zai [] (linked_spec w0) rfl rfl rfl sub_nil ?_; rintro v Γ ⟨m3, s8, s9, rfl, rfl⟩)) | refine zch ?_)
  refine run_share [13] rfl ?_
  refine run_loop1 ?_
  repeat' (first | refine zck ?_ | refine zcp (by kernel_rfl) ?_ | refine zcm ?_ | refine zcl ?_ | refine zcn ?_ | refine zco ?_ | (refine zap rfl ?_; first | refine reg_lookup 7 (v := .tuple #[.slice none 0 0, .bool false]) rfl rfl rfl rfl ?_ | refine reg_lookup 3 (v := .tuple #[mSl s5 9, .bool true]) rfl rfl rfl rfl ?_ | refine zan rfl ?_ | refine zan rfl ?_ | refine zaa 0 rfl rfl rfl ?_ | refine zan rfl ?_ | refine zbg rfl rfl (by omega) ?_ | refine zau rfl rfl (by omega) ?_ | refine zas rfl rfl (by omega) ?_) | refine zch ?_ | refine zci rfl ?_ | refine zcj rfl ?_)
  refine run_take [5] rfl ?_
  refine run_exch 0 (Rds fun bl => RdSl w0 bl encM 4 (mSl s5 9) (msK 5)) rfl (fun g hg => Rds.mono (fun bl hb => RdSl.flat (encE := encM) (q := 4) (w0 := w0) (b := s5) (l := ms5) (fun _ _ => rfl) hb) g (Rds.of_pt g hg)) rfl ?_
  exact ret_tmp1 rfl rfl
theorem methods6 (w0 : World) : Vc.Fn PP w0 [] 129 [.int .i64 6] [] (MsR w0 6) := by
  refine fn_of_run en129 fn129 rfl rfl rfl ?_
  repeat' (first | refine zck ?_ | refine zcp (by kernel_rfl) ?_ | refine zcl ?_ | (refine zap rfl ?_; first | refine reg_buildSlice rfl rfl rfl rfl rfl rfl (fun nb => ?_) | refine zan rfl ?_ | refine zan rfl ?_ | refine zce rfl ?_ | (refine zai [] (row_spec w0) rfl rfl rfl sub_nil ?_; rintro v Γ ⟨m1, s0, s1, s2, s3, s7, rfl, rfl⟩) | (refine zai [] (keyed_spec w0) rfl rfl rfl sub_nil ?_; rintro v Γ ⟨m2, s4, s5, s6, rfl, rfl⟩) | (refine zai [] (linked_spec w0) rfl rfl rfl sub_nil ?_; rintro v Γ ⟨m3, s8, s9, rfl, rfl⟩)) | refine zch ?_)
  refine run_share [13] rfl ?_
  refine run_loop1 ?_
  repeat' (first | refine zck ?_ | refine zcp (by kernel_rfl) ?_ | refine zcm ?_ | refine zcl ?_ | refine zcn ?_ | refine zco ?_ | (refine zap rfl ?_; first | refine reg_lookup 7 (v := .tuple #[.slice none 0 0, .bool false]) rfl rfl rfl rfl ?_ | refine reg_lookup 3 (v := .tuple #[mSl s6 7, .bool true]) rfl rfl rfl rfl ?_ | refine zan rfl ?_ | refine zan rfl ?_ | refine zaa 0 rfl rfl rfl ?_ | refine zan rfl ?_ | refine zbg rfl rfl (by omega) ?_ | refine zau rfl rfl (by omega) ?_ | refine zas rfl rfl (by omega) ?_) | refine zch ?_ | refine zci rfl ?_ | refine zcj rfl ?_)
  refine run_take [6] rfl ?_
  refine run_exch 0 (Rds fun bl => RdSl w0 bl encM 4 (mSl s6 7) (msK 6)) rfl (fun g hg => Rds.mono (fun bl hb => RdSl.flat (encE := encM) (q := 4) (w0 := w0) (b := s6) (l := ms6) (fun _ _ => rfl) hb) g (Rds.of_pt g hg)) rfl ?_
  exact ret_tmp1 rfl rfl
theorem methods7 (w0 : World) : Vc.Fn PP w0 [] 129 [.int .i64 7] [] (MsR w0 7) := by
  refine fn_of_run en129 fn129 rfl rfl rfl ?_
  repeat' (first | refine zck ?_ | refine zcp (by kernel_rfl) ?_ | refine zcl ?_ | (refine zap rfl ?_; first | refine reg_buildSlice rfl rfl rfl rfl rfl rfl (fun nb => ?_) | refine zan rfl ?_ | refine zan rfl ?_ | refine zce rfl ?_ | (refine zai [] (row_spec w0) rfl rfl rfl sub_nil ?_; rintro v Γ ⟨m1, s0, s1, s2, s3, s7, rfl, rfl⟩) | (refine zai [] (keyed_spec w0) rfl rfl rfl sub_nil ?_; rintro v Γ ⟨m2, s4, s5, s6, rfl, rfl⟩) | (refine zai [] (linked_spec w0) rfl rfl rfl sub_nil ?_; rintro v Γ ⟨m3, s8, s9, rfl, rfl⟩)) | refine zch ?_)
  refine run_share [13] rfl ?_
  refine run_loop1 ?_
  repeat' (first | refine zck ?_ | refine zcp (by kernel_rfl) ?_ | refine zcm ?_ | refine zcl ?_ | (refine zap rfl ?_; first | refine reg_lookup 7 (v := .tuple #[mSl s7 6, .bool true]) rfl rfl rfl rfl ?_ | refine zan rfl ?_ | refine zan rfl ?_ | refine zaa 0 rfl rfl rfl ?_ | refine zan rfl ?_ | refine zbg rfl rfl (by omega) ?_ | refine zas rfl rfl (by omega) ?_) | refine zch ?_ | refine zci rfl ?_)
  refine run_take [12] rfl ?_
  refine run_exch 0 (Rds fun bl => RdSl w0 bl encM 4 (mSl s7 6) (msK 7)) rfl (fun g hg => Rds.mono (fun bl hb => RdSl.flat (encE := encM) (q := 4) (w0 := w0) (b := s7) (l := ms7) (fun _ _ => rfl) hb) g (Rds.of_pt g hg)) rfl ?_
  exact ret_tmp1 rfl rfl
theorem methods8 (w0 : World) : Vc.Fn PP w0 [] 129 [.int .i64 8] [] (MsR w0 8) := by
  refine fn_of_run en129 fn129 rfl rfl rfl ?_
  repeat' (first | refine zck ?_ | refine zcp (by kernel_rfl) ?_ | refine zcl ?_ | (refine zap rfl ?_; first | refine reg_buildSlice rfl rfl rfl rfl rfl rfl (fun nb => ?_) | refine zan rfl ?_ | refine zan rfl ?_ | refine zce rfl ?_ | (refine zai [] (row_spec w0) rfl rfl rfl sub_nil ?_; rintro v Γ ⟨m1, s0, s1, s2, s3, s7, rfl, rfl⟩) | (refine zai [] (keyed_spec w0) rfl rfl rfl sub_nil ?_; rintro v Γ ⟨m2, s4, s5, s6, rfl, rfl⟩) | (refine zai [] (linked_spec w0) rfl rfl rfl sub_nil ?_; rintro v Γ ⟨m3, s8, s9, rfl, rfl⟩)) | refine zch ?_)
  refine run_share [13] rfl ?_
  refine run_loop1 ?_
  repeat' (first | refine zck ?_ | refine zcp (by kernel_rfl) ?_ | refine zcm ?_ | refine zcl ?_ | refine zcn ?_ | refine zco ?_ | (refine zap rfl ?_; first | refine reg_lookup 7 (v := .tuple #[.slice none 0 0, .bool false]) rfl rfl rfl rfl ?_ | refine reg_lookup 3 (v := .tuple #[.slice none 0 0, .bool false]) rfl rfl rfl rfl ?_ | refine reg_lookup 0 (v := .tuple #[mSl s8 10, .bool true]) rfl rfl rfl rfl ?_ | refine zan rfl ?_ | refine zan rfl ?_ | refine zaa 0 rfl rfl rfl ?_ | refine zan rfl ?_ | refine zbg rfl rfl (by omega) ?_ | refine zau rfl rfl (by omega) ?_ | refine zas rfl rfl (by omega) ?_) | refine zch ?_ | refine zci rfl ?_ | refine zcj rfl ?_)
  refine run_take [1] rfl ?_
  refine run_exch 0 (Rds fun bl => RdSl w0 bl encM 4 (mSl s8 10) (msK 8)) rfl (fun g hg => Rds.mono (fun bl hb => RdSl.flat (encE := encM) (q := 4) (w0 := w0) (b := s8) (l := ms8) (fun _ _ => rfl) hb) g (Rds.of_pt g hg)) rfl ?_
  exact ret_tmp1 rfl rfl
theorem methods9 (w0 : World) : Vc.Fn PP w0 [] 129 [.int .i64 9] [] (MsR w0 9) := by
  refine fn_of_run en129 fn129 rfl rfl rfl ?_
  repeat' (first | refine zck ?_ | refine zcp (by kernel_rfl) ?_ | refine zcl ?_ | (refine zap rfl ?_; first | refine reg_buildSlice rfl rfl rfl rfl rfl rfl (fun nb => ?_) | refine zan rfl ?_ | refine zan rfl ?_ | refine zce rfl ?_ | (refine zai [] (row_spec w0) rfl rfl rfl sub_nil ?_; rintro v Γ ⟨m1, s0, s1, s2, s3, s7, rfl, rfl⟩) | (refine zai [] (keyed_spec w0) rfl rfl rfl sub_nil ?_; rintro v Γ ⟨m2, s4, s5, s6, rfl, rfl⟩) | (refine zai [] (linked_spec w0) rfl rfl rfl sub_nil ?_; rintro v Γ ⟨m3, s8, s9, rfl, rfl⟩)) | refine zch ?_)
  refine run_share [13] rfl ?_
  refine run_loop1 ?_
  repeat' (first | refine zck ?_ | refine zcp (by kernel_rfl) ?_ | refine zcm ?_ | refine zcl ?_ | refine zcn ?_ | refine zco ?_ | (refine zap rfl ?_; first | refine reg_lookup 7 (v := .tuple #[.slice none 0 0, .bool false]) rfl rfl rfl rfl ?_ | refine reg_lookup 3 (v := .tuple #[.slice none 0 0, .bool false]) rfl rfl rfl rfl ?_ | refine reg_lookup 0 (v := .tuple #[mSl s9 7, .bool true]) rfl rfl rfl rfl ?_ | refine zan rfl ?_ | refine zan rfl ?_ | refine zaa 0 rfl rfl rfl ?_ | refine zan rfl ?_ | refine zbg rfl rfl (by omega) ?_ | refine zau rfl rfl (by omega) ?_ | refine zas rfl rfl (by omega) ?_) | refine zch ?_ | refine zci rfl ?_ | refine zcj rfl ?_)
  refine run_take [2] rfl ?_
  refine run_exch 0 (Rds fun bl => RdSl w0 bl encM 4 (mSl s9 7) (msK 9)) rfl (fun g hg => Rds.mono (fun bl hb => RdSl.flat (encE := encM) (q := 4) (w0 := w0) (b := s9) (l := ms9) (fun _ _ => rfl) hb) g (Rds.of_pt g hg)) rfl ?_
  exact ret_tmp1 rfl rfl
theorem methodsX (w0 : World) (k : Int) (hk : k < 0 ∨ 9 < k) : Vc.Fn PP w0 [] 129 [.int .i64 k] [] (MsR w0 k) := by
  have hm : msK k = [] := by
    unfold msK
    rw [if_neg (by omega), if_neg (by omega), if_neg (by omega), if_neg (by omega), if_neg (by omega), if_neg (by omega), if_neg (by omega), if_neg (by omega), if_neg (by omega), if_neg (by omega)]
  have h0 : ∀ a : Int, 0 ≤ a → a ≤ 9 → ¬ a = k := fun a _ _ => by omega
  refine fn_of_run en129 fn129 rfl rfl rfl ?_
  repeat' (first | refine zck ?_ | refine zcp (by kernel_rfl) ?_ | refine zcl ?_ | (refine zap rfl ?_; first | refine reg_buildSlice rfl rfl rfl rfl rfl rfl (fun nb => ?_) | refine zan rfl ?_ | refine zan rfl ?_ | refine zce rfl ?_ | (refine zai [] (row_spec w0) rfl rfl rfl sub_nil ?_; rintro v Γ ⟨m1, s0, s1, s2, s3, s7, rfl, rfl⟩) | (refine zai [] (keyed_spec w0) rfl rfl rfl sub_nil ?_; rintro v Γ ⟨m2, s4, s5, s6, rfl, rfl⟩) | (refine zai [] (linked_spec w0) rfl rfl rfl sub_nil ?_; rintro v Γ ⟨m3, s8, s9, rfl, rfl⟩)) | refine zch ?_)
  refine run_share [13] rfl ?_
  refine run_loop1 ?_
  repeat' (first | refine zck ?_ | refine zcp (by kernel_rfl) ?_ | refine zcm ?_ | refine zcl ?_ | refine zcn ?_ | refine zco ?_ | refine zcs rfl ?_ | (refine zap rfl ?_; first | refine reg_lookup 7 (v := .tuple #[.slice none 0 0, .bool false]) rfl rfl rfl (by simp [Vc.look, h0]) ?_ | refine reg_lookup 3 (v := .tuple #[.slice none 0 0, .bool false]) rfl rfl rfl (by simp [Vc.look, h0]) ?_ | refine reg_lookup 0 (v := .tuple #[.slice none 0 0, .bool false]) rfl rfl rfl (by simp [Vc.look, h0]) ?_ | refine zan rfl ?_ | refine zan rfl ?_ | refine zaa 0 rfl rfl rfl ?_ | refine zan rfl ?_ | refine zbg rfl rfl (by omega) ?_ | refine zbh rfl rfl (by omega) ?_ | refine zau rfl rfl (by omega) ?_ | refine zas rfl rfl (by omega) ?_) | refine zch ?_ | refine zci rfl ?_ | refine zcj rfl ?_)
  refine run_take [] rfl ?_
  refine run_emptyR (fun bl => RdSl w0 bl encM 4 (.slice none 0 0) (msK k)) (by rw [hm]; exact RdSl.nil) ?_
  exact ret_tmp1 rfl rfl
theorem methods_spec (w0 : World) (k : Int) : Vc.Fn PP w0 [] 129 [.int .i64 k] [] (MsR w0 k) := by
  by_cases h : 0 ≤ k ∧ k ≤ 9
  · rcases (by omega : k = 0 ∨ k = 1 ∨ k = 2 ∨ k = 3 ∨ k = 4 ∨ k = 5 ∨ k = 6 ∨ k = 7 ∨ k = 8 ∨ k = 9) with rfl | rfl | rfl | rfl | rfl | rfl | rfl | rfl | rfl | rfl
    · exact methods0 w0
    · exact methods1 w0
    · exact methods2 w0
    · exact methods3 w0
    · exact methods4 w0
    · exact methods5 w0
    · exact methods6 w0
    · exact methods7 w0
    · exact methods8 w0
    · exact methods9 w0
  · exact methodsX w0 k (by omega)
end Go.Proofs.YtfnjeldpfilplaaGreatDoor

namespace Go.Proofs.YtfnjeldpfilplaaGreatDoor
open Go.Vc Sim
theorem findM1_spec (w0 : World) (sh : Shared) (xc : Nat) (name : ByteArray) (m : MRow) :
    FnE PP w0 ((xc, .cells (List.toArray [.string name]) 9 (0, 0)) :: sh) 131 [.agg (List.toArray (encM m)), .pointer (some ⟨xc, 0, none⟩)] [] (.bool (decide (m.1.1 = name))) [] := by
  refine fn_of_run en131 fn131 rfl rfl rfl ?_
  repeat' (first | refine zck ?_ | refine zcp (by kernel_rfl) ?_ | (refine zap rfl ?_; first | refine reg_eqS rfl rfl ?_ | refine zan rfl ?_ | refine zaa 0 rfl rfl rfl ?_ | refine zab 0 rfl rfl rfl ?_ | refine zao rfl ?_ | refine zaq (cs := [_, _, _, _]) rfl (fun nb => ?_)) | refine zch ?_)
  refine run_take [] rfl ?_
  exact ret_tmp1 rfl ⟨rfl, rfl⟩
theorem idxM_spec (w0 : World) (sh : Shared) (v : Value) (l : List MRow) (xc : Nat) (name : ByteArray) (hl : RdSl w0 sh encM 4 v l) (hb : l.length ≤ 1099511627776) :
    FnE PP w0 ((xc, .cells (List.toArray [.string name]) 9 (0, 0)) :: sh) 130 [v, .func (.func 131) #[] #[.pointer (some ⟨xc, 0, none⟩)]] [] (.int .i64 (idxP (fun m => decide (m.1.1 = name)) l 0)) [] := by
  obtain ⟨a, cap, hv, _⟩ := id hl
  subst hv
  refine fn_of_run en130 fn130 rfl rfl rfl ?_
  repeat' (first | refine zck ?_ | refine zcp (by kernel_rfl) ?_ | refine zcl ?_ | (refine zap rfl ?_; first | refine zan rfl ?_ | refine zan rfl ?_ | refine zce rfl ?_) | refine zch ?_)
  refine run_loop (S := Nat) (fun j => [(0, .slice a l.length cap), (1, .func (.func 131) #[] #[.pointer (some ⟨xc, 0, none⟩)]), (7, .int .i64 l.length), (8, .int .i64 j)])
    (fun j Γ => Γ = [] ∧ j ≤ l.length ∧ idxP (fun m => decide (m.1.1 = name)) (l.drop j) j = idxP (fun m => decide (m.1.1 = name)) l 0) (fun j => l.length - j) 0 ⟨rfl, rfl, rfl, rfl, trivial⟩ ⟨rfl, by omega, rfl⟩ ?_
  rintro j Γ junk ⟨rfl, g1, g2⟩
  by_cases hj : j < l.length
  · obtain ⟨x, hx⟩ : ∃ x, l[j]? = some x := ⟨_, List.getElem?_eq_getElem hj⟩
    obtain ⟨b, off, c, T, fr, rfl, e2, e3, _⟩ := hl.cells hx
    have hd : l.drop j = x :: l.drop (j + 1) := by
      rw [List.drop_eq_getElem_cons hj]
      congr 1
      exact (List.getElem?_eq_some_iff.1 hx).2
    have hc := findM1_spec w0 sh xc name x
    rw [hd, idxP] at g2
    by_cases hs : decide (x.1.1 = name) = true
    · rw [if_pos hs] at g2
      rw [hs] at hc
      repeat' (first | refine zck ?_ | refine zcp (by kernel_rfl) ?_ | refine zcm ?_ | refine zcl ?_ | (refine zap rfl ?_; first | refine zad rfl (fun hF Γ w h1 h2 => e2 hF Γ w (fun p hp => h1 p (by simp [hp])) h2) (e3 _ (by omega)) ?_ | refine zan rfl ?_ | refine zan rfl ?_ | refine zah [] hc rfl rfl rfl (fun _ h => h) rfl ?_ | refine zbg rfl rfl (by omega) ?_ | refine zas rfl rfl (by omega) ?_) | refine zch ?_ | refine zci rfl ?_)
      exact qret1 (fun _ _ h => h) rfl ⟨by rw [← g2]; rfl, rfl⟩
    · rw [if_neg hs] at g2
      rw [Bool.eq_false_iff.2 hs] at hc
      repeat' (first | refine zck ?_ | refine zcp (by kernel_rfl) ?_ | refine zcm ?_ | refine zcl ?_ | refine zcn ?_ | (refine zap rfl ?_; first | refine zad rfl (fun hF Γ w h1 h2 => e2 hF Γ w (fun p hp => h1 p (by simp [hp])) h2) (e3 _ (by omega)) ?_ | refine zan rfl ?_ | refine zan rfl ?_ | refine zah [] hc rfl rfl rfl (fun _ h => h) rfl ?_ | refine zbg rfl rfl (by omega) ?_ | refine zau rfl rfl (by omega) ?_ | refine zas rfl rfl (by omega) ?_) | refine zch ?_ | refine zci rfl ?_ | refine zcj rfl ?_)
      exact cut_end ⟨rfl, j + 1, ⟨rfl, rfl, rfl, int_eq (by omega), trivial⟩, ⟨rfl, by omega, by rw [← g2]; rfl⟩, by omega⟩
  · repeat' (first | refine zck ?_ | refine zcp (by kernel_rfl) ?_ | (refine zap rfl ?_; first | refine zbh rfl rfl (by omega) ?_) | refine zch ?_ | refine zcj rfl ?_)
    refine cut_exit rfl rfl ?_
    repeat' (first | refine zck ?_ | refine zcp (by kernel_rfl) ?_ | (refine zap rfl ?_; first | refine zan rfl ?_) | refine zch ?_)
    rw [List.drop_of_length_le (by omega)] at g2
    exact ret_tmp1 rfl ⟨by rw [← g2]; rfl, rfl⟩
theorem msK_len (k : Int) : (msK k).length ≤ 10 := by
  have h := congrArg List.length (msK_rows k)
  rw [List.length_map] at h
  rw [h]
  unfold ctMeths
  by_cases h : 0 ≤ k ∧ k ≤ 9
  · rcases (by omega : k = 0 ∨ k = 1 ∨ k = 2 ∨ k = 3 ∨ k = 4 ∨ k = 5 ∨ k = 6 ∨ k = 7 ∨ k = 8 ∨ k = 9) with rfl | rfl | rfl | rfl | rfl | rfl | rfl | rfl | rfl | rfl <;> decide
  · rw [if_neg h]; decide
def findMV : Option MRow → Value
  | some m => .tuple #[.agg (List.toArray (encM m)), .bool true]
  | none => .tuple #[.agg (List.toArray [.string ⟨#[]⟩, .int .i64 0, .bool false, .nilFunc]), .bool false]
theorem findM_spec (w0 : World) (k : Int) (name : ByteArray) : FnE PP w0 [] 112 [.int .i64 k, .string name] [] (findMV ((msK k).find? fun m => decide (m.1.1 = name))) [] := by
  have hf := idxP_find (fun m : MRow => decide (m.1.1 = name)) (msK k) 0 (Int.le_refl _)
  have hlen := msK_len k
  refine fn_of_run en112 fn112 rfl rfl rfl ?_
  repeat (first | refine zck ?_ | refine zcl ?_ | refine zcm ?_ | refine zcn ?_)
  first | refine zcp (by kernel_rfl) ?_ | refine zcq PP_mixed (by kernel_rfl) (by kernel_rfl) ?_
  repeat' (refine zap rfl ?_; first | refine zan rfl ?_ | refine zaq (cs := [_]) rfl (fun nb => ?_) | refine zar (fun nb => ?_))
  all_goals refine zch ?_
  all_goals repeat (first | refine zck ?_ | refine zcl ?_ | refine zcm ?_ | refine zcn ?_)
  refine run_share [0] rfl ?_
  rename_i be
  repeat (first | refine zck ?_ | refine zcl ?_ | refine zcm ?_ | refine zcn ?_)
  first | refine zcp (by kernel_rfl) ?_ | refine zcq PP_mixed (by kernel_rfl) (by kernel_rfl) ?_
  repeat' (refine zap rfl ?_; first | refine zan rfl ?_ | refine zan rfl ?_ | (refine zai [] (methods_spec w0 k) rfl rfl rfl sub_nil ?_; rintro v Γ rfl))
  all_goals refine zch ?_
  all_goals repeat (first | refine zck ?_ | refine zcl ?_ | refine zcm ?_ | refine zcn ?_)
  refine run_shareR [0] rfl ?_
  intro sh' bl hs1 hs2 hR
  have hR := hR.mono hs2
  obtain ⟨a2, c2, hv2, _⟩ := id hR
  subst hv2
  have hbe2 : (be, Obj.cells (List.toArray [Value.string name]) 9 (0, 0)) ∈ sh' := hs1 _ (.head _)
  have hi := idxM_spec w0 sh' _ (msK k) be name hR (by omega)
  have hsub : ∀ p ∈ (be, Obj.cells (List.toArray [Value.string name]) 9 (0, 0)) :: sh', p ∈ sh' := fun p hp => by
    rcases List.mem_cons.1 hp with h | h
    · rw [h]; exact hbe2
    · exact h
  cases hq : (msK k).find? (fun m => decide (m.1.1 = name)) with
  | none =>
    rw [hq] at hf
    rw [hf] at hi
    repeat' (first | refine zck ?_ | refine zcp (by kernel_rfl) ?_ | (refine zap rfl ?_; first | refine zan rfl ?_ | refine zan rfl ?_ | refine zah [] hi rfl rfl rfl hsub rfl ?_ | refine zbg rfl rfl (by omega) ?_ | refine zae 0 rfl rfl rfl rfl rfl rfl rfl ?_ | refine zcb rfl ?_ | refine zan rfl ?_) | refine zch ?_ | refine zci rfl ?_)
    exact run_ret (leaves_nil (ends_take [] rfl (ends_two rfl (resOk_pt 0 rfl rfl rfl) rfl ⟨rfl, rfl, rfl⟩)))
  | some x =>
    rw [hq] at hf
    obtain ⟨i, hi1, hx⟩ := hf
    rw [hi1] at hi
    obtain ⟨b, off, c, T, fr, ha2, e2, e3, _⟩ := hR.cells hx
    subst ha2
    have hlt := (List.getElem?_eq_some_iff.1 hx).1
    repeat' (first | refine zck ?_ | refine zcp (by kernel_rfl) ?_ | refine zcm ?_ | (refine zap rfl ?_; first | refine zad rfl e2 (e3 _ (by omega)) ?_ | refine zan rfl ?_ | refine zan rfl ?_ | refine zah [] hi rfl rfl rfl hsub rfl ?_ | refine zbh rfl rfl (by omega) ?_ | refine zae 0 rfl rfl rfl rfl rfl rfl rfl ?_ | refine zas rfl rfl (by omega) ?_ | refine zan rfl ?_) | refine zch ?_ | refine zcj rfl ?_)
    exact run_ret (leaves_nil (ends_take [] rfl (ends_two rfl (resOk_pt 0 rfl rfl rfl) rfl ⟨rfl, rfl, rfl⟩)))
theorem method_spec (w0 : World) (m : ByteArray × Int × Bool) (f : Value) : FnE PP w0 [] 113 [.agg (List.toArray [.string m.1, .int .i64 m.2.1, .bool m.2.2, f])] [] (.agg (List.toArray [.string m.1, .int .i64 m.2.1, .bool m.2.2])) [] := by
  refine fn_of_run en113 fn113 rfl rfl rfl ?_
  repeat' (first | refine zck ?_ | refine zcp (by kernel_rfl) ?_ | (refine zap rfl ?_; first | refine zab 0 rfl rfl rfl ?_ | refine zao rfl ?_ | refine zae 1 rfl rfl rfl rfl rfl rfl rfl ?_ | refine zaq (cs := [_, _, _, _]) rfl (fun nb => ?_) | refine zar (fun nb => ?_) | refine zcb rfl ?_) | refine zch ?_)
  exact run_ret (leaves_nil (ends_take [] rfl (ends_one rfl (resOk_pt 1 rfl rfl rfl) ⟨rfl, rfl, rfl⟩)))
def findCV : Option (ByteArray × Int × Bool) → Value
  | some m => .tuple #[.agg (List.toArray [.string m.1, .int .i64 m.2.1, .bool m.2.2]), .bool true]
  | none => .tuple #[.agg (List.toArray [.string ⟨#[]⟩, .int .i64 0, .bool false]), .bool false]
theorem findC_spec (w0 : World) (k : Int) (name : ByteArray) : FnE PP w0 [] 93 [.int .i64 k, .string name] [] (findCV (ctFind k name)) [] := by
  have hm := findM_spec w0 k name
  have hc : ctFind k name = ((msK k).find? fun m => decide (m.1.1 = name)).map (·.1) := by
    unfold ctFind
    rw [← msK_rows, List.find?_map]
    rfl
  rw [hc]
  cases hq : (msK k).find? (fun m => decide (m.1.1 = name)) with
  | none =>
    rw [hq] at hm
    have hz := method_spec w0 (⟨#[]⟩, 0, false) .nilFunc
    refine fn_of_run en93 fn93 rfl rfl rfl ?_
    repeat' (first | refine zck ?_ | refine zcp (by kernel_rfl) ?_ | (refine zap rfl ?_; first | refine zan rfl ?_ | refine zan rfl ?_ | refine zab 1 rfl rfl rfl ?_ | refine zah [] hm rfl rfl rfl sub_nil rfl ?_ | refine zah [] hz rfl rfl rfl sub_nil rfl ?_ | refine zan rfl ?_ | refine zae 0 rfl rfl rfl rfl rfl rfl rfl ?_ | refine zae 1 rfl rfl rfl rfl rfl rfl rfl ?_ | refine zar (fun nb => ?_)) | refine zch ?_)
    exact run_ret (leaves_nil (ends_take [] rfl (ends_two rfl (resOk_pt 0 rfl rfl rfl) rfl ⟨rfl, rfl, rfl⟩)))
  | some x =>
    rw [hq] at hm
    have hz := method_spec w0 x.1 (.func (.func x.2) #[] #[])
    refine fn_of_run en93 fn93 rfl rfl rfl ?_
    repeat' (first | refine zck ?_ | refine zcp (by kernel_rfl) ?_ | (refine zap rfl ?_; first | refine zan rfl ?_ | refine zan rfl ?_ | refine zab 1 rfl rfl rfl ?_ | refine zah [] hm rfl rfl rfl sub_nil rfl ?_ | refine zah [] hz rfl rfl rfl sub_nil rfl ?_ | refine zan rfl ?_ | refine zae 0 rfl rfl rfl rfl rfl rfl rfl ?_ | refine zae 1 rfl rfl rfl rfl rfl rfl rfl ?_ | refine zar (fun nb => ?_)) | refine zch ?_)
    exact run_ret (leaves_nil (ends_take [] rfl (ends_two rfl (resOk_pt 0 rfl rfl rfl) rfl ⟨rfl, rfl, rfl⟩)))
end Go.Proofs.YtfnjeldpfilplaaGreatDoor

namespace Sim
open Go Go.Vc
def kS (l : List (ByteArray × ByteArray)) : SM := l.map fun d => (d.1, .string d.2)
def lookK : List (ByteArray × ByteArray) → ByteArray → Option ByteArray
  | [], _ => none
  | d :: l, s => if d.1 = s then some d.2 else lookK l s
theorem lookK_S (s : ByteArray) : ∀ l : List (ByteArray × ByteArray), lookS (kS l) s = (lookK l s).map .string
  | [] => rfl
  | d :: l => by
    have ih := lookK_S s l
    simp only [kS, List.map_cons, lookS, lookK] at ih ⊢
    rw [ih]
    split <;> rfl
def kindZ (s : ByteArray) : Int := ((ctKind s).getD 0 : Nat)
def nameK (ks : List (ByteArray × ByteArray)) (store : ByteArray) : ByteArray := (lookK ks store).getD ⟨#[]⟩
def writesK (ks : List (ByteArray × ByteArray)) (store meth : ByteArray) : Bool := match ctFind (kindZ (nameK ks store)) meth with | some m => m.2.2 | none => false
def callE (ks : List (ByteArray × ByteArray)) (store meth : ByteArray) : Ef := ⟨[store], if writesK ks store meth = true then [store] else [], [], 1⟩
def callW (ks : List (ByteArray × ByteArray)) (store meth : ByteArray) (w : Int) : Int :=
  if w ≠ 0 then w else if (lookK ks store).isSome = false then 16 else if (ctKind (nameK ks store)).isSome = false then 2 else if (ctFind (kindZ (nameK ks store)) meth).isSome = false then 14 else w
def nodeE (ks : List (ByteArray × ByteArray)) (k : Int) (name meth : ByteArray) (out : Ef) : Ef :=
  if k = 6 then joinE out (callE ks name meth) else if k = 7 then joinE out ⟨[], [], [name], 0⟩ else out
def nodeW (ks : List (ByteArray × ByteArray)) (k : Int) (name meth : ByteArray) (w : Int) : Int := if k = 6 then callW ks name meth w else w
mutual
def exprE (ks : List (ByteArray × ByteArray)) : PE → Int → Ef × Int
  | .mk k _ name meth xs ys, w =>
    (nodeE ks k name meth (exprEs ks ys (exprEs ks xs zeroE w).1 (exprEs ks xs zeroE w).2).1, nodeW ks k name meth (exprEs ks ys (exprEs ks xs zeroE w).1 (exprEs ks xs zeroE w).2).2)
def exprEs (ks : List (ByteArray × ByteArray)) : List PE → Ef → Int → Ef × Int
  | [], out, w => (out, w)
  | e :: l, out, w => exprEs ks l (joinE out (exprE ks e w).1) (exprE ks e w).2
end
theorem exprE_eq (ks : List (ByteArray × ByteArray)) (e : PE) (w : Int) : exprE ks e w = (nodeE ks e.kind e.name e.meth (exprEs ks e.or (exprEs ks e.args zeroE w).1 (exprEs ks e.args zeroE w).2).1, nodeW ks e.kind e.name e.meth (exprEs ks e.or (exprEs ks e.args zeroE w).1 (exprEs ks e.args zeroE w).2).2) := by
  cases e; rw [exprE]; rfl
theorem exprEs_drop {ks : List (ByteArray × ByteArray)} {l : List PE} {j : Nat} {x : PE} {out : Ef} {w : Int} (h : l[j]? = some x) : exprEs ks (l.drop j) out w = exprEs ks (l.drop (j + 1)) (joinE out (exprE ks x w).1) (exprE ks x w).2 := by
  have hj := (List.getElem?_eq_some_iff.1 h).1
  rw [List.drop_eq_getElem_cons hj, (List.getElem?_eq_some_iff.1 h).2, exprEs]
def maxC (a b : Int) : Int := if b > a then b else a
def partE (k num : Int) (own body other : Ef) : Ef := if k = 4 then timesE body num else joinE own { joinE body other with calls := maxC body.calls other.calls }
mutual
def stmtE (ks : List (ByteArray × ByteArray)) : PS → Int → Ef × Int
  | .mk k _ num e body els, w =>
    (partE k num (exprE ks e w).1 (stmtEs ks body zeroE (exprE ks e w).2).1 (stmtEs ks els zeroE (stmtEs ks body zeroE (exprE ks e w).2).2).1, (stmtEs ks els zeroE (stmtEs ks body zeroE (exprE ks e w).2).2).2)
def stmtEs (ks : List (ByteArray × ByteArray)) : List PS → Ef → Int → Ef × Int
  | [], out, w => (out, w)
  | e :: l, out, w => stmtEs ks l (joinE out (stmtE ks e w).1) (stmtE ks e w).2
end
theorem stmtE_eq (ks : List (ByteArray × ByteArray)) (s : PS) (w : Int) : stmtE ks s w = (partE s.kind s.num (exprE ks s.expr w).1 (stmtEs ks s.body zeroE (exprE ks s.expr w).2).1 (stmtEs ks s.els zeroE (stmtEs ks s.body zeroE (exprE ks s.expr w).2).2).1, (stmtEs ks s.els zeroE (stmtEs ks s.body zeroE (exprE ks s.expr w).2).2).2) := by
  cases s; rw [stmtE]; rfl
theorem stmtEs_drop {ks : List (ByteArray × ByteArray)} {l : List PS} {j : Nat} {x : PS} {out : Ef} {w : Int} (h : l[j]? = some x) : stmtEs ks (l.drop j) out w = stmtEs ks (l.drop (j + 1)) (joinE out (stmtE ks x w).1) (stmtE ks x w).2 := by
  have hj := (List.getElem?_eq_some_iff.1 h).1
  rw [List.drop_eq_getElem_cons hj, (List.getElem?_eq_some_iff.1 h).2, stmtEs]
theorem Ef.sm.mono {e : Ef} {n m : Nat} (h : e.sm n) (hm : n ≤ m) : e.sm m := ⟨Nat.le_trans h.1 hm, Nat.le_trans h.2.1 hm, Nat.le_trans h.2.2 hm⟩
theorem zeroE_sm (n : Nat) : zeroE.sm n := ⟨Nat.zero_le _, Nat.zero_le _, Nat.zero_le _⟩
theorem callE_sm (ks : List (ByteArray × ByteArray)) (s m : ByteArray) : (callE ks s m).sm 1 := ⟨Nat.le_refl _, by unfold callE; dsimp only; split <;> simp, Nat.zero_le _⟩
theorem nodeE_sm {ks : List (ByteArray × ByteArray)} {k : Int} {a b : ByteArray} {out : Ef} {n : Nat} (h : out.sm n) : (nodeE ks k a b out).sm (n + 1) := by
  unfold nodeE
  split
  · exact joinE_sm h (callE_sm ks a b)
  · split
    · exact joinE_sm h ⟨Nat.zero_le _, Nat.zero_le _, Nat.le_refl _⟩
    · exact h.mono (by omega)
mutual
theorem exprE_sm (ks : List (ByteArray × ByteArray)) : ∀ (e : PE) (w : Int), (exprE ks e w).1.sm e.size
  | .mk k num a b xs ys, w => by
    rw [exprE_eq, PE.size_eq]
    dsimp only [PE.kind, PE.name, PE.meth, PE.args, PE.or]
    have h1 := exprEs_sm ks xs zeroE w 0 (zeroE_sm 0)
    have h2 := exprEs_sm ks ys (exprEs ks xs zeroE w).1 (exprEs ks xs zeroE w).2 _ h1
    exact (nodeE_sm h2).mono (by omega)
theorem exprEs_sm (ks : List (ByteArray × ByteArray)) : ∀ (l : List PE) (out : Ef) (w : Int) (n : Nat), out.sm n → (exprEs ks l out w).1.sm (n + PE.sizeL l)
  | [], out, w, n, h => by rw [exprEs]; exact h.mono (by omega)
  | e :: l, out, w, n, h => by
    rw [exprEs, PE.sizeL]
    have h1 := exprE_sm ks e w
    have h2 := exprEs_sm ks l _ (exprE ks e w).2 _ (joinE_sm h h1)
    exact h2.mono (by omega)
end
theorem timesE_sm {e : Ef} {n : Nat} (k : Int) (h : e.sm n) : (timesE e k).sm n := by
  unfold timesE
  split
  · exact zeroE_sm n
  · exact joinE_sm (m := 0) h (zeroE_sm 0)
theorem partE_sm {k num : Int} {a b c : Ef} {n m q : Nat} (ha : a.sm n) (hb : b.sm m) (hc : c.sm q) : (partE k num a b c).sm (n + m + q) := by
  unfold partE
  split
  · exact (timesE_sm num hb).mono (by omega)
  · have h : Ef.sm { joinE b c with calls := maxC b.calls c.calls } (m + q) := joinE_sm hb hc
    exact (joinE_sm ha h).mono (by omega)
mutual
theorem stmtE_sm (ks : List (ByteArray × ByteArray)) : ∀ (s : PS) (w : Int), (stmtE ks s w).1.sm s.size
  | .mk k a num e body els, w => by
    rw [stmtE_eq]
    dsimp only [PS.kind, PS.num, PS.expr, PS.body, PS.els]
    have h1 := exprE_sm ks e w
    have h2 := stmtEs_sm ks body zeroE (exprE ks e w).2 0 (zeroE_sm 0)
    have h3 := stmtEs_sm ks els zeroE (stmtEs ks body zeroE (exprE ks e w).2).2 0 (zeroE_sm 0)
    exact (partE_sm h1 h2 h3).mono (by rw [PS.size]; omega)
theorem stmtEs_sm (ks : List (ByteArray × ByteArray)) : ∀ (l : List PS) (out : Ef) (w : Int) (n : Nat), out.sm n → (stmtEs ks l out w).1.sm (n + PS.sizeL l)
  | [], out, w, n, h => by rw [stmtEs]; exact h.mono (by omega)
  | e :: l, out, w, n, h => by
    rw [stmtEs, PS.sizeL]
    have h1 := stmtE_sm ks e w
    have h2 := stmtEs_sm ks l _ (stmtE ks e w).2 _ (joinE_sm h h1)
    exact h2.mono (by omega)
end
def ofP (p : PP') (oper : ByteArray) : Ef × Int :=
  if checkP p ≠ 0 then (zeroE, checkP p) else match findP p oper with
  | none => (zeroE, 10)
  | some o => if (stmtEs p.stores o.body zeroE 0).2 ≠ 0 then (zeroE, (stmtEs p.stores o.body zeroE 0).2) else ((stmtEs p.stores o.body zeroE 0).1, 0)
end Sim

namespace Go.Vc
theorem St.below {w0 w w' : World} {hF : Heap} {Γ : List Asn} (h : St w0 hF Γ w) (hb : Go.RowKit.Below w.heap.size w w') : St w0 hF Γ w' := by
  obtain ⟨g, hs, hd, hg, ha⟩ := h
  refine ⟨g, hs, hd, ⟨hb.tape.trans hg.1, hb.os.trans hg.2.1, hb.output.trans hg.2.2.1, Nat.le_trans hg.2.2.2.1 hb.size, fun b hb0 => ?_⟩, fun b o ho => ?_⟩
  · rw [hb.block b (Nat.lt_of_lt_of_le hb0 hg.2.2.2.1)]
    exact hg.2.2.2.2 b hb0
  · have h1 := ha b o ho
    exact ⟨h1.1, by rw [hb.block b (Array.getElem?_eq_some_iff.1 h1.2).1]; exact h1.2⟩
end Go.Vc
namespace Go.Proofs.YtfnjeldpfilplaaGreatDoor
open Go.Vc Sim
def TabOk (w0 : World) : Prop := ∃ T fr, w0.heap[1]? = some (.cells (Lib.pow10Tab.map fun z => Value.int .u64 z).toArray T fr)
theorem tab_is {w0 w : World} {hF : Heap} {Γ : List Asn} (ht : TabOk w0) (hst : St w0 hF Γ w) : Lib.TabIs Tryz.prog w "internal/strconv.uint64pow10" .u64 Lib.pow10Tab := by
  obtain ⟨T, fr, ht⟩ := ht
  have h1 := (hst.base (Array.getElem?_eq_some_iff.1 ht).1).trans ht
  unfold Lib.TabIs World.var?
  have hg : Tryz.prog.globalNamed "internal/strconv.uint64pow10" = some 1 := by kernel_rfl
  rw [hg]
  simp only [Option.bind_some, h1]
theorem fmt_spec (w0 : World) (ht : TabOk w0) (sh : Shared) (n : Int) (h : -9223372036854775808 ≤ n ∧ n ≤ 9223372036854775807) : FnE PP w0 sh 21 [.int .i64 n, .int .i64 10] [] (.string ⟨(Lib.itoa n).toArray⟩) [] := by
  refine ⟨en21, fun hF w hsh hst => ?_⟩
  rw [PP_def]
  exact (Any.strconv_FormatInt_10 laysM173 n h.1 h.2 w (tab_is ht hst)).mono fun e w' ⟨he, k, os, hw⟩ => ⟨_, [], he, ⟨rfl, rfl⟩, by rw [hw]; exact hst.grow k os⟩
theorem join_spec0 (w0 : World) (sh : Shared) (v : Value) (l : List ByteArray) (sep : ByteArray) (hl : RdSl w0 sh encY 1 v l) (hne : l ≠ []) (hn : l.length ≤ 1000000) (hb : (Lib.join (l.map (·.data.toList)) sep.data.toList).length ≤ 140737488355328) :
    FnE PP w0 sh 34 [v, .string sep] [] (.string ⟨(Lib.join (l.map (·.data.toList)) sep.data.toList).toArray⟩) [] := by
  obtain ⟨a, cap, rfl, hc, h2⟩ := hl
  obtain ⟨b, off, c, T, fr, rfl, hh, hcell⟩ := h2.resolve_left hne
  refine ⟨en34, fun hF w hsh hst => ?_⟩
  have hbk := hh hF _ w hsh hst
  rw [PP_def]
  refine (Any.strings_Join lays156 bldExtra b off cap l sep w (fun j x hx => ?_) (Array.getElem?_eq_some_iff.1 hbk).1 (by omega) hc hb).mono fun e w' ⟨he, hw⟩ => ⟨_, [], he, ⟨rfl, rfl⟩, hst.below hw⟩
  have h3 := (hcell j x hx).2 0 _ rfl
  have h4 : c[off + j]? = some (.string x) := by simpa using h3
  simp [World.cell?, hbk, h4]
abbrev bldP (b : Nat) (p v : Value) : Asn := pt b (.cells (List.toArray [p, v]) 64 (0, 0))
abbrev bldB (a : Option Addr) (c : Nat) (s : ByteArray) : Asn := SlA 5 1 a s.size c (Lib.strCells s)
theorem copyCheck_new (w0 : World) (sh : Shared) (b : Nat) (v : Value) : FnE PP w0 sh 33 [.pointer (some ⟨b, 0, none⟩)] [bldP b (.pointer none) v] (.tuple #[]) [bldP b (.pointer (some ⟨b, 0, none⟩)) v] := by
  refine ⟨en33, fun hF w hsh hst => ?_⟩
  have hbk := hst.get.2
  have hlt := hst.lt
  rw [PP_def]
  refine (Any.Builder_copyCheck_fresh (ρ := lays156_ren) { lays156 with } bldExtra.toX72 b w (by simp [World.cell?, hbk]) (by simp [World.shape?, hbk]; rfl) (by simp [World.frozen?, hbk])).mono fun e w' ⟨he, hw⟩ => ⟨_, _, he, ⟨rfl, rfl⟩, ?_⟩
  subst hw
  refine hst.upd rfl rfl rfl (by simp [World.setCell]) ?_ (fun z hz => ?_)
  · simp only [World.setCell, Array.getElem?_modify, if_true, hbk, Option.map_some]
    rfl
  · simp only [World.setCell, Array.getElem?_modify]
    rw [if_neg (fun q => hz q.symm)]
theorem copyCheck_used (w0 : World) (sh : Shared) (b : Nat) (v : Value) : FnE PP w0 sh 33 [.pointer (some ⟨b, 0, none⟩)] [bldP b (.pointer (some ⟨b, 0, none⟩)) v] (.tuple #[]) [bldP b (.pointer (some ⟨b, 0, none⟩)) v] := by
  refine ⟨en33, fun hF w hsh hst => ?_⟩
  have hbk := hst.get.2
  rw [PP_def]
  exact (Any.Builder_copyCheck_used (ρ := lays156_ren) { lays156 with } bldExtra.toX72 b w (by simp [World.cell?, hbk])).mono fun e w' ⟨he, hw⟩ => ⟨_, _, he, ⟨rfl, rfl⟩, by rw [hw]; exact hst⟩
theorem copyCheck_spec (w0 : World) (sh : Shared) (b : Nat) (p v : Value) (hp : p = .pointer none ∨ p = .pointer (some ⟨b, 0, none⟩)) :
    FnE PP w0 sh 33 [.pointer (some ⟨b, 0, none⟩)] [bldP b p v] (.tuple #[]) [bldP b (.pointer (some ⟨b, 0, none⟩)) v] := by
  rcases hp with rfl | rfl
  · exact copyCheck_new w0 sh b v
  · exact copyCheck_used w0 sh b v
theorem strCells_app (s t : ByteArray) : Lib.strCells s ++ Lib.strCells t = Lib.strCells (s ++ t) := by
  unfold Lib.strCells
  rw [← List.map_append]
  congr 1
theorem writeString_spec (w0 : World) (sh : Shared) (b : Nat) (p : Value) (a : Option Addr) (c : Nat) (s t : ByteArray) (hp : p = .pointer none ∨ p = .pointer (some ⟨b, 0, none⟩)) (hsz : s.size + t.size ≤ 1000000000) :
    Vc.Fn PP w0 sh 19 [.pointer (some ⟨b, 0, none⟩), .string t] [bldP b p (.slice a s.size c), bldB a c s]
      (fun v Γ => ∃ a' c', v = .tuple #[.int .i64 t.size, .nilIface] ∧ Γ = [bldP b (.pointer (some ⟨b, 0, none⟩)) (.slice a' (s ++ t).size c'), bldB a' c' (s ++ t)]) := by
  have hst : (s ++ t).size = s.size + t.size := ByteArray.size_append
  unfold bldB
  rw [hst, ← strCells_app]
  refine fn_of_run en19 fn19 rfl rfl rfl ?_
  repeat (first | refine zck ?_ | refine zcl ?_ | refine zcm ?_ | refine zcn ?_)
  first | refine zcp (by kernel_rfl) ?_ | refine zcq PP_mixed (by kernel_rfl) (by kernel_rfl) ?_
  repeat' (refine zap rfl ?_; first | refine zan rfl ?_)
  all_goals refine zch ?_
  all_goals repeat (first | refine zck ?_ | refine zcl ?_ | refine zcm ?_ | refine zcn ?_)
  repeat (first | refine zck ?_ | refine zcl ?_ | refine zcm ?_ | refine zcn ?_)
  first | refine zcp (by kernel_rfl) ?_ | refine zcq PP_mixed (by kernel_rfl) (by kernel_rfl) ?_
  repeat' (refine zap rfl ?_; first | refine zan rfl ?_ | refine zah [0] (copyCheck_spec w0 sh b p _ hp) rfl rfl rfl (fun p hp => hp) rfl ?_)
  all_goals refine zch ?_
  all_goals repeat (first | refine zck ?_ | refine zcl ?_ | refine zcm ?_ | refine zcn ?_)
  repeat (first | refine zck ?_ | refine zcl ?_ | refine zcm ?_ | refine zcn ?_)
  first | refine zcp (by kernel_rfl) ?_ | refine zcq PP_mixed (by kernel_rfl) (by kernel_rfl) ?_
  repeat' (refine zap rfl ?_; first | refine zan rfl ?_ | refine zab 0 rfl rfl rfl ?_ | refine reg_appendS 1 rfl rfl rfl rfl (by omega) (fun _ _ => rfl) (fun a' c' => ?_) | refine zao rfl ?_ | refine zae 0 rfl rfl rfl rfl rfl rfl rfl ?_ | refine zan rfl ?_)
  all_goals refine zch ?_
  all_goals repeat (first | refine zck ?_ | refine zcl ?_ | refine zcm ?_ | refine zcn ?_)
  repeat (first | refine zck ?_ | refine zcl ?_ | refine zcm ?_ | refine zcn ?_)
  first | refine zcp (by kernel_rfl) ?_ | refine zcq PP_mixed (by kernel_rfl) (by kernel_rfl) ?_
  repeat' (refine zap rfl ?_; first | refine zan rfl ?_ | refine zan rfl ?_ | refine reg_lenS rfl ?_)
  all_goals refine zch ?_
  all_goals repeat (first | refine zck ?_ | refine zcl ?_ | refine zcm ?_ | refine zcn ?_)
  exact ret_tmp2 rfl ⟨_, _, rfl, rfl⟩
theorem bstring_spec (w0 : World) (sh : Shared) (b : Nat) (p : Value) (a : Option Addr) (c : Nat) (s : ByteArray) (hc : s.size ≠ 0 ∨ a = none) (hsz : s.size ≤ 1000000000) :
    FnE PP w0 sh 22 [.pointer (some ⟨b, 0, none⟩)] [bldP b p (.slice a s.size c), bldB a c s] (.string s) [] := by
  have hcb : PP.cellsOf 5 = 1 := by rw [PP_def]; kernel_rfl
  refine fn_of_run en22 fn22 rfl rfl rfl ?_
  repeat (first | refine zck ?_ | refine zcl ?_ | refine zcm ?_ | refine zcn ?_)
  first | refine zcp (by kernel_rfl) ?_ | refine zcq PP_mixed (by kernel_rfl) (by kernel_rfl) ?_
  repeat' (refine zap rfl ?_; first | refine zan rfl ?_)
  all_goals refine zch ?_
  all_goals repeat (first | refine zck ?_ | refine zcl ?_ | refine zcm ?_ | refine zcn ?_)
  refine run_know (φ := s.size ≤ c) (fun hF w hsh hst => ?_) (fun hsc => ?_)
  · obtain ⟨r, h1, _⟩ := hst.at (j := 1) rfl
    obtain ⟨g, hA, _⟩ := h1.head
    exact (SlA_len hA).2
  have hcap : a ≠ none → c ≠ 0 := fun h => by
    rcases hc with h1 | h1
    · omega
    · exact absurd h1 h
  refine run_share [0] rfl ?_
  repeat (first | refine zck ?_ | refine zcl ?_ | refine zcm ?_ | refine zcn ?_)
  first | refine zcp (by kernel_rfl) ?_ | refine zcq PP_mixed (by kernel_rfl) (by kernel_rfl) ?_
  repeat' (refine zap rfl ?_; first | refine zan rfl ?_ | refine zan rfl ?_ | refine zaa 0 rfl rfl rfl ?_ | refine reg_sliceData rfl hcap ?_ | refine reg_unsafeString 0 (bl := s.data.toList) hcb rfl rfl rfl (show s.size ≤ _ by omega) ?_ | refine zce rfl ?_ | refine zao rfl ?_ | refine zan rfl ?_)
  all_goals refine zch ?_
  all_goals repeat (first | refine zck ?_ | refine zcl ?_ | refine zcm ?_ | refine zcn ?_)
  exact ret_tmp1 rfl ⟨rfl, rfl⟩
end Go.Proofs.YtfnjeldpfilplaaGreatDoor

namespace Sim
open Go Go.Vc
structure TEnv where
  vars : ByteArray → Int
  stores : ByteArray → Option ByteArray
def anyNe (ts : List Int) (t : Int) : Bool := ts.any fun x => decide (x ≠ t)
def tEach (ts : List Int) (t : Int) : Int × Int := if anyNe ts t = true then (0, 17) else (t, 0)
def signT (s : ByteArray) : Option (Int × Int) :=
  if inS [bs [43], bs [45], bs [42], bs [47], bs [37]] s then some (1, 1)
  else if inS [bs [60], bs [60, 61], bs [62], bs [62, 61]] s then some (1, 2)
  else if inS [bs [61, 61], bs [33, 61]] s then some (0, 2)
  else if inS [bs [97, 110, 100], bs [111, 114]] s then some (2, 2) else none
def formT (e : PE) : Bool :=
  if e.kind = 5 ∧ signT e.meth = none then false else
  if e.kind ≤ 2 then decide (e.args.length = 0) && decide (e.or.length = 0)
  else if e.kind ≤ 4 then decide (e.args.length = 1) && decide (e.or.length = 0)
  else if e.kind = 5 then decide (e.args.length = 2) && decide (e.or.length = 0)
  else if e.kind = 6 then decide (e.args.length ≤ 4) && decide (e.or.length ≤ 1)
  else decide (e.args.length ≤ 4) && decide (e.or.length = 0)
def callT (E : TEnv) (e : PE) (ts : List Int) : Int :=
  match E.stores e.name with
  | none => 16
  | some nm => match ctKind nm with
    | none => 2
    | some k => match ctFind k e.meth with
      | none => 14
      | some m => if m.2.1 ≠ ts.length then 1 else if anyNe ts 1 = true then 17 else 0
def ruleE (E : TEnv) (e : PE) (ts : List Int) : Int × Int :=
  if e.kind = 0 then (1, 0) else if e.kind = 1 then (2, 0) else
  if e.kind = 2 then (if E.vars e.name = 1 ∨ E.vars e.name = 2 then (E.vars e.name, 0) else (0, 16)) else
  if e.kind = 3 then tEach ts 2 else if e.kind = 4 then tEach ts 1 else
  if e.kind = 5 then (match signT e.meth with
    | none => (0, 17)
    | some (a, b) => if (a = 0 ∧ ts.getD 0 0 = ts.getD 1 0) ∨ (a ≠ 0 ∧ anyNe ts a = false) then (b, 0) else (0, 17)) else
  if e.kind = 6 then (if callT E e ts ≠ 0 then (0, callT E e ts) else (1, 0)) else tEach ts 1
mutual
def ofE (E : TEnv) : PE → Int × Int
  | .mk k n a b xs ys =>
    if k < 0 ∨ 7 < k then (0, 2) else if formT (.mk k n a b xs ys) = false then (0, 5) else
    if (ofEs E xs).2 ≠ 0 then (0, (ofEs E xs).2) else
    if (ruleE E (.mk k n a b xs ys) (ofEs E xs).1).2 ≠ 0 ∨ k ≠ 6 then ruleE E (.mk k n a b xs ys) (ofEs E xs).1 else
    if ofOr E ys ≠ 0 then (0, ofOr E ys) else (1, 0)
def ofEs (E : TEnv) : List PE → List Int × Int
  | [] => ([], 0)
  | e :: l => if (ofE E e).2 ≠ 0 then ([], (ofE E e).2) else ((ofE E e).1 :: (ofEs E l).1, (ofEs E l).2)
def ofOr (E : TEnv) : List PE → Int
  | [] => 0
  | e :: l => if (ofE E e).2 ≠ 0 then (ofE E e).2 else if (ofE E e).1 ≠ 1 then 17 else ofOr E l
end
def deepB : Nat → PE → Bool
  | 0, _ => true
  | k + 1, e => e.args.any (deepB k) || e.or.any (deepB k)
def typeOf (E : TEnv) (e : PE) : Int × Int := if deepB 12 e = true then (0, 18) else ofE E e
end Sim

namespace Sim
open Go Go.Vc
abbrev TV := List (ByteArray × Int)
def lastT : TV → ByteArray → Int → Int
  | [], _, t => t
  | v :: l, s, t => lastT l s (if v.1 = s then v.2 else t)
abbrev typT (l : TV) (s : ByteArray) : Int := lastT l s 0
def envT (K : ByteArray → Option ByteArray) (l : TV) : TEnv := ⟨typT l, K⟩
def exT (K : ByteArray → Option ByteArray) (there : TV) (s : PS) : Int × Int := if hasEx s.kind = true then typeOf (envT K there) s.expr else (0, 0)
def oneT (K : ByteArray → Option ByteArray) (all there : TV) (s : PS) : TV × TV × Int :=
  if (exT K there s).2 ≠ 0 then (all, there, (exT K there s).2) else
  if s.kind = 0 then (if typT all s.name ≠ 0 then (all, there, 11) else (all ++ [(s.name, (exT K there s).1)], there ++ [(s.name, (exT K there s).1)], 0)) else
  if s.kind = 1 ∧ typT there s.name = 0 then (all, there, 16) else
  if (s.kind = 1 ∧ typT there s.name ≠ (exT K there s).1) ∨ (s.kind = 3 ∧ (exT K there s).1 ≠ 2) ∨ (s.kind = 5 ∧ (exT K there s).1 ≠ 1) then (all, there, 17) else (all, there, 0)
mutual
def tyS (K : ByteArray → Option ByteArray) : PS → TV → TV → TV × TV × Int
  | .mk k a n e xs ys, all, there =>
    if (oneT K all there (.mk k a n e xs ys)).2.2 ≠ 0 then oneT K all there (.mk k a n e xs ys) else
    if (tySs K xs (oneT K all there (.mk k a n e xs ys)).1 (oneT K all there (.mk k a n e xs ys)).2.1).2 ≠ 0 then ((tySs K xs (oneT K all there (.mk k a n e xs ys)).1 (oneT K all there (.mk k a n e xs ys)).2.1).1, (oneT K all there (.mk k a n e xs ys)).2.1, (tySs K xs (oneT K all there (.mk k a n e xs ys)).1 (oneT K all there (.mk k a n e xs ys)).2.1).2) else
    ((tySs K ys (tySs K xs (oneT K all there (.mk k a n e xs ys)).1 (oneT K all there (.mk k a n e xs ys)).2.1).1 (oneT K all there (.mk k a n e xs ys)).2.1).1, (oneT K all there (.mk k a n e xs ys)).2.1, (tySs K ys (tySs K xs (oneT K all there (.mk k a n e xs ys)).1 (oneT K all there (.mk k a n e xs ys)).2.1).1 (oneT K all there (.mk k a n e xs ys)).2.1).2)
def tySs (K : ByteArray → Option ByteArray) : List PS → TV → TV → TV × Int
  | [], all, _ => (all, 0)
  | s :: l, all, there => if (tyS K s all there).2.2 ≠ 0 then ((tyS K s all there).1, (tyS K s all there).2.2) else tySs K l (tyS K s all there).1 (tyS K s all there).2.1
end
def parV (o : PO) : TV := o.params.map fun n => (n, 1)
def badStore (p : PP') : Option (ByteArray × ByteArray) := p.stores.find? fun d => decide (ctKind d.2 = none)
def tyO (p : PP') (o : PO) : TV × Int := tySs (lookK p.stores) o.body (parV o) (parV o)
def badOper (p : PP') : Option PO := p.opers.find? fun o => decide ((tyO p o).2 ≠ 0)
def tyP (p : PP') : ByteArray × Int :=
  if checkP p ≠ 0 then (bs [], checkP p) else
  match badStore p with
  | some d => (d.1, 2)
  | none => match badOper p with
    | some o => (o.name, (tyO p o).2)
    | none => (bs [], 0)
theorem lastT_none {s : ByteArray} : ∀ {l : TV} {t : Int}, s ∉ l.map (·.1) → lastT l s t = t
  | [], _, _ => rfl
  | v :: l, t, h => by
    rw [List.map_cons, List.mem_cons, not_or] at h
    rw [lastT, if_neg (fun e => h.1 e.symm), lastT_none h.2]
def okV (l : TV) : Prop := ∀ v ∈ l, v.2 = 1 ∨ v.2 = 2
theorem lastT_mem {s : ByteArray} : ∀ {l : TV} (t : Int), s ∈ l.map (·.1) → ∃ v ∈ l, v.1 = s ∧ lastT l s t = v.2
  | [], _, h => by simp at h
  | v :: l, t, h => by
    by_cases h2 : s ∈ l.map (·.1)
    · obtain ⟨u, h3, h4, h5⟩ := lastT_mem (l := l) (if v.1 = s then v.2 else t) h2
      exact ⟨u, .tail _ h3, h4, h5⟩
    · rw [lastT, lastT_none h2]
      rw [List.map_cons, List.mem_cons] at h
      rcases h with rfl | h
      · exact ⟨v, .head _, rfl, by rw [if_pos rfl]⟩
      · exact absurd h h2
theorem typT_zero {l : TV} (h : okV l) (s : ByteArray) : typT l s = 0 ↔ s ∉ l.map (·.1) := by
  constructor
  · intro h1 h2
    obtain ⟨v, h3, _, h5⟩ := lastT_mem (l := l) 0 h2
    rw [show typT l s = lastT l s 0 from rfl, h5] at h1
    rcases h v h3 with h6 | h6 <;> omega
  · intro h1; exact lastT_none h1
end Sim

namespace Sim
open Go Go.Vc
theorem ofE_mk (E : TEnv) (k n : Int) (a b : ByteArray) (xs ys : List PE) : ofE E (.mk k n a b xs ys) =
    if k < 0 ∨ 7 < k then (0, 2) else if formT (.mk k n a b xs ys) = false then (0, 5) else
    if (ofEs E xs).2 ≠ 0 then (0, (ofEs E xs).2) else
    if (ruleE E (.mk k n a b xs ys) (ofEs E xs).1).2 ≠ 0 ∨ k ≠ 6 then ruleE E (.mk k n a b xs ys) (ofEs E xs).1 else
    if ofOr E ys ≠ 0 then (0, ofOr E ys) else (1, 0) := by rw [ofE]
theorem ofE_eq (E : TEnv) (e : PE) : ofE E e =
    if e.kind < 0 ∨ 7 < e.kind then (0, 2) else if formT e = false then (0, 5) else
    if (ofEs E e.args).2 ≠ 0 then (0, (ofEs E e.args).2) else
    if (ruleE E e (ofEs E e.args).1).2 ≠ 0 ∨ e.kind ≠ 6 then ruleE E e (ofEs E e.args).1 else
    if ofOr E e.or ≠ 0 then (0, ofOr E e.or) else (1, 0) := by
  obtain ⟨k, n, a, b, xs, ys⟩ := e
  exact ofE_mk E k n a b xs ys
def tyOk (r : Int × Int) : Prop := (r.2 = 0 ∧ (r.1 = 1 ∨ r.1 = 2)) ∨ (r.2 ≠ 0 ∧ r.1 = 0)
theorem tEach_ok (ts : List Int) (t : Int) (h : t = 1 ∨ t = 2) : tyOk (tEach ts t) := by
  unfold tEach
  split
  · exact .inr ⟨by decide, rfl⟩
  · exact .inl ⟨rfl, h⟩
theorem signT_ok {s : ByteArray} {a b : Int} (h : signT s = some (a, b)) : b = 1 ∨ b = 2 := by
  unfold signT at h
  split at h
  · cases h; exact .inl rfl
  · split at h
    · cases h; exact .inr rfl
    · split at h
      · cases h; exact .inr rfl
      · split at h
        · cases h; exact .inr rfl
        · cases h
theorem ruleE_ok (E : TEnv) (e : PE) (ts : List Int) : tyOk (ruleE E e ts) := by
  unfold ruleE
  split
  · exact .inl ⟨rfl, .inl rfl⟩
  split
  · exact .inl ⟨rfl, .inr rfl⟩
  split
  · split
    · rename_i h; exact .inl ⟨rfl, h⟩
    · exact .inr ⟨by show (16 : Int) ≠ 0; decide, rfl⟩
  split
  · exact tEach_ok _ _ (.inr rfl)
  split
  · exact tEach_ok _ _ (.inl rfl)
  split
  · split
    · exact .inr ⟨by show (17 : Int) ≠ 0; decide, rfl⟩
    · rename_i hs
      split
      · exact .inl ⟨rfl, signT_ok hs⟩
      · exact .inr ⟨by show (17 : Int) ≠ 0; decide, rfl⟩
  split
  · split
    · rename_i h; exact .inr ⟨h, rfl⟩
    · exact .inl ⟨rfl, .inl rfl⟩
  · exact tEach_ok _ _ (.inl rfl)
theorem ofE_ok (E : TEnv) (e : PE) : tyOk (ofE E e) := by
  rw [ofE_eq]
  split
  · exact .inr ⟨by show (2 : Int) ≠ 0; decide, rfl⟩
  split
  · exact .inr ⟨by show (5 : Int) ≠ 0; decide, rfl⟩
  split
  · rename_i h; exact .inr ⟨h, rfl⟩
  split
  · exact ruleE_ok _ _ _
  split
  · rename_i h; exact .inr ⟨h, rfl⟩
  · exact .inl ⟨rfl, .inl rfl⟩
theorem typeOf_ok (E : TEnv) (e : PE) : tyOk (typeOf E e) := by
  unfold typeOf
  split
  · exact .inr ⟨by show (18 : Int) ≠ 0; decide, rfl⟩
  · exact ofE_ok E e
theorem ofEs_parts {E : TEnv} : ∀ {l : List PE}, (ofEs E l).2 = 0 → ∀ x ∈ l, (ofE E x).2 = 0
  | [], _, x, hx => by simp at hx
  | e :: l, h, x, hx => by
    rw [ofEs] at h
    by_cases h1 : (ofE E e).2 = 0
    · rw [if_neg (fun q => q h1)] at h
      rcases List.mem_cons.1 hx with rfl | hx
      · exact h1
      · exact ofEs_parts h x hx
    · rw [if_pos h1] at h; exact absurd h h1
theorem ofOr_parts {E : TEnv} : ∀ {l : List PE}, ofOr E l = 0 → ∀ x ∈ l, (ofE E x).2 = 0
  | [], _, x, hx => by simp at hx
  | e :: l, h, x, hx => by
    rw [ofOr] at h
    by_cases h1 : (ofE E e).2 = 0
    · rw [if_neg (fun q => q h1)] at h
      by_cases h2 : (ofE E e).1 = 1
      · rw [if_neg (fun q => q h2)] at h
        rcases List.mem_cons.1 hx with rfl | hx
        · exact h1
        · exact ofOr_parts h x hx
      · rw [if_pos h2] at h; omega
    · rw [if_pos h1] at h; exact absurd h h1
theorem formT_or {e : PE} (h : formT e = true) (hk : e.kind ≠ 6) : e.or = [] := by
  unfold formT at h
  split at h
  · cases h
  split at h
  · simp only [Bool.and_eq_true, decide_eq_true_eq] at h; exact List.length_eq_zero_iff.1 h.2
  split at h
  · simp only [Bool.and_eq_true, decide_eq_true_eq] at h; exact List.length_eq_zero_iff.1 h.2
  split at h
  · simp only [Bool.and_eq_true, decide_eq_true_eq] at h; exact List.length_eq_zero_iff.1 h.2
  try rw [if_neg hk] at h
  simp only [Bool.and_eq_true, decide_eq_true_eq] at h
  exact List.length_eq_zero_iff.1 h.2
theorem ofE_good {E : TEnv} {e : PE} (h : (ofE E e).2 = 0) : ¬ (e.kind < 0 ∨ 7 < e.kind) ∧ formT e = true ∧ (ofEs E e.args).2 = 0 ∧ (ruleE E e (ofEs E e.args).1).2 = 0 ∧ (e.kind = 6 → ofOr E e.or = 0) := by
  rw [ofE_eq] at h
  by_cases h1 : e.kind < 0 ∨ 7 < e.kind
  · rw [if_pos h1] at h; exact absurd (show (2 : Int) = 0 from h) (by decide)
  rw [if_neg h1] at h
  by_cases h2 : formT e = false
  · rw [if_pos h2] at h; exact absurd (show (5 : Int) = 0 from h) (by decide)
  rw [if_neg h2] at h
  by_cases h3 : (ofEs E e.args).2 = 0
  rotate_left
  · rw [if_pos h3] at h; exact absurd h h3
  rw [if_neg (fun q => q h3)] at h
  by_cases h4 : (ruleE E e (ofEs E e.args).1).2 = 0
  rotate_left
  · rw [if_pos (.inl h4)] at h; exact absurd h h4
  refine ⟨h1, by simpa using h2, h3, h4, fun h6 => ?_⟩
  rw [if_neg (by rintro (q | q); exact q h4; exact q h6)] at h
  by_cases h5 : ofOr E e.or = 0
  · exact h5
  · rw [if_pos h5] at h; exact absurd h h5
theorem ofE_parts {E : TEnv} {e x : PE} (h : (ofE E e).2 = 0) (hx : x ∈ e.args ++ e.or) : (ofE E x).2 = 0 := by
  obtain ⟨_, h2, h3, _, h5⟩ := ofE_good h
  rcases List.mem_append.1 hx with hx | hx
  · exact ofEs_parts h3 x hx
  · by_cases h6 : e.kind = 6
    · exact ofOr_parts (h5 h6) x hx
    · rw [formT_or h2 h6] at hx; simp at hx
def TEnv.le (E F : TEnv) : Prop := (∀ s, E.vars s = 1 ∨ E.vars s = 2 → F.vars s = E.vars s) ∧ ∀ s k, E.stores s = some k → F.stores s = some k
end Sim

