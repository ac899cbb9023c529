import Derived.Test.YtjapaghhgpaldaaGreatDoorPart6
import Derived.Test.YtjapaghhgpaldaaGreatDoorPart4
/- Lemmas and walks for the claims of this seat (own work): Rn2 Gr1 Rp0 Gt0 Gt1. -/
namespace Sim
theorem normN_both (a b : List ByteArray) : normN (normN a ++ normN b) = normN (a ++ b) := normN_eq fun x => by simp only [List.mem_append, mem_normN]
end Sim
namespace Go.Vc
open Sim
theorem RdEfV.parts {w0 : World} {sh : Shared} {p : P6} {e : Ef} (h : RdEfV w0 sh (efV p e) e) : RdSl w0 sh encY 1 (.slice p.1.1 e.reads.length p.1.2) e.reads ∧ RdSl w0 sh encY 1 (.slice p.2.1.1 e.writes.length p.2.1.2) e.writes ∧ RdSl w0 sh encY 1 (.slice p.2.2.1 e.hosts.length p.2.2.2) e.hosts := by
  obtain ⟨_, e1, v1, v2, v3, rfl, h1, h2, h3⟩ := h
  simp at e1
  obtain ⟨rfl, rfl, rfl⟩ := e1
  exact ⟨h1, h2, h3⟩
end Go.Vc
namespace Go.Proofs.YtjapaghhgpaldaaGreatDoor
open Go.Vc Sim
theorem names47_own (w0 : World) (a : Option Addr) (n c : Nat) (cs : List Value) (l : List ByteArray) (hn : l.length = n) (hcs : cs = l.flatMap encY) (hb : l.length ≤ 100000) :
    Vc.Fn PP w0 [] 35 [.slice a n c] [SlA 9 1 a n c cs] (fun r Γ => ∃ a' c', r = .slice a' (normN l).length c' ∧ Γ = [strR w0 a' c' (normN l), strR w0 a c l]) := by
  subst hn; subst hcs
  refine Fn.pre (fun _ : Unit => strR w0 a c l) (fun _ => True) en35 (fun g hg => ⟨(), trivial, Rds.ofSl (encE := encY) (fun _ _ => rfl) rfl g hg⟩) fun _ _ => ?_
  refine (Fn.lendR (φ := fun bl => RdSl w0 bl encY 1 (.slice a l.length c) l) en35 (fun sh1 bl h1 h2 h3 => names47_spec w0 sh1 _ l (h3.mono h2) hb)).mono ?_
  rintro v Γ ⟨_, ⟨a', c', rfl, rfl⟩, rfl⟩
  exact ⟨a', c', rfl, rfl⟩
set_option maxHeartbeats 4000000 in
theorem rjoin_spec (w0 : World) (sh : Shared) (p q : P6) (a b : Ef) (ha : RdEfV w0 sh (efV p a) a) (hb : RdEfV w0 sh (efV q b) b) (sa : a.sm 30000) (sb : b.sm 30000) :
    Vc.Fn PP w0 sh 19 [efV p a, efV q b] [] (fun v Γ => ∃ r : P6, v = efV r (joinE a b) ∧ Γ = [rdV w0 (efV r (joinE a b)) (joinE a b)]) := by
  have k1 := right_spec w0 sh _ a ha (sa.mono (by omega))
  have k2 := right_spec w0 sh _ b hb (sb.mono (by omega))
  have s1 := rightE_sm sa
  have s2 := rightE_sm sb
  have c1 := bndC_range a.calls
  have c2 := bndC_range b.calls
  have hJ : joinE a b = ⟨normN ((rightE a).reads ++ (rightE b).reads), normN ((rightE a).writes ++ (rightE b).writes), normN ((rightE a).hosts ++ (rightE b).hosts), if (rightE a).calls < 4611686018427387904 - (rightE b).calls then (rightE a).calls + (rightE b).calls else 4611686018427387904⟩ := by
    show Ef.mk _ _ _ (sumC a.calls b.calls) = _
    unfold rightE
    simp only [normN_both]
    congr 1
    unfold sumC mostC at *
    split <;> split <;> omega
  have c1 : 0 ≤ (rightE a).calls ∧ (rightE a).calls ≤ 4611686018427387904 := c1
  have c2 : 0 ≤ (rightE b).calls ∧ (rightE b).calls ≤ 4611686018427387904 := c2
  rw [hJ]
  clear hJ
  generalize rightE a = A at *
  generalize rightE b = B at *
  refine fn_of_run en19 fn19 rfl rfl rfl ?_
  repeat (first | refine zck ?_ | refine zcl ?_ | refine zcm ?_ | refine zcn ?_)
  first | refine zcp (by kernel_rfl) ?_ | refine zcq PP_mixed (by kernel_rfl) (by kernel_rfl) ?_
  repeat' (refine zap rfl ?_; first | refine zaq (cs := [_, _, _, _]) rfl (fun nb => ?_) | refine zar (fun nb => ?_))
  all_goals refine zch ?_
  all_goals repeat (first | refine zck ?_ | refine zcl ?_ | refine zcm ?_ | refine zcn ?_)
  refine run_share [0] rfl ?_
  refine run_share [0] rfl ?_
  obtain ⟨b4, hb4⟩ : ∃ b, b = nb := ⟨_, rfl⟩
  subst hb4
  repeat (first | refine zck ?_ | refine zcl ?_ | refine zcm ?_ | refine zcn ?_)
  first | refine zcp (by kernel_rfl) ?_ | refine zcq PP_mixed (by kernel_rfl) (by kernel_rfl) ?_
  repeat' (refine zap rfl ?_; first | refine zar (fun t5 => ?_) | refine zaa 0 rfl rfl rfl ?_ | refine zaa 1 rfl rfl rfl ?_ | (refine zai [] k1 rfl rfl rfl (fun p hp => by simp [hp]) ?_; rintro v Γ ⟨r1, rfl, rfl⟩) | (refine zai [] k2 rfl rfl rfl (fun p hp => by simp [hp]) ?_; rintro v Γ ⟨r2, rfl, rfl⟩) | refine zae 3 rfl rfl rfl rfl rfl rfl rfl ?_ | refine zae 4 rfl rfl rfl rfl rfl rfl rfl ?_)
  all_goals refine zch ?_
  all_goals repeat (first | refine zck ?_ | refine zcl ?_ | refine zcm ?_ | refine zcn ?_)
  rename_i t5a
  refine run_share [3] rfl ?_
  refine run_share [3] rfl ?_
  refine run_shareB [1] rfl (fun bA hA => ?_)
  refine run_shareB [0] rfl (fun bB hB => ?_)
  obtain ⟨A1, A2, A3⟩ := hA.parts
  obtain ⟨B1, B2, B3⟩ := hB.parts
  have hsA : ∀ (sh0 : Shared) (p : Nat × Obj), p ∈ bA → p ∈ (sh0 ++ bA) ++ bB := fun sh0 p hp => List.mem_append_left _ (List.mem_append_right _ hp)
  have hsB : ∀ (sh0 : Shared) (p : Nat × Obj), p ∈ bB → p ∈ (sh0 ++ bA) ++ bB := fun sh0 p hp => List.mem_append_right _ hp
  have hone : ∀ m : List ByteArray, allOne (m.flatMap encY) = true := fun m => by rw [← unB_map m, ← strsV_y]; exact strsV_one _
  obtain ⟨S1, S2, S3⟩ := s1
  obtain ⟨U1, U2, U3⟩ := s2
  obtain ⟨C, hC⟩ : ∃ C, (if A.calls < 4611686018427387904 - B.calls then A.calls + B.calls else 4611686018427387904) = C := ⟨_, rfl⟩
  rw [hC]
  repeat (first | refine zck ?_ | refine zcl ?_ | refine zcm ?_ | refine zcn ?_)
  first | refine zcp (by kernel_rfl) ?_ | refine zcq PP_mixed (by kernel_rfl) (by kernel_rfl) ?_
  repeat' (refine zap rfl ?_; first | refine zan rfl ?_)
  all_goals refine zch ?_
  all_goals repeat (first | refine zck ?_ | refine zcl ?_ | refine zcm ?_ | refine zcn ?_)
  repeat (first | refine zck ?_ | refine zcl ?_ | refine zcm ?_ | refine zcn ?_)
  first | refine zcp (by kernel_rfl) ?_ | refine zcq PP_mixed (by kernel_rfl) (by kernel_rfl) ?_
  repeat' (refine zap rfl ?_; first | refine zaa 0 rfl rfl rfl ?_ | refine zaa 1 rfl rfl rfl ?_ | refine zao rfl ?_ | refine zav rfl rfl (by omega) ?_ | refine zbq rfl rfl ?_)
  all_goals refine zch ?_
  all_goals repeat (refine zck ?_)
  refine run_bind_eq (l' := [(4, .pointer (some ⟨b4, 0, none⟩)), (5, .pointer (some ⟨t5a, 0, none⟩)), (6, .pointer (some ⟨t5, 0, none⟩)), (7, .int .i64 C)]) (Γ' := [pt b4 (.cells (List.toArray (efL p0 zeroE)) 45 (0, 0))]) ?_ ?_
  · refine run_cond rfl (fun hX => ?_) (fun hX => ?_)
    · rw [if_pos hX] at hC
      subst hC
      repeat' (first | refine zcp (by kernel_rfl) ?_ | (refine zap rfl ?_; first | refine zan rfl ?_ | refine zaa 0 rfl rfl rfl ?_ | refine zaa 1 rfl rfl rfl ?_ | refine zao rfl ?_ | refine zau rfl rfl (by omega) ?_) | refine zch ?_)
      exact cut_end ⟨rfl, ⟨rfl, rfl, rfl, rfl, trivial⟩, rfl⟩
    · rw [if_neg hX] at hC
      subst hC
      repeat' (first | refine zcm ?_ | (refine zap rfl ?_; first | refine zan rfl ?_) | refine zch ?_)
      exact cut_end ⟨rfl, ⟨rfl, rfl, rfl, rfl, trivial⟩, rfl⟩
  · intro junk
    repeat' (first | refine zck ?_ | refine zcq PP_mixed (by kernel_rfl) (by kernel_rfl) ?_ | (refine zap rfl ?_; first | refine reg_buildSlice rfl rfl rfl rfl rfl rfl (fun nb => ?_) | refine zae 6 rfl rfl rfl rfl rfl rfl rfl ?_ | refine zan rfl ?_ | refine zaa 0 rfl rfl rfl ?_ | refine zaa 1 rfl rfl rfl ?_ | (refine reg_own 1 rfl rfl (len := 0) (cap := 0) (sz := 1) ⟨rfl, Nat.le_refl _, Nat.le_refl _⟩ rfl ?_; refine reg_append_rdE 1 rfl rfl (A1.mono (hsA _)) (by decide) (hone _) rfl rfl (by omega) (fun _ _ => rfl) (fun a3 c3 => ?_)) | refine reg_append_rdE 1 rfl rfl (B1.mono (hsB _)) (by decide) (hone _) rfl rfl (by omega) (fun _ _ => rfl) (fun a4 c4 => ?_) | (refine zai [1] (names47_own w0 _ _ _ _ (A.reads ++ B.reads) (by rw [List.length_append, Nat.zero_add]) (by rw [List.flatMap_append]; rfl) (by rw [List.length_append]; omega)) rfl rfl rfl sub_nil ?_; rintro v Γ ⟨x1, y1, rfl, rfl⟩) | (refine reg_own 3 rfl rfl (len := 0) (cap := 0) (sz := 1) ⟨rfl, Nat.le_refl _, Nat.le_refl _⟩ rfl ?_; refine reg_append_rdE 3 rfl rfl (A2.mono (hsA _)) (by decide) (hone _) rfl rfl (by omega) (fun _ _ => rfl) (fun a3 c3 => ?_)) | refine reg_append_rdE 3 rfl rfl (B2.mono (hsB _)) (by decide) (hone _) rfl rfl (by omega) (fun _ _ => rfl) (fun a4 c4 => ?_) | (refine zai [3] (names47_own w0 _ _ _ _ (A.writes ++ B.writes) (by rw [List.length_append, Nat.zero_add]) (by rw [List.flatMap_append]; rfl) (by rw [List.length_append]; omega)) rfl rfl rfl sub_nil ?_; rintro v Γ ⟨x2, y2, rfl, rfl⟩) | (refine reg_own 5 rfl rfl (len := 0) (cap := 0) (sz := 1) ⟨rfl, Nat.le_refl _, Nat.le_refl _⟩ rfl ?_; refine reg_append_rdE 5 rfl rfl (A3.mono (hsA _)) (by decide) (hone _) rfl rfl (by omega) (fun _ _ => rfl) (fun a3 c3 => ?_)) | refine reg_append_rdE 5 rfl rfl (B3.mono (hsB _)) (by decide) (hone _) rfl rfl (by omega) (fun _ _ => rfl) (fun a4 c4 => ?_) | (refine zai [5] (names47_own w0 _ _ _ _ (A.hosts ++ B.hosts) (by rw [List.length_append, Nat.zero_add]) (by rw [List.flatMap_append]; rfl) (by rw [List.length_append]; omega)) rfl rfl rfl sub_nil ?_; rintro v Γ ⟨x3, y3, rfl, rfl⟩) | refine zao rfl ?_ | refine zcb rfl ?_) | refine zch ?_)
    refine run_joinR [4, 2] (χ := fun bl => RdSl w0 bl encY 1 (.slice x1 (normN (A.reads ++ B.reads)).length y1) (normN (A.reads ++ B.reads)) ∧ RdSl w0 bl encY 1 (.slice x2 (normN (A.writes ++ B.writes)).length y2) (normN (A.writes ++ B.writes))) rfl
      (fun b1 b2 h1 h2 => ⟨h1.mono fun p hp => List.mem_append_left _ hp, h2.mono fun p hp => List.mem_append_right _ hp⟩) ?_
    refine run_joinR [0, 0] (χ := fun bl => RdEfV w0 bl (efV ((x1, y1), (x2, y2), (x3, y3)) ⟨normN (A.reads ++ B.reads), normN (A.writes ++ B.writes), normN (A.hosts ++ B.hosts), C⟩) ⟨normN (A.reads ++ B.reads), normN (A.writes ++ B.writes), normN (A.hosts ++ B.hosts), C⟩) rfl
      (fun b1 b2 h1 h2 => ⟨_, rfl, _, _, _, rfl, h1.1.mono fun p hp => List.mem_append_left _ hp, h1.2.mono fun p hp => List.mem_append_left _ hp, h2.mono fun p hp => List.mem_append_right _ hp⟩) ?_
    exact run_ret (leaves_nil (ends_take [0] rfl (ends_one rfl (resOk_pt 4 rfl rfl rfl) ⟨rfl, ((x1, y1), (x2, y2), (x3, y3)), rfl, rfl⟩)))
end Go.Proofs.YtjapaghhgpaldaaGreatDoor

namespace Sim
open Go.Proofs.YtjapaghhgpaldaaGreatDoor in
theorem meetS_touch (ws : List ByteArray) (e : Ef) : meetS ws (e.reads ++ e.writes) = touchE ws e := by
  unfold meetS touchE
  congr 1
  funext s
  exact List.any_append
end Sim
namespace Go.Proofs.YtjapaghhgpaldaaGreatDoor
open Go.Vc Sim
theorem meet_own (w0 : World) (sh : Shared) (va : Value) (x : Option Addr) (n c : Nat) (cs : List Value) (a l : List ByteArray) (B : Bool) (ha : RdSl w0 sh encY 1 va a) (hn : l.length = n) (hcs : cs = l.flatMap encY) (hB : meetS a l = B) (hna : a.length ≤ 100000) (hb : l.length ≤ 100000) :
    FnE PP w0 sh 11 [va, .slice x n c] [SlA 9 1 x n c cs] (.bool B) [strR w0 x c l] := by
  subst hn; subst hcs; subst hB
  refine Fn.pre (fun _ : Unit => strR w0 x c l) (fun _ => True) en11 (fun g hg => ⟨(), trivial, Rds.ofSl (encE := encY) (fun _ _ => rfl) rfl g hg⟩) fun _ _ => ?_
  refine (Fn.lendR (φ := fun bl => RdSl w0 bl encY 1 (.slice x l.length c) l) en11 (fun sh1 bl h1 h2 h3 => meet_spec w0 sh1 va _ a l (ha.mono h1) (h3.mono h2) (by omega) (by omega))).mono ?_
  rintro v Γ ⟨_, ⟨rfl, rfl⟩, rfl⟩
  exact ⟨rfl, rfl⟩
set_option maxHeartbeats 8000000 in
theorem joinlaw_spec (w0 : World) (hk : KwOk w0) (p q : P6) (a b : Ef) (n : Int) (ha : RdEfV w0 [] (efV p a) a) (hb : RdEfV w0 [] (efV q b) b)
    (sa : a.sm 1125899906842624) (sb : b.sm 1125899906842624) (hn : n ≤ 9223372036854775807) :
    FnE PP w0 [] 6 [efV p a, efV q b, .int .i64 n] [] (.bool true) [] := by
  have haw := awake_spec w0 hk
  have hg1 := great_spec w0 [] _ a ha sa
  have hg2 := great_spec w0 [] _ b hb sb
  refine fn_of_run en6 fn6 rfl rfl rfl ?_
  repeat (first | refine zck ?_ | refine zcl ?_ | refine zcm ?_ | refine zcn ?_)
  first | refine zcp (by kernel_rfl) ?_ | refine zcq PP_mixed (by kernel_rfl) (by kernel_rfl) ?_
  repeat' (refine zap rfl ?_; first | refine zan rfl ?_ | refine zaq (cs := [_, _, _, _]) rfl (fun nb => ?_))
  all_goals refine zch ?_
  all_goals repeat (first | refine zck ?_ | refine zcl ?_ | refine zcm ?_ | refine zcn ?_)
  refine run_share [0] rfl ?_
  refine run_share [0] rfl ?_
  repeat (first | refine zck ?_ | refine zcl ?_ | refine zcm ?_ | refine zcn ?_)
  first | refine zcp (by kernel_rfl) ?_ | refine zcq PP_mixed (by kernel_rfl) (by kernel_rfl) ?_
  repeat' (refine zap rfl ?_; first | refine zaj rfl ?_ | refine zak rfl ?_ | refine zan rfl ?_ | refine zaa 0 rfl rfl rfl ?_ | refine zaa 1 rfl rfl rfl ?_ | (refine zai [] hg1 rfl rfl rfl sub_nil ?_; rintro v Γ ⟨rfl, B1, rfl, hB1⟩; cases B1) | (refine zai [] hg2 rfl rfl rfl sub_nil ?_; rintro v Γ ⟨rfl, B2, rfl, hB2⟩; cases B2) | refine zbu rfl ?_ | refine zbv rfl ?_)
  all_goals refine zch ?_
  all_goals repeat (first | refine zck ?_ | refine zcl ?_ | refine zcm ?_ | refine zcn ?_)
  rotate_left 1
  · repeat' (first | refine zck ?_ | refine zcp (by kernel_rfl) ?_ | (refine zap rfl ?_; first | refine zan rfl ?_ | refine zah [] haw rfl rfl rfl sub_nil rfl ?_) | refine zch ?_ | refine zci rfl ?_)
    exact ret_tmp1 rfl ⟨rfl, rfl⟩
  · repeat' (first | refine zck ?_ | refine zcp (by kernel_rfl) ?_ | (refine zap rfl ?_; first | refine zan rfl ?_ | refine zah [] haw rfl rfl rfl sub_nil rfl ?_) | refine zch ?_ | refine zci rfl ?_)
    exact ret_tmp1 rfl ⟨rfl, rfl⟩
  · have za := hB1 rfl
    have zb := hB2 rfl
    clear hB1 hB2 hg1 hg2 sa sb
    refine zcj rfl ?_
    have kab := join_sp w0 [] p q a b ha hb (za.mono (by omega)) (zb.mono (by omega))
    have krab := rjoin_spec w0 [] p q a b ha hb (za.mono (by omega)) (zb.mono (by omega))
    have sab : (joinE a b).sm 120 := joinE_sm za zb
    have o1 := fun u v => same_oo w0 [] u v (joinE a b) (joinE a b) (sab.mono (by omega)) (sab.mono (by omega))
    rw [sameE_self] at o1
    have kt := times_sp w0 [] p a n ha (za.mono (by omega)) hn
    have krt := rtimes_spec w0 [] p a n ha (za.mono (by omega)) hn
    have st : (timesE a n).sm 60 := timesE_sm n za
    have o2 := fun u v => same_oo w0 [] u v (timesE a n) (timesE a n) (st.mono (by omega)) (st.mono (by omega))
    rw [sameE_self] at o2
    repeat (first | refine zck ?_ | refine zcl ?_ | refine zcm ?_ | refine zcn ?_)
    first | refine zcp (by kernel_rfl) ?_ | refine zcq PP_mixed (by kernel_rfl) (by kernel_rfl) ?_
    repeat' (refine zap rfl ?_; first | refine zaj rfl ?_ | refine zan rfl ?_ | refine zaa 0 rfl rfl rfl ?_ | refine zaa 1 rfl rfl rfl ?_ | refine zah [] (ofE_spec w0 _ _) rfl rfl rfl sub_nil rfl ?_ | (refine zai [] kab rfl rfl rfl sub_nil ?_; rintro v Γ ⟨u1, rfl, rfl⟩) | (refine zai [] krab rfl rfl rfl sub_nil ?_; rintro v Γ ⟨u2, rfl, rfl⟩) | refine zah [1, 0] (o1 _ _) rfl rfl rfl sub_nil rfl ?_ | (refine zai [] kt rfl rfl rfl sub_nil ?_; rintro v Γ ⟨u3, rfl, rfl⟩) | (refine zai [] krt rfl rfl rfl sub_nil ?_; rintro v Γ ⟨u4, rfl, rfl⟩) | refine zah [1, 0] (o2 _ _) rfl rfl rfl sub_nil rfl ?_ | refine zbx rfl ?_ | refine zbv rfl ?_)
    all_goals refine zch ?_
    all_goals repeat (first | refine zck ?_ | refine zcl ?_ | refine zcm ?_ | refine zcn ?_)
    refine zcj rfl ?_
    refine run_take [] rfl ?_
    obtain ⟨a1, a2, a3⟩ := ha.parts
    obtain ⟨b1, b2, b3⟩ := hb.parts
    obtain ⟨za1, za2, za3⟩ := id za
    obtain ⟨zb1, zb2, zb3⟩ := id zb
    have hone : ∀ m : List ByteArray, allOne (m.flatMap encY) = true := fun m => by rw [← unB_map m, ← strsV_y]; exact strsV_one _
    have kp := pure_spec w0 [] _ a ha
    have kd := disjoint_spec w0 [] _ _ a b ha hb (za.mono (by omega)) (zb.mono (by omega))
    have hM1 := meetS_touch a.writes b
    have hM2 := meetS_touch b.writes a
    have hP : decide (((a.reads.length : Nat) : Int) + ((a.writes.length : Nat) : Int) = 0) = pureE a := by
      unfold pureE
      rw [← Bool.decide_and]
      exact dec_eq (by omega)
    unfold disjE at kd
    generalize touchE a.writes b = M1 at *
    generalize touchE b.writes a = M2 at *
    generalize pureE a = P at *
    cases M1
    all_goals cases M2
    all_goals cases P
    all_goals
      repeat' (first | refine zck ?_ | refine zcq PP_mixed (by kernel_rfl) (by kernel_rfl) ?_ | refine zcm ?_ | (refine zap rfl ?_; first | (refine zbo rfl rfl ?_; rw [hP]) | refine zbb rfl rfl ?_ | refine reg_buildSlice rfl rfl rfl rfl rfl rfl (fun nb => ?_) | refine zaj rfl ?_ | refine zak rfl ?_ | refine zan rfl ?_ | refine zan rfl ?_ | refine zaa 0 rfl rfl rfl ?_ | refine zaa 1 rfl rfl rfl ?_ | refine zce rfl ?_ | (refine reg_own 0 rfl rfl (len := 0) (cap := 0) (sz := 1) ⟨rfl, Nat.le_refl _, Nat.le_refl _⟩ rfl ?_; refine reg_append_rdE 0 rfl rfl (b1.mono sub_nil) (by decide) (hone _) rfl rfl (by omega) (fun _ _ => rfl) (fun a3 c3 => ?_)) | refine reg_append_rdE 0 rfl rfl (b2.mono sub_nil) (by decide) (hone _) rfl rfl (by omega) (fun _ _ => rfl) (fun a4 c4 => ?_) | refine zah [0] (meet_own w0 [] _ _ _ _ _ a.writes (b.reads ++ b.writes) _ a2 (by rw [List.length_append, Nat.zero_add]) (by rw [List.flatMap_append]; rfl) hM1 (by omega) (by rw [List.length_append]; omega)) rfl rfl rfl sub_nil rfl ?_ | (refine reg_own 1 rfl rfl (len := 0) (cap := 0) (sz := 1) ⟨rfl, Nat.le_refl _, Nat.le_refl _⟩ rfl ?_; refine reg_append_rdE 1 rfl rfl (a1.mono sub_nil) (by decide) (hone _) rfl rfl (by omega) (fun _ _ => rfl) (fun a3 c3 => ?_)) | refine reg_append_rdE 1 rfl rfl (a2.mono sub_nil) (by decide) (hone _) rfl rfl (by omega) (fun _ _ => rfl) (fun a4 c4 => ?_) | refine zah [1] (meet_own w0 [] _ _ _ _ _ b.writes (a.reads ++ a.writes) _ b2 (by rw [List.length_append, Nat.zero_add]) (by rw [List.flatMap_append]; rfl) hM2 (by omega) (by rw [List.length_append]; omega)) rfl rfl rfl sub_nil rfl ?_ | refine zah [] kp rfl rfl rfl sub_nil rfl ?_ | refine zah [] kd rfl rfl rfl sub_nil rfl ?_ | refine zah [] haw rfl rfl rfl sub_nil rfl ?_ | refine zao rfl ?_ | refine zau rfl rfl (by omega) ?_ | refine zbx rfl ?_ | refine zbu rfl ?_ | refine zbv rfl ?_) | refine zch ?_)
    all_goals refine run_take [] rfl ?_
    all_goals exact ret_tmp1 rfl ⟨rfl, rfl⟩
end Go.Proofs.YtjapaghhgpaldaaGreatDoor

namespace Sim
open Go Go.Vc
def Ef.nm (e : Ef) : Prop := joinE e zeroE = e
theorem joinE_nm (a b : Ef) : (joinE a b).nm := by
  unfold Ef.nm joinE zeroE
  have h := sumC_range a.calls b.calls
  simp only [normN_nil, sumC_zero]
  rw [normN_id (normN_str _), normN_id (normN_str _), normN_id (normN_str _), bndC_id h.1 h.2]
theorem zeroE_nm : zeroE.nm := by unfold Ef.nm; rfl
theorem zero_joinE {e : Ef} (h : e.nm) : joinE zeroE e = e := by rw [joinE_comm]; exact h
theorem timesE_nm (e : Ef) (n : Int) : (timesE e n).nm := by
  unfold timesE
  split
  · exact zeroE_nm
  · rename_i hn
    have h := sumC_range e.calls 0
    have hc : (joinE e zeroE).calls = sumC e.calls 0 := rfl
    have hr : 0 ≤ (if mostC / n < (joinE e zeroE).calls then mostC else (joinE e zeroE).calls * n) ∧ (if mostC / n < (joinE e zeroE).calls then mostC else (joinE e zeroE).calls * n) ≤ mostC := by
      rw [hc]
      split
      · unfold mostC; omega
      · rename_i h2
        have h3 : sumC e.calls 0 * n ≤ mostC / n * n := Int.mul_le_mul_of_nonneg_right (by omega) (by omega)
        have h4 : mostC / n * n ≤ mostC := Int.ediv_mul_le _ (by omega)
        exact ⟨Int.mul_nonneg h.1 (by omega), by omega⟩
    have h1 := joinE_nm e zeroE
    unfold Ef.nm at h1 ⊢
    obtain ⟨c, hc2⟩ : ∃ c, c = (if mostC / n < (joinE e zeroE).calls then mostC else (joinE e zeroE).calls * n) := ⟨_, rfl⟩
    rw [← hc2] at hr ⊢
    unfold joinE zeroE at h1 ⊢
    simp only [Ef.mk.injEq, sumC_zero] at h1 ⊢
    exact ⟨h1.1, h1.2.1, h1.2.2.1, bndC_id hr.1 hr.2⟩
theorem stmtEs_nm (ks : List (ByteArray × ByteArray)) : ∀ (l : List PS) (out : Ef) (w : Int), out.nm → (stmtEs ks l out w).1.nm
  | [], out, w, h => by rw [stmtEs]; exact h
  | e :: l, out, w, h => by rw [stmtEs]; exact stmtEs_nm ks l _ _ (joinE_nm _ _)
theorem stmtEs_join (ks : List (ByteArray × ByteArray)) : ∀ (l : List PS) (a b : Ef) (w : Int), stmtEs ks l (joinE a b) w = (joinE a (stmtEs ks l b w).1, (stmtEs ks l b w).2)
  | [], a, b, w => by rw [stmtEs, stmtEs]
  | e :: l, a, b, w => by rw [stmtEs, stmtEs, joinE_assoc, stmtEs_join ks l a]
theorem stmtEs_app (ks : List (ByteArray × ByteArray)) : ∀ (l l' : List PS) (a : Ef) (w : Int), stmtEs ks (l ++ l') a w = stmtEs ks l' (stmtEs ks l a w).1 (stmtEs ks l a w).2
  | [], l', a, w => by rw [List.nil_append, stmtEs]
  | e :: l, l', a, w => by rw [List.cons_append, stmtEs, stmtEs, stmtEs_app ks l l']
theorem stmtEs_twice {ks : List (ByteArray × ByteArray)} {l : List PS} (h : (stmtEs ks l zeroE 0).2 = 0) : stmtEs ks (l ++ l) zeroE 0 = (joinE (stmtEs ks l zeroE 0).1 (stmtEs ks l zeroE 0).1, 0) := by
  have hn := stmtEs_nm ks l zeroE 0 zeroE_nm
  have h1 := stmtEs_join ks l (stmtEs ks l zeroE 0).1 zeroE 0
  rw [hn] at h1
  rw [stmtEs_app, h, h1, h]
theorem wrongSs_app : ∀ (l l' : List PS) (d : Int), wrongSs (l ++ l') d = if wrongSs l d ≠ 0 then wrongSs l d else wrongSs l' d
  | [], l', d => by rw [List.nil_append, wrongSs, if_neg (by simp)]
  | e :: l, l', d => by
    rw [List.cons_append, wrongSs, wrongSs, wrongSs_app l l' d]
    by_cases h : wrongS e d = 0
    · simp [h]
    · simp [h]
theorem wrongS_mk (k : Int) (n : ByteArray) (a : Int) (b : PE) (xs ys : List PS) (d : Int) : wrongS (.mk k n a b xs ys) d = if wrongS0 (.mk k n a b xs ys) d ≠ 0 then wrongS0 (.mk k n a b xs ys) d else if wrongSs xs (d + 1) ≠ 0 then wrongSs xs (d + 1) else wrongSs ys (d + 1) := by rw [wrongS]
theorem wrongS0_deep {s : PS} {d : Int} (h : wrongS0 s d = 0) : wrongS0 s (d + 1) = 0 ∨ wrongS0 s (d + 1) = 18 := by
  by_cases hd : 12 < d + 1
  · right; unfold wrongS0; rw [if_pos hd]
  · left; unfold wrongS0 at h ⊢; rw [if_neg (by omega)] at h; rw [if_neg hd]; exact h
mutual
theorem wrongS_deep : ∀ {s : PS} {d : Int}, wrongS s d = 0 → wrongS s (d + 1) = 0 ∨ wrongS s (d + 1) = 18
  | .mk k n a b xs ys, d, h => by
    rw [wrongS_mk] at h ⊢
    by_cases h0 : wrongS0 (.mk k n a b xs ys) d = 0
    · rw [if_neg (by omega)] at h
      by_cases h1 : wrongSs xs (d + 1) = 0
      · rw [if_neg (by omega)] at h
        have g0 := wrongS0_deep h0
        have g1 := wrongSs_deep h1
        have g2 := wrongSs_deep h
        split
        · omega
        · split <;> omega
      · rw [if_pos h1] at h; exact absurd h h1
    · rw [if_pos h0] at h; exact absurd h h0
theorem wrongSs_deep : ∀ {l : List PS} {d : Int}, wrongSs l d = 0 → wrongSs l (d + 1) = 0 ∨ wrongSs l (d + 1) = 18
  | [], d, _ => by left; rw [wrongSs]
  | e :: l, d, h => by
    rw [wrongSs] at h ⊢
    by_cases h0 : wrongS e d = 0
    · rw [if_neg (by omega)] at h
      have g0 := wrongS_deep h0
      have g1 := wrongSs_deep h
      split <;> omega
    · rw [if_pos h0] at h; exact absurd h h0
end
def repS (k : Int) (body : List PS) : PS := .mk 4 ⟨#[]⟩ k (.mk 0 0 ⟨#[]⟩ ⟨#[]⟩ [] []) body []
theorem repS_wrong {k : Int} {body : List PS} (h0 : 0 ≤ k) (h1 : k ≤ 64) (h : wrongSs body 1 = 0) : wrongSs [repS k body] 1 = 0 ∨ wrongSs [repS k body] 1 = 18 := by
  have e0 : wrongS0 (repS k body) 1 = 0 := by
    have e1 : formS (repS k body) = true := by unfold repS; rw [formS_N]; rfl
    unfold wrongS0
    rw [if_neg (by omega), if_neg (show ¬ ((repS k body).kind < 0 ∨ 6 < (repS k body).kind) from by show ¬ ((4 : Int) < 0 ∨ 6 < (4 : Int)); omega), if_neg (by rw [e1]; exact Bool.noConfusion)]
    show (if (hasNm 4 && !nameB ⟨#[]⟩) = true then (16 : Int) else if (decide (k < 0) || (decide ((4 : Int) = 4) && decide (64 < k))) = true then 3 else if hasEx 4 = true then wrongE _ 1 else 0) = 0
    rw [if_neg (by simp [hasNm]), if_neg (by simp; omega), if_neg (by simp [hasEx])]
  have hg := wrongSs_deep h
  have e2 : wrongS (repS k body) 1 = wrongSs body (1 + 1) := by
    have e3 := wrongS_mk 4 ⟨#[]⟩ k (.mk 0 0 ⟨#[]⟩ ⟨#[]⟩ [] []) body [] 1
    rw [show PS.mk 4 ⟨#[]⟩ k (.mk 0 0 ⟨#[]⟩ ⟨#[]⟩ [] []) body [] = repS k body from rfl, e0, if_neg (by omega)] at e3
    rw [e3]
    show (if wrongSs body (1 + 1) ≠ 0 then wrongSs body (1 + 1) else wrongSs [] (1 + 1)) = _
    by_cases h2 : wrongSs body (1 + 1) = 0
    · rw [if_neg (by omega), h2, wrongSs]
    · rw [if_pos h2]
  rw [wrongSs, e2, wrongSs]
  split <;> omega
theorem repS_eff (ks : List (ByteArray × ByteArray)) (k : Int) (body : List PS) (h : (stmtEs ks body zeroE 0).2 = 0) : stmtEs ks [repS k body] zeroE 0 = (timesE (stmtEs ks body zeroE 0).1 k, 0) := by
  have e1 : exprE ks (.mk 0 0 ⟨#[]⟩ ⟨#[]⟩ [] []) 0 = (zeroE, 0) := by
    rw [exprE, exprEs, exprEs]; rfl
  rw [stmtEs, stmtEs, repS, stmtE, e1]
  dsimp only
  rw [h, stmtEs]
  dsimp only
  unfold partE
  rw [if_pos rfl, zero_joinE (timesE_nm _ _)]
def PO.put (o : PO) (b : List PS) : PO := ⟨o.name, o.params, b⟩
theorem wrongO_put {met : List ByteArray} {o : PO} {b : List PS} (h : wrongO met o = 0) : wrongO met (o.put b) = wrongSs b 1 := by
  unfold wrongO at h ⊢
  unfold PO.put
  dsimp only
  split at h
  · rename_i h1; exact absurd h h1
  · rename_i h1
    rw [if_neg h1]
    split at h
    · omega
    · rename_i h2
      rw [if_neg h2]
      split at h
      · rename_i h3; exact absurd h h3
      · rename_i h3
        rw [if_neg h3]
theorem check_put {p : PP'} {o : PO} {l : List PO} {b : List PS} (hp : p.opers = o :: l) (h : checkP p = 0) : checkP ⟨p.stores, o.put b :: l⟩ = wrongSs b 1 := by
  obtain ⟨st, ops⟩ := p
  dsimp only at hp
  subst hp
  obtain ⟨z1, z2, z3, z4⟩ := checkP_zero h
  dsimp only at z1 z2 z3 z4
  rw [wrongOs] at z4
  have z5 : wrongO [] o = 0 := by
    by_cases h5 : wrongO [] o = 0
    · exact h5
    · rw [if_pos h5] at z4; exact absurd z4 h5
  rw [if_neg (by omega)] at z4
  unfold checkP
  dsimp only
  rw [if_neg (by simp only [List.length_cons] at z2 ⊢; omega), if_neg (by omega), wrongOs, wrongO_put z5]
  by_cases h6 : wrongSs b 1 = 0
  · rw [if_neg (by omega)]
    rw [show (o.put b).name = o.name from rfl, z4, h6]
  · rw [if_pos h6]
theorem find_head (st : List (ByteArray × ByteArray)) (o : PO) (l : List PO) : findP ⟨st, o :: l⟩ o.name = some o := by
  unfold findP; rw [List.find?_cons_of_pos (by simp)]
theorem ofP_ok {p : PP'} {o : PO} {l : List PO} (hp : p.opers = o :: l) (h : (ofP p o.name).2 = 0) : checkP p = 0 ∧ wrongSs o.body 1 = 0 ∧ (stmtEs p.stores o.body zeroE 0).2 = 0 ∧ ofP p o.name = ((stmtEs p.stores o.body zeroE 0).1, 0) := by
  obtain ⟨st, ops⟩ := p
  dsimp only at hp
  subst hp
  unfold ofP at h ⊢
  by_cases h1 : checkP ⟨st, o :: l⟩ = 0
  · rw [if_neg (by omega), find_head] at h
    rw [if_neg (by omega), find_head]
    dsimp only at h ⊢
    obtain ⟨z1, z2, z3, z4⟩ := checkP_zero h1
    by_cases h2 : (stmtEs st o.body zeroE 0).2 = 0
    · exact ⟨h1, wrongOs_mem z4 o (.head _), h2, by rw [if_neg (by omega)]⟩
    · rw [if_pos h2] at h; exact absurd h h2
  · rw [if_pos h1] at h; exact absurd h h1
theorem ofP_rep {p : PP'} {o : PO} {l : List PO} {k : Int} (hp : p.opers = o :: l) (h : (ofP p o.name).2 = 0) (h0 : 0 ≤ k) (h1 : k ≤ 64) :
    ofP ⟨p.stores, o.put [repS k o.body] :: l⟩ o.name = (timesE (ofP p o.name).1 k, 0) ∨ (ofP ⟨p.stores, o.put [repS k o.body] :: l⟩ o.name) = (zeroE, 18) := by
  obtain ⟨c1, c2, c3, c4⟩ := ofP_ok hp h
  rw [c4]
  have hc := check_put (b := [repS k o.body]) hp c1
  have hf : findP ⟨p.stores, o.put [repS k o.body] :: l⟩ o.name = some (o.put [repS k o.body]) := find_head _ (o.put _) l
  unfold ofP
  rw [hc, hf]
  rcases repS_wrong h0 h1 c2 with g | g
  · left
    rw [if_neg (by omega)]
    show (if (stmtEs p.stores [repS k o.body] zeroE 0).2 ≠ 0 then _ else _) = _
    dsimp only [PO.put]
    rw [repS_eff _ _ _ c3, if_neg (by simp)]
  · right
    rw [if_pos (by omega), g]
theorem ofP_twice {p : PP'} {o : PO} {l : List PO} (hp : p.opers = o :: l) (h : (ofP p o.name).2 = 0) :
    ofP ⟨p.stores, o.put (o.body ++ o.body) :: l⟩ o.name = (joinE (ofP p o.name).1 (ofP p o.name).1, 0) := by
  obtain ⟨c1, c2, c3, c4⟩ := ofP_ok hp h
  rw [c4]
  have hc := check_put (b := o.body ++ o.body) hp c1
  have hf : findP ⟨p.stores, o.put (o.body ++ o.body) :: l⟩ o.name = some (o.put (o.body ++ o.body)) := find_head _ (o.put _) l
  unfold ofP
  rw [hc, hf, wrongSs_app, c2]
  have e' : stmtEs p.stores (o.put (o.body ++ o.body)).body zeroE 0 = _ := stmtEs_twice c3
  simp [e']
end Sim

namespace Sim
def szB (s : ByteArray) : Prop := s.size ≤ 4611686018427387904
mutual
def PE.sz : PE → Prop
  | .mk _ _ a b xs ys => szB a ∧ szB b ∧ PE.szL xs ∧ PE.szL ys
def PE.szL : List PE → Prop
  | [] => True
  | e :: l => PE.sz e ∧ PE.szL l
end
theorem PE.sz_eq {e : PE} (h : e.sz) : szB e.name ∧ szB e.meth ∧ PE.szL e.args ∧ PE.szL e.or := by cases e; unfold PE.sz at h; exact h
theorem PE.szL_mem : ∀ {l : List PE}, PE.szL l → ∀ x ∈ l, x.sz
  | [], _, x, hx => by simp at hx
  | e :: l, h, x, hx => by
    unfold PE.szL at h
    rcases List.mem_cons.1 hx with rfl | hx
    · exact h.1
    · exact PE.szL_mem h.2 x hx
theorem PE.sizeL_snoc : ∀ {l : List PE} {j : Nat} {x : PE}, l[j]? = some x → PE.sizeL (l.take (j + 1)) = PE.sizeL (l.take j) + x.size
  | e :: l, 0, x, h => by simp at h; subst h; simp [PE.sizeL]
  | e :: l, j + 1, x, h => by
    have := PE.sizeL_snoc (l := l) (j := j) (x := x) (by simpa using h)
    rw [List.take_succ_cons, List.take_succ_cons, PE.sizeL, PE.sizeL, this]; omega
end Sim
namespace Go.Proofs.YtjapaghhgpaldaaGreatDoor
open Go.Vc Sim
def RmE (w0 : World) (n : Nat) : Prop := ∀ (sh : Shared) (e : PE) (va vo : Value) (left : Int), e.size ≤ n → e.sz → RdEl w0 sh va e.args → RdEl w0 sh vo e.or → -50000000000000000 ≤ left → left ≤ 400 →
  Vc.Fn PP w0 sh 46 [.agg (List.toArray (peC e.kind e.num e.name e.meth va vo)), .int .i64 left] [] (fun v Γ => Γ = [] ∧ ∃ L : Int, v = .int .i64 L ∧ -200000000000000000 ≤ L ∧ L ≤ left ∧ (0 ≤ L → L + e.size ≤ left))
set_option maxHeartbeats 4000000 in
theorem roomE_spec (w0 : World) : ∀ n, RmE w0 n := by
  intro n
  induction n with
  | zero => intro sh e va vo left h; have := e.size_pos; omega
  | succ n ih =>
  intro sh e va vo left hs hz ha ho hl1 hl2
  obtain ⟨z1, z2, z3, z4⟩ := PE.sz_eq hz
  unfold szB at z1 z2
  have hsz := e.size_eq
  have hsa := fun (x : PE) (h : x ∈ e.args) => PE.size_args h
  have hso := fun (x : PE) (h : x ∈ e.or) => PE.size_or h
  obtain ⟨a1, c1, hva, _⟩ := id ha.len
  obtain ⟨a2, c2, hvo, _⟩ := id ho.len
  subst hva; subst hvo
  obtain ⟨L1, hL1⟩ : ∃ L1, left - 1 - ((e.name.size : Nat) : Int) / 100 - ((e.meth.size : Nat) : Int) / 100 = L1 := ⟨_, rfl⟩
  refine fn_of_run en46 fn46 rfl rfl rfl ?_
  repeat (first | refine zck ?_ | refine zcl ?_ | refine zcm ?_ | refine zcn ?_)
  first | refine zcp (by kernel_rfl) ?_ | refine zcq PP_mixed (by kernel_rfl) (by kernel_rfl) ?_
  repeat' (refine zap rfl ?_; first | refine zaj rfl ?_ | refine zak rfl ?_ | refine zal rfl ?_ | refine zam rfl rfl (fun _ => ?_) (fun _ => ?_) | refine zan rfl ?_ | refine zan rfl ?_ | refine zaa 0 rfl rfl rfl ?_ | refine zaa 1 rfl rfl rfl ?_ | refine zaa 2 rfl rfl rfl ?_ | refine zaa 3 rfl rfl rfl ?_ | refine zaa 4 rfl rfl rfl ?_ | refine zaa 5 rfl rfl rfl ?_ | refine zab 0 rfl rfl rfl ?_ | refine zab 1 rfl rfl rfl ?_ | refine zab 2 rfl rfl rfl ?_ | refine zab 3 rfl rfl rfl ?_ | refine zab 4 rfl rfl rfl ?_ | refine zab 5 rfl rfl rfl ?_ | refine zce rfl ?_ | refine zao rfl ?_ | refine reg_addZ rfl rfl (by omega) ?_ | refine zau rfl rfl (by omega) ?_ | refine zav rfl rfl (by omega) ?_ | refine zbq rfl rfl ?_ | refine zbt rfl rfl ?_ | refine zax rfl rfl (by omega) ?_ | refine zbu rfl ?_ | refine zbv rfl ?_ | refine zbw rfl rfl rfl ?_ | refine zas rfl rfl (by omega) ?_ | refine zat rfl rfl (by omega) ?_ | refine zaq (cs := [_, _, _, _, _, _]) rfl (fun nb => ?_))
  all_goals refine zch ?_
  all_goals repeat (first | refine zck ?_ | refine zcl ?_ | refine zcm ?_ | refine zcn ?_)
  refine run_share [0] rfl ?_
  obtain ⟨be, hbe⟩ : ∃ b, b = nb := ⟨_, rfl⟩
  subst hbe
  repeat (first | refine zck ?_ | refine zcl ?_ | refine zcm ?_ | refine zcn ?_)
  first | refine zcp (by kernel_rfl) ?_ | refine zcq PP_mixed (by kernel_rfl) (by kernel_rfl) ?_
  repeat' (refine zap rfl ?_; first | refine zaj rfl ?_ | refine zak rfl ?_ | refine zal rfl ?_ | refine zam rfl rfl (fun _ => ?_) (fun _ => ?_) | refine zan rfl ?_ | refine zan rfl ?_ | refine zaa 0 rfl rfl rfl ?_ | refine zaa 1 rfl rfl rfl ?_ | refine zaa 2 rfl rfl rfl ?_ | refine zaa 3 rfl rfl rfl ?_ | refine zaa 4 rfl rfl rfl ?_ | refine zaa 5 rfl rfl rfl ?_ | refine zab 0 rfl rfl rfl ?_ | refine zab 1 rfl rfl rfl ?_ | refine zab 2 rfl rfl rfl ?_ | refine zab 3 rfl rfl rfl ?_ | refine zab 4 rfl rfl rfl ?_ | refine zab 5 rfl rfl rfl ?_ | refine reg_lenS rfl ?_ | refine zce rfl ?_ | refine zao rfl ?_ | refine reg_addZ rfl rfl (by omega) ?_ | refine zau rfl rfl (by omega) ?_ | refine zav rfl rfl (by omega) ?_ | refine zbq rfl rfl ?_ | refine zbt rfl rfl ?_ | refine zax rfl rfl (by omega) ?_ | refine zbu rfl ?_ | refine zbv rfl ?_ | refine zbw rfl rfl rfl ?_ | refine zas rfl rfl (by omega) ?_ | refine zat rfl rfl (by omega) ?_ | refine zaq (cs := [_, _, _, _, _, _]) rfl (fun nb => ?_))
  all_goals refine zch ?_
  all_goals repeat (first | refine zck ?_ | refine zcl ?_ | refine zcm ?_ | refine zcn ?_)
  repeat (first | refine zck ?_ | refine zcl ?_ | refine zcm ?_ | refine zcn ?_)
  first | refine zcp (by kernel_rfl) ?_ | refine zcq PP_mixed (by kernel_rfl) (by kernel_rfl) ?_
  repeat' (refine zap rfl ?_; first | refine zaj rfl ?_ | refine zak rfl ?_ | refine zal rfl ?_ | refine zam rfl rfl (fun _ => ?_) (fun _ => ?_) | refine zan rfl ?_ | refine zan rfl ?_ | refine zaa 0 rfl rfl rfl ?_ | refine zaa 1 rfl rfl rfl ?_ | refine zaa 2 rfl rfl rfl ?_ | refine zaa 3 rfl rfl rfl ?_ | refine zaa 4 rfl rfl rfl ?_ | refine zaa 5 rfl rfl rfl ?_ | refine zab 0 rfl rfl rfl ?_ | refine zab 1 rfl rfl rfl ?_ | refine zab 2 rfl rfl rfl ?_ | refine zab 3 rfl rfl rfl ?_ | refine zab 4 rfl rfl rfl ?_ | refine zab 5 rfl rfl rfl ?_ | refine zce rfl ?_ | refine zao rfl ?_ | refine reg_addZ rfl rfl (by omega) ?_ | refine zau rfl rfl (by omega) ?_ | refine zav rfl rfl (by omega) ?_ | refine zbq rfl rfl ?_ | refine zbt rfl rfl ?_ | refine zax rfl rfl (by omega) ?_ | refine zbu rfl ?_ | refine zbv rfl ?_ | refine zbw rfl rfl rfl ?_ | refine zas rfl rfl (by omega) ?_ | refine zat rfl rfl (by omega) ?_ | refine zaq (cs := [_, _, _, _, _, _]) rfl (fun nb => ?_))
  all_goals refine zch ?_
  all_goals repeat (refine zck ?_)
  refine run_bind_eq2 (σ := { L : Int // -200000000000000000 ≤ L ∧ L ≤ L1 ∧ (0 ≤ L → L + PE.sizeL e.args ≤ L1) }) (l' := fun s => [(1, .int .i64 s.1), (2, .pointer (some ⟨be, 0, none⟩))]) (Γ' := fun _ => []) ?_ ?_
  · refine zcl ?_
    refine run_loop (S := Nat × Int) (fun s => [(1, .int .i64 s.2), (2, .pointer (some ⟨be, 0, none⟩)), (5, .int .i64 s.1)])
      (fun s Γ => Γ = [] ∧ s.1 ≤ e.args.length ∧ s.1 ≤ 401 ∧ -200000000000000000 ≤ s.2 ∧ s.2 ≤ L1 ∧ (0 ≤ s.2 → s.2 + PE.sizeL (e.args.take s.1) ≤ L1)) (fun s => e.args.length - s.1) (0, L1)
      ⟨int_eq (by dsimp only; omega), rfl, rfl, trivial⟩ ⟨rfl, Nat.zero_le _, by dsimp only; omega, by dsimp only; omega, by dsimp only; omega, fun _ => by simp [PE.sizeL]⟩ ?_
    rintro ⟨j, L⟩ Γ junk ⟨rfl, q1, q0, q2, q3, q4⟩
    dsimp only at q1 q0 q2 q3 q4 ⊢
    by_cases hj : j < e.args.length ∧ 0 ≤ L
    · obtain ⟨hj, hL⟩ := hj
      obtain ⟨x, hx⟩ : ∃ x, e.args[j]? = some x := ⟨_, List.getElem?_eq_getElem hj⟩
      obtain ⟨b, off, cc, T, fr, cs, rfl, e2, e3, e4, _⟩ := ha.at hx
      obtain ⟨va, vo, rfl, r1, r2⟩ := e4.cs
      have hxm := List.mem_iff_getElem?.2 ⟨_, hx⟩
      have hcall := ih sh x va vo L (by have := hsa x hxm; omega) (PE.szL_mem z3 x hxm) r1 r2 (by omega) (by omega)
      have hsn := PE.sizeL_snoc hx
      have hxp := x.size_pos
      have hq4 := q4 hL
      have hlt := PE.sizeL_len (e.args.take j)
      rw [List.length_take] at hlt
      repeat' (first | refine zck ?_ | refine zcp (by kernel_rfl) ?_ | refine zcq PP_mixed (by kernel_rfl) (by kernel_rfl) ?_ | refine zcm ?_ | refine zcl ?_ | refine zcn ?_ | refine zco ?_ | refine zcs rfl ?_ | (refine zap rfl ?_; first | refine zad rfl (fun hF Γ w h1 h2 => e2 hF Γ w (fun p hp => h1 p (by simp [hp])) h2) (e3 _ (by omega)) ?_ | refine zaj rfl ?_ | refine zak rfl ?_ | refine zal rfl ?_ | refine zam rfl rfl (fun _ => ?_) (fun _ => ?_) | refine zan rfl ?_ | refine zan rfl ?_ | refine zaa 0 rfl rfl rfl ?_ | refine zaa 1 rfl rfl rfl ?_ | refine zaa 2 rfl rfl rfl ?_ | refine zaa 3 rfl rfl rfl ?_ | refine zaa 4 rfl rfl rfl ?_ | refine zaa 5 rfl rfl rfl ?_ | refine zab 0 rfl rfl rfl ?_ | refine zab 1 rfl rfl rfl ?_ | refine zab 2 rfl rfl rfl ?_ | refine zab 3 rfl rfl rfl ?_ | refine zab 4 rfl rfl rfl ?_ | refine zab 5 rfl rfl rfl ?_ | refine zce rfl ?_ | (refine zai [] hcall rfl rfl rfl (fun p hp => by simp [hp]) ?_; rintro v Γ ⟨rfl, L', rfl, p1, p2, p3⟩) | refine zce rfl ?_ | refine zao rfl ?_ | refine zbg rfl rfl (by omega) ?_ | refine zbh rfl rfl (by omega) ?_ | refine zbm rfl rfl (by omega) ?_ | refine zbn rfl rfl (by omega) ?_ | refine reg_addZ rfl rfl (by omega) ?_ | refine zau rfl rfl (by omega) ?_ | refine zav rfl rfl (by omega) ?_ | refine zbq rfl rfl ?_ | refine zbt rfl rfl ?_ | refine zax rfl rfl (by omega) ?_ | refine zbu rfl ?_ | refine zbv rfl ?_ | refine zbw rfl rfl rfl ?_ | refine zas rfl rfl (by omega) ?_ | refine zat rfl rfl (by omega) ?_ | refine zaq (cs := [_, _, _, _, _, _]) rfl (fun nb => ?_)) | refine zch ?_ | refine zci rfl ?_ | refine zcj rfl ?_)
      exact cut_end ⟨rfl, (j + 1, L'), ⟨rfl, rfl, int_eq (by dsimp only; omega), trivial⟩, ⟨rfl, by dsimp only; omega, by dsimp only; omega, by dsimp only; omega, by dsimp only; omega, fun h => by dsimp only at h ⊢; rw [hsn]; have := p3 h; omega⟩, by dsimp only; omega⟩
    · by_cases hj1 : j < e.args.length
      · have hL : L < 0 := by omega
        repeat' (first | refine zck ?_ | refine zcp (by kernel_rfl) ?_ | refine zcq PP_mixed (by kernel_rfl) (by kernel_rfl) ?_ | refine zcm ?_ | refine zcl ?_ | refine zcn ?_ | refine zco ?_ | refine zcs rfl ?_ | (refine zap rfl ?_; first | refine zaj rfl ?_ | refine zak rfl ?_ | refine zal rfl ?_ | refine zam rfl rfl (fun _ => ?_) (fun _ => ?_) | refine zan rfl ?_ | refine zan rfl ?_ | refine zaa 0 rfl rfl rfl ?_ | refine zaa 1 rfl rfl rfl ?_ | refine zaa 2 rfl rfl rfl ?_ | refine zaa 3 rfl rfl rfl ?_ | refine zaa 4 rfl rfl rfl ?_ | refine zaa 5 rfl rfl rfl ?_ | refine zab 0 rfl rfl rfl ?_ | refine zab 1 rfl rfl rfl ?_ | refine zab 2 rfl rfl rfl ?_ | refine zab 3 rfl rfl rfl ?_ | refine zab 4 rfl rfl rfl ?_ | refine zab 5 rfl rfl rfl ?_ | refine zce rfl ?_ | refine zao rfl ?_ | refine zbg rfl rfl (by omega) ?_ | refine zbh rfl rfl (by omega) ?_ | refine zbm rfl rfl (by omega) ?_ | refine zbn rfl rfl (by omega) ?_ | refine reg_addZ rfl rfl (by omega) ?_ | refine zau rfl rfl (by omega) ?_ | refine zav rfl rfl (by omega) ?_ | refine zbq rfl rfl ?_ | refine zbt rfl rfl ?_ | refine zax rfl rfl (by omega) ?_ | refine zbu rfl ?_ | refine zbv rfl ?_ | refine zbw rfl rfl rfl ?_ | refine zas rfl rfl (by omega) ?_ | refine zat rfl rfl (by omega) ?_ | refine zaq (cs := [_, _, _, _, _, _]) rfl (fun nb => ?_)) | refine zch ?_ | refine zci rfl ?_ | refine zcj rfl ?_)
        refine cut_exit rfl rfl ?_
        exact cut_end ⟨rfl, ⟨L, q2, q3, fun h => by omega⟩, ⟨rfl, rfl, trivial⟩, rfl⟩
      · repeat' (first | refine zck ?_ | refine zcp (by kernel_rfl) ?_ | refine zcq PP_mixed (by kernel_rfl) (by kernel_rfl) ?_ | refine zcm ?_ | refine zcl ?_ | refine zcn ?_ | refine zco ?_ | refine zcs rfl ?_ | (refine zap rfl ?_; first | refine zaj rfl ?_ | refine zak rfl ?_ | refine zal rfl ?_ | refine zam rfl rfl (fun _ => ?_) (fun _ => ?_) | refine zan rfl ?_ | refine zan rfl ?_ | refine zaa 0 rfl rfl rfl ?_ | refine zaa 1 rfl rfl rfl ?_ | refine zaa 2 rfl rfl rfl ?_ | refine zaa 3 rfl rfl rfl ?_ | refine zaa 4 rfl rfl rfl ?_ | refine zaa 5 rfl rfl rfl ?_ | refine zab 0 rfl rfl rfl ?_ | refine zab 1 rfl rfl rfl ?_ | refine zab 2 rfl rfl rfl ?_ | refine zab 3 rfl rfl rfl ?_ | refine zab 4 rfl rfl rfl ?_ | refine zab 5 rfl rfl rfl ?_ | refine zce rfl ?_ | refine zao rfl ?_ | refine zbg rfl rfl (by omega) ?_ | refine zbh rfl rfl (by omega) ?_ | refine zbm rfl rfl (by omega) ?_ | refine zbn rfl rfl (by omega) ?_ | refine reg_addZ rfl rfl (by omega) ?_ | refine zau rfl rfl (by omega) ?_ | refine zav rfl rfl (by omega) ?_ | refine zbq rfl rfl ?_ | refine zbt rfl rfl ?_ | refine zax rfl rfl (by omega) ?_ | refine zbu rfl ?_ | refine zbv rfl ?_ | refine zbw rfl rfl rfl ?_ | refine zas rfl rfl (by omega) ?_ | refine zat rfl rfl (by omega) ?_ | refine zaq (cs := [_, _, _, _, _, _]) rfl (fun nb => ?_)) | refine zch ?_ | refine zci rfl ?_ | refine zcj rfl ?_)
        refine cut_exit rfl rfl ?_
        exact cut_end ⟨rfl, ⟨L, q2, q3, fun h => by have := q4 h; rwa [List.take_of_length_le (by omega)] at this⟩, ⟨rfl, rfl, trivial⟩, rfl⟩
  · rintro ⟨L2, w1, w2, w3⟩ junk
    dsimp only
    repeat (first | refine zck ?_ | refine zcl ?_ | refine zcm ?_ | refine zcn ?_)
    first | refine zcp (by kernel_rfl) ?_ | refine zcq PP_mixed (by kernel_rfl) (by kernel_rfl) ?_
    repeat' (refine zap rfl ?_; first | refine zaj rfl ?_ | refine zak rfl ?_ | refine zal rfl ?_ | refine zam rfl rfl (fun _ => ?_) (fun _ => ?_) | refine zan rfl ?_ | refine zan rfl ?_ | refine zaa 0 rfl rfl rfl ?_ | refine zaa 1 rfl rfl rfl ?_ | refine zaa 2 rfl rfl rfl ?_ | refine zaa 3 rfl rfl rfl ?_ | refine zaa 4 rfl rfl rfl ?_ | refine zaa 5 rfl rfl rfl ?_ | refine zab 0 rfl rfl rfl ?_ | refine zab 1 rfl rfl rfl ?_ | refine zab 2 rfl rfl rfl ?_ | refine zab 3 rfl rfl rfl ?_ | refine zab 4 rfl rfl rfl ?_ | refine zab 5 rfl rfl rfl ?_ | refine zce rfl ?_ | refine zao rfl ?_ | refine reg_addZ rfl rfl (by omega) ?_ | refine zau rfl rfl (by omega) ?_ | refine zav rfl rfl (by omega) ?_ | refine zbq rfl rfl ?_ | refine zbt rfl rfl ?_ | refine zax rfl rfl (by omega) ?_ | refine zbu rfl ?_ | refine zbv rfl ?_ | refine zbw rfl rfl rfl ?_ | refine zas rfl rfl (by omega) ?_ | refine zat rfl rfl (by omega) ?_ | refine zaq (cs := [_, _, _, _, _, _]) rfl (fun nb => ?_))
    all_goals refine zch ?_
    all_goals repeat (first | refine zck ?_ | refine zcl ?_ | refine zcm ?_ | refine zcn ?_)
    refine run_loop (S := Nat × Int) (fun s => [(1, .int .i64 s.2), (2, .pointer (some ⟨be, 0, none⟩)), (6, .int .i64 s.1)])
      (fun s Γ => Γ = [] ∧ s.1 ≤ e.or.length ∧ s.1 ≤ 401 ∧ -200000000000000000 ≤ s.2 ∧ s.2 ≤ L2 ∧ (0 ≤ s.2 → s.2 + PE.sizeL (e.or.take s.1) ≤ L2)) (fun s => e.or.length - s.1) (0, L2)
      ⟨rfl, rfl, rfl, trivial⟩ ⟨rfl, Nat.zero_le _, by dsimp only; omega, by dsimp only; omega, by dsimp only; omega, fun _ => by simp [PE.sizeL]⟩ ?_
    rintro ⟨j, L⟩ Γ junk ⟨rfl, q1, q0, q2, q3, q4⟩
    dsimp only at q1 q0 q2 q3 q4 ⊢
    by_cases hj : j < e.or.length ∧ 0 ≤ L
    · obtain ⟨hj, hL⟩ := hj
      obtain ⟨x, hx⟩ : ∃ x, e.or[j]? = some x := ⟨_, List.getElem?_eq_getElem hj⟩
      obtain ⟨b, off, cc, T, fr, cs, rfl, e2, e3, e4, _⟩ := ho.at hx
      obtain ⟨va, vo, rfl, r1, r2⟩ := e4.cs
      have hxm := List.mem_iff_getElem?.2 ⟨_, hx⟩
      have hcall := ih sh x va vo L (by have := hso x hxm; omega) (PE.szL_mem z4 x hxm) r1 r2 (by omega) (by omega)
      have hsn := PE.sizeL_snoc hx
      have hxp := x.size_pos
      have hq4 := q4 hL
      have hlt := PE.sizeL_len (e.or.take j)
      rw [List.length_take] at hlt
      repeat' (first | refine zck ?_ | refine zcp (by kernel_rfl) ?_ | refine zcq PP_mixed (by kernel_rfl) (by kernel_rfl) ?_ | refine zcm ?_ | refine zcl ?_ | refine zcn ?_ | refine zco ?_ | refine zcs rfl ?_ | (refine zap rfl ?_; first | refine zad rfl (fun hF Γ w h1 h2 => e2 hF Γ w (fun p hp => h1 p (by simp [hp])) h2) (e3 _ (by omega)) ?_ | refine zaj rfl ?_ | refine zak rfl ?_ | refine zal rfl ?_ | refine zam rfl rfl (fun _ => ?_) (fun _ => ?_) | refine zan rfl ?_ | refine zan rfl ?_ | refine zaa 0 rfl rfl rfl ?_ | refine zaa 1 rfl rfl rfl ?_ | refine zaa 2 rfl rfl rfl ?_ | refine zaa 3 rfl rfl rfl ?_ | refine zaa 4 rfl rfl rfl ?_ | refine zaa 5 rfl rfl rfl ?_ | refine zab 0 rfl rfl rfl ?_ | refine zab 1 rfl rfl rfl ?_ | refine zab 2 rfl rfl rfl ?_ | refine zab 3 rfl rfl rfl ?_ | refine zab 4 rfl rfl rfl ?_ | refine zab 5 rfl rfl rfl ?_ | refine zce rfl ?_ | (refine zai [] hcall rfl rfl rfl (fun p hp => by simp [hp]) ?_; rintro v Γ ⟨rfl, L', rfl, p1, p2, p3⟩) | refine zce rfl ?_ | refine zao rfl ?_ | refine zbg rfl rfl (by omega) ?_ | refine zbh rfl rfl (by omega) ?_ | refine zbm rfl rfl (by omega) ?_ | refine zbn rfl rfl (by omega) ?_ | refine reg_addZ rfl rfl (by omega) ?_ | refine zau rfl rfl (by omega) ?_ | refine zav rfl rfl (by omega) ?_ | refine zbq rfl rfl ?_ | refine zbt rfl rfl ?_ | refine zax rfl rfl (by omega) ?_ | refine zbu rfl ?_ | refine zbv rfl ?_ | refine zbw rfl rfl rfl ?_ | refine zas rfl rfl (by omega) ?_ | refine zat rfl rfl (by omega) ?_ | refine zaq (cs := [_, _, _, _, _, _]) rfl (fun nb => ?_)) | refine zch ?_ | refine zci rfl ?_ | refine zcj rfl ?_)
      exact cut_end ⟨rfl, (j + 1, L'), ⟨rfl, rfl, int_eq (by dsimp only; omega), trivial⟩, ⟨rfl, by dsimp only; omega, by dsimp only; omega, by dsimp only; omega, by dsimp only; omega, fun h => by dsimp only at h ⊢; rw [hsn]; have := p3 h; omega⟩, by dsimp only; omega⟩
    · by_cases hj1 : j < e.or.length
      · have hL : L < 0 := by omega
        repeat' (first | refine zck ?_ | refine zcp (by kernel_rfl) ?_ | refine zcq PP_mixed (by kernel_rfl) (by kernel_rfl) ?_ | refine zcm ?_ | refine zcl ?_ | refine zcn ?_ | refine zco ?_ | refine zcs rfl ?_ | (refine zap rfl ?_; first | refine zaj rfl ?_ | refine zak rfl ?_ | refine zal rfl ?_ | refine zam rfl rfl (fun _ => ?_) (fun _ => ?_) | refine zan rfl ?_ | refine zan rfl ?_ | refine zaa 0 rfl rfl rfl ?_ | refine zaa 1 rfl rfl rfl ?_ | refine zaa 2 rfl rfl rfl ?_ | refine zaa 3 rfl rfl rfl ?_ | refine zaa 4 rfl rfl rfl ?_ | refine zaa 5 rfl rfl rfl ?_ | refine zab 0 rfl rfl rfl ?_ | refine zab 1 rfl rfl rfl ?_ | refine zab 2 rfl rfl rfl ?_ | refine zab 3 rfl rfl rfl ?_ | refine zab 4 rfl rfl rfl ?_ | refine zab 5 rfl rfl rfl ?_ | refine zce rfl ?_ | refine zao rfl ?_ | refine zbg rfl rfl (by omega) ?_ | refine zbh rfl rfl (by omega) ?_ | refine zbm rfl rfl (by omega) ?_ | refine zbn rfl rfl (by omega) ?_ | refine reg_addZ rfl rfl (by omega) ?_ | refine zau rfl rfl (by omega) ?_ | refine zav rfl rfl (by omega) ?_ | refine zbq rfl rfl ?_ | refine zbt rfl rfl ?_ | refine zax rfl rfl (by omega) ?_ | refine zbu rfl ?_ | refine zbv rfl ?_ | refine zbw rfl rfl rfl ?_ | refine zas rfl rfl (by omega) ?_ | refine zat rfl rfl (by omega) ?_ | refine zaq (cs := [_, _, _, _, _, _]) rfl (fun nb => ?_)) | refine zch ?_ | refine zci rfl ?_ | refine zcj rfl ?_)
        refine cut_exit rfl rfl ?_
        repeat' (first | refine zck ?_ | refine zcp (by kernel_rfl) ?_ | refine zcq PP_mixed (by kernel_rfl) (by kernel_rfl) ?_ | refine zcm ?_ | refine zcl ?_ | refine zcn ?_ | refine zco ?_ | refine zcs rfl ?_ | (refine zap rfl ?_; first | refine zaj rfl ?_ | refine zak rfl ?_ | refine zal rfl ?_ | refine zam rfl rfl (fun _ => ?_) (fun _ => ?_) | refine zan rfl ?_ | refine zan rfl ?_ | refine zaa 0 rfl rfl rfl ?_ | refine zaa 1 rfl rfl rfl ?_ | refine zaa 2 rfl rfl rfl ?_ | refine zaa 3 rfl rfl rfl ?_ | refine zaa 4 rfl rfl rfl ?_ | refine zaa 5 rfl rfl rfl ?_ | refine zab 0 rfl rfl rfl ?_ | refine zab 1 rfl rfl rfl ?_ | refine zab 2 rfl rfl rfl ?_ | refine zab 3 rfl rfl rfl ?_ | refine zab 4 rfl rfl rfl ?_ | refine zab 5 rfl rfl rfl ?_ | refine zce rfl ?_ | refine zao rfl ?_ | refine zbg rfl rfl (by omega) ?_ | refine zbh rfl rfl (by omega) ?_ | refine zbm rfl rfl (by omega) ?_ | refine zbn rfl rfl (by omega) ?_ | refine reg_addZ rfl rfl (by omega) ?_ | refine zau rfl rfl (by omega) ?_ | refine zav rfl rfl (by omega) ?_ | refine zbq rfl rfl ?_ | refine zbt rfl rfl ?_ | refine zax rfl rfl (by omega) ?_ | refine zbu rfl ?_ | refine zbv rfl ?_ | refine zbw rfl rfl rfl ?_ | refine zas rfl rfl (by omega) ?_ | refine zat rfl rfl (by omega) ?_ | refine zaq (cs := [_, _, _, _, _, _]) rfl (fun nb => ?_)) | refine zch ?_ | refine zci rfl ?_ | refine zcj rfl ?_)
        exact ret_tmp1 rfl ⟨rfl, L, rfl, by omega, by omega, fun h => by omega⟩
      · repeat' (first | refine zck ?_ | refine zcp (by kernel_rfl) ?_ | refine zcq PP_mixed (by kernel_rfl) (by kernel_rfl) ?_ | refine zcm ?_ | refine zcl ?_ | refine zcn ?_ | refine zco ?_ | refine zcs rfl ?_ | (refine zap rfl ?_; first | refine zaj rfl ?_ | refine zak rfl ?_ | refine zal rfl ?_ | refine zam rfl rfl (fun _ => ?_) (fun _ => ?_) | refine zan rfl ?_ | refine zan rfl ?_ | refine zaa 0 rfl rfl rfl ?_ | refine zaa 1 rfl rfl rfl ?_ | refine zaa 2 rfl rfl rfl ?_ | refine zaa 3 rfl rfl rfl ?_ | refine zaa 4 rfl rfl rfl ?_ | refine zaa 5 rfl rfl rfl ?_ | refine zab 0 rfl rfl rfl ?_ | refine zab 1 rfl rfl rfl ?_ | refine zab 2 rfl rfl rfl ?_ | refine zab 3 rfl rfl rfl ?_ | refine zab 4 rfl rfl rfl ?_ | refine zab 5 rfl rfl rfl ?_ | refine zce rfl ?_ | refine zao rfl ?_ | refine zbg rfl rfl (by omega) ?_ | refine zbh rfl rfl (by omega) ?_ | refine zbm rfl rfl (by omega) ?_ | refine zbn rfl rfl (by omega) ?_ | refine reg_addZ rfl rfl (by omega) ?_ | refine zau rfl rfl (by omega) ?_ | refine zav rfl rfl (by omega) ?_ | refine zbq rfl rfl ?_ | refine zbt rfl rfl ?_ | refine zax rfl rfl (by omega) ?_ | refine zbu rfl ?_ | refine zbv rfl ?_ | refine zbw rfl rfl rfl ?_ | refine zas rfl rfl (by omega) ?_ | refine zat rfl rfl (by omega) ?_ | refine zaq (cs := [_, _, _, _, _, _]) rfl (fun nb => ?_)) | refine zch ?_ | refine zci rfl ?_ | refine zcj rfl ?_)
        refine cut_exit rfl rfl ?_
        repeat' (first | refine zck ?_ | refine zcp (by kernel_rfl) ?_ | refine zcq PP_mixed (by kernel_rfl) (by kernel_rfl) ?_ | refine zcm ?_ | refine zcl ?_ | refine zcn ?_ | refine zco ?_ | refine zcs rfl ?_ | (refine zap rfl ?_; first | refine zaj rfl ?_ | refine zak rfl ?_ | refine zal rfl ?_ | refine zam rfl rfl (fun _ => ?_) (fun _ => ?_) | refine zan rfl ?_ | refine zan rfl ?_ | refine zaa 0 rfl rfl rfl ?_ | refine zaa 1 rfl rfl rfl ?_ | refine zaa 2 rfl rfl rfl ?_ | refine zaa 3 rfl rfl rfl ?_ | refine zaa 4 rfl rfl rfl ?_ | refine zaa 5 rfl rfl rfl ?_ | refine zab 0 rfl rfl rfl ?_ | refine zab 1 rfl rfl rfl ?_ | refine zab 2 rfl rfl rfl ?_ | refine zab 3 rfl rfl rfl ?_ | refine zab 4 rfl rfl rfl ?_ | refine zab 5 rfl rfl rfl ?_ | refine zce rfl ?_ | refine zao rfl ?_ | refine zbg rfl rfl (by omega) ?_ | refine zbh rfl rfl (by omega) ?_ | refine zbm rfl rfl (by omega) ?_ | refine zbn rfl rfl (by omega) ?_ | refine reg_addZ rfl rfl (by omega) ?_ | refine zau rfl rfl (by omega) ?_ | refine zav rfl rfl (by omega) ?_ | refine zbq rfl rfl ?_ | refine zbt rfl rfl ?_ | refine zax rfl rfl (by omega) ?_ | refine zbu rfl ?_ | refine zbv rfl ?_ | refine zbw rfl rfl rfl ?_ | refine zas rfl rfl (by omega) ?_ | refine zat rfl rfl (by omega) ?_ | refine zaq (cs := [_, _, _, _, _, _]) rfl (fun nb => ?_)) | refine zch ?_ | refine zci rfl ?_ | refine zcj rfl ?_)
        refine ret_tmp1 rfl ⟨rfl, L, rfl, by omega, by omega, fun h => ?_⟩
        have h1 := q4 h
        rw [List.take_of_length_le (by omega)] at h1
        have h2 := w3 (by omega)
        omega
end Go.Proofs.YtjapaghhgpaldaaGreatDoor

namespace Sim
mutual
def PS.sz : PS → Prop
  | .mk _ a _ e xs ys => szB a ∧ e.sz ∧ PS.szL xs ∧ PS.szL ys
def PS.szL : List PS → Prop
  | [] => True
  | e :: l => PS.sz e ∧ PS.szL l
end
theorem PS.sz_eq {e : PS} (h : e.sz) : szB e.name ∧ e.expr.sz ∧ PS.szL e.body ∧ PS.szL e.els := by cases e; unfold PS.sz at h; exact h
theorem PS.szL_mem : ∀ {l : List PS}, PS.szL l → ∀ x ∈ l, x.sz
  | [], _, x, hx => by simp at hx
  | e :: l, h, x, hx => by
    unfold PS.szL at h
    rcases List.mem_cons.1 hx with rfl | hx
    · exact h.1
    · exact PS.szL_mem h.2 x hx
theorem PS.sizeL_snoc : ∀ {l : List PS} {j : Nat} {x : PS}, l[j]? = some x → PS.sizeL (l.take (j + 1)) = PS.sizeL (l.take j) + x.size
  | e :: l, 0, x, h => by simp at h; subst h; simp [PS.sizeL]
  | e :: l, j + 1, x, h => by
    have := PS.sizeL_snoc (l := l) (j := j) (x := x) (by simpa using h)
    rw [List.take_succ_cons, List.take_succ_cons, PS.sizeL, PS.sizeL, this]; omega
theorem PS.size_eq (e : PS) : e.size = 1 + e.expr.size + PS.sizeL e.body + PS.sizeL e.els := by cases e; unfold PS.size; rfl
end Sim
namespace Go.Proofs.YtjapaghhgpaldaaGreatDoor
open Go.Vc Sim
set_option maxHeartbeats 4000000 in
theorem room_spec (w0 : World) : ∀ (n : Nat) (sh : Shared) (v : Value) (l : List PS) (left : Int), PS.sizeL l ≤ n → PS.szL l → RdSt w0 sh v l → -200000000000000000 ≤ left → left ≤ 400 →
    Vc.Fn PP w0 sh 27 [v, .int .i64 left] [] (fun v Γ => Γ = [] ∧ ∃ L : Int, v = .int .i64 L ∧ -200000000000000000 ≤ L ∧ L ≤ left ∧ (0 ≤ L → L + PS.sizeL l ≤ left)) := by
  intro n
  induction n using Nat.strongRecOn with
  | _ n ih =>
  intro sh v l left hn hz hr hl1 hl2
  obtain ⟨a, c, hv, _⟩ := hr.len
  subst hv
  refine fn_of_run en27 fn27 rfl rfl rfl ?_
  repeat' (first | refine zck ?_ | refine zcp (by kernel_rfl) ?_ | refine zcq PP_mixed (by kernel_rfl) (by kernel_rfl) ?_ | refine zcm ?_ | refine zcl ?_ | refine zcn ?_ | refine zco ?_ | refine zcs rfl ?_ | (refine zap rfl ?_; first | refine zaj rfl ?_ | refine zak rfl ?_ | refine zal rfl ?_ | refine zam rfl rfl (fun _ => ?_) (fun _ => ?_) | refine zan rfl ?_ | refine zan rfl ?_ | refine zaa 0 rfl rfl rfl ?_ | refine zaa 1 rfl rfl rfl ?_ | refine zaa 2 rfl rfl rfl ?_ | refine zaa 3 rfl rfl rfl ?_ | refine zaa 4 rfl rfl rfl ?_ | refine zaa 5 rfl rfl rfl ?_ | refine zab 0 rfl rfl rfl ?_ | refine zab 1 rfl rfl rfl ?_ | refine zab 2 rfl rfl rfl ?_ | refine zab 3 rfl rfl rfl ?_ | refine zab 4 rfl rfl rfl ?_ | refine zab 5 rfl rfl rfl ?_ | refine zce rfl ?_ | refine zao rfl ?_ | refine zbg rfl rfl (by omega) ?_ | refine zbh rfl rfl (by omega) ?_ | refine zbm rfl rfl (by omega) ?_ | refine zbn rfl rfl (by omega) ?_ | refine reg_addZ rfl rfl (by omega) ?_ | refine zau rfl rfl (by omega) ?_ | refine zav rfl rfl (by omega) ?_ | refine zbq rfl rfl ?_ | refine zbt rfl rfl ?_ | refine zax rfl rfl (by omega) ?_ | refine zbu rfl ?_ | refine zbv rfl ?_ | refine zbw rfl rfl rfl ?_ | refine zas rfl rfl (by omega) ?_ | refine zat rfl rfl (by omega) ?_) | refine zch ?_ | refine zci rfl ?_ | refine zcj rfl ?_)
  refine run_loop (S := Nat × Int) (fun s => [(0, .slice a l.length c), (1, .int .i64 s.2), (5, .int .i64 s.1)])
    (fun s Γ => Γ = [] ∧ s.1 ≤ l.length ∧ s.1 ≤ 401 ∧ -200000000000000000 ≤ s.2 ∧ s.2 ≤ left ∧ (0 ≤ s.2 → s.2 + PS.sizeL (l.take s.1) ≤ left)) (fun s => l.length - s.1) (0, left)
    ⟨rfl, rfl, rfl, trivial⟩ ⟨rfl, Nat.zero_le _, by dsimp only; omega, by dsimp only; omega, by dsimp only; omega, fun _ => by simp [PS.sizeL]⟩ ?_
  rintro ⟨j, L⟩ Γ junk ⟨rfl, q1, q0, q2, q3, q4⟩
  dsimp only at q1 q0 q2 q3 q4 ⊢
  by_cases hj : j < l.length ∧ 0 ≤ L
  · obtain ⟨hj, hL⟩ := hj
    obtain ⟨x, hx⟩ : ∃ x, l[j]? = some x := ⟨_, List.getElem?_eq_getElem hj⟩
    obtain ⟨b, off, cc, T, fr, cs, rfl, e2, e3, e4, e5⟩ := hr.at hx
    obtain ⟨va, vo, vb, ve, rfl, hsp⟩ := e4.sp
    have hxm := List.mem_iff_getElem?.2 ⟨_, hx⟩
    obtain ⟨z1, z2, z3, z4⟩ := PS.sz_eq (PS.szL_mem hz x hxm)
    unfold szB at z1
    have hxs := PS.sizeL_mem hxm
    have hse := x.size_eq
    have hep := x.expr.size_pos
    have k1 := fun L1 h1 h2 => roomE_spec w0 x.expr.size sh x.expr va vo L1 (Nat.le_refl _) z2 hsp.a hsp.o h1 h2
    have k2 := fun L1 h1 h2 => ih (PS.sizeL x.body) (by omega) sh vb x.body L1 (Nat.le_refl _) z3 hsp.b h1 h2
    have k3 := fun L1 h1 h2 => ih (PS.sizeL x.els) (by omega) sh ve x.els L1 (Nat.le_refl _) z4 hsp.e h1 h2
    obtain ⟨a1, c1, hva, _⟩ := hsp.a.len
    obtain ⟨a2, c2, hvo, _⟩ := hsp.o.len
    obtain ⟨a3, c3, hvb, _⟩ := hsp.b.len
    obtain ⟨a4, c4, hve, _⟩ := hsp.e.len
    subst hva; subst hvo; subst hvb; subst hve
    have hsn := PS.sizeL_snoc hx
    have hq4 := q4 hL
    have hlt := PS.sizeL_len (l.take j)
    rw [List.length_take] at hlt
    have rE : ∀ o, o = off + j * 11 + 3 → rd true 6 cc.toList o = some (.agg (List.toArray (peC x.expr.kind x.expr.num x.expr.name x.expr.meth (.slice a1 x.expr.args.length c1) (.slice a2 x.expr.or.length c2)))) := fun o ho =>
      rd_cells (c := cc) (o := off + j * 11 + 3) (q := 6) rfl (fun k u hk => by
        have h6 : k < 6 := (List.getElem?_eq_some_iff.1 hk).1
        have h7 := e5 (3 + k) u (by
          rcases (by omega : k = 0 ∨ k = 1 ∨ k = 2 ∨ k = 3 ∨ k = 4 ∨ k = 5) with rfl | rfl | rfl | rfl | rfl | rfl <;> exact hk) (off + j * 11 + (3 + k)) rfl
        have h8 : nth cc.toList (off + j * 11 + (3 + k)) = some u := h7
        rw [nth_eq] at h8
        simpa [Nat.add_assoc] using h8) o ho
    repeat (first | refine zck ?_ | refine zcl ?_ | refine zcm ?_ | refine zcn ?_)
    first | refine zcp (by kernel_rfl) ?_ | refine zcq PP_mixed (by kernel_rfl) (by kernel_rfl) ?_
    repeat' (refine zap rfl ?_; first | refine zaj rfl ?_ | refine zak rfl ?_ | refine zal rfl ?_ | refine zam rfl rfl (fun _ => ?_) (fun _ => ?_) | refine zan rfl ?_ | refine zan rfl ?_ | refine zaa 0 rfl rfl rfl ?_ | refine zaa 1 rfl rfl rfl ?_ | refine zaa 2 rfl rfl rfl ?_ | refine zaa 3 rfl rfl rfl ?_ | refine zaa 4 rfl rfl rfl ?_ | refine zaa 5 rfl rfl rfl ?_ | refine zab 0 rfl rfl rfl ?_ | refine zab 1 rfl rfl rfl ?_ | refine zab 2 rfl rfl rfl ?_ | refine zab 3 rfl rfl rfl ?_ | refine zab 4 rfl rfl rfl ?_ | refine zab 5 rfl rfl rfl ?_ | refine zce rfl ?_ | refine zao rfl ?_ | refine zbg rfl rfl (by omega) ?_ | refine zbh rfl rfl (by omega) ?_ | refine zbm rfl rfl (by omega) ?_ | refine zbn rfl rfl (by omega) ?_ | refine reg_addZ rfl rfl (by omega) ?_ | refine zau rfl rfl (by omega) ?_ | refine zav rfl rfl (by omega) ?_ | refine zbq rfl rfl ?_ | refine zbt rfl rfl ?_ | refine zax rfl rfl (by omega) ?_ | refine zbu rfl ?_ | refine zbv rfl ?_ | refine zbw rfl rfl rfl ?_ | refine zas rfl rfl (by omega) ?_ | refine zat rfl rfl (by omega) ?_)
    all_goals refine zch ?_
    all_goals repeat (first | refine zck ?_ | refine zcl ?_ | refine zcm ?_ | refine zcn ?_)
    refine zci rfl ?_
    repeat (first | refine zck ?_ | refine zcl ?_ | refine zcm ?_ | refine zcn ?_)
    first | refine zcp (by kernel_rfl) ?_ | refine zcq PP_mixed (by kernel_rfl) (by kernel_rfl) ?_
    repeat' (refine zap rfl ?_; first | refine zad rfl e2 (rE _ (by omega)) ?_ | refine zad rfl e2 (e5 1 _ rfl _ (by omega)) ?_ | refine zaj rfl ?_ | refine zak rfl ?_ | refine zal rfl ?_ | refine zam rfl rfl (fun _ => ?_) (fun _ => ?_) | refine zan rfl ?_ | refine zan rfl ?_ | refine zaa 0 rfl rfl rfl ?_ | refine zaa 1 rfl rfl rfl ?_ | refine zaa 2 rfl rfl rfl ?_ | refine zaa 3 rfl rfl rfl ?_ | refine zaa 4 rfl rfl rfl ?_ | refine zaa 5 rfl rfl rfl ?_ | refine zab 0 rfl rfl rfl ?_ | refine zab 1 rfl rfl rfl ?_ | refine zab 2 rfl rfl rfl ?_ | refine zab 3 rfl rfl rfl ?_ | refine zab 4 rfl rfl rfl ?_ | refine zab 5 rfl rfl rfl ?_ | refine reg_lenS rfl ?_ | (refine zai [] (k1 _ (by omega) (by omega)) rfl rfl rfl (fun _ h => h) ?_; rintro v Γ ⟨rfl, L2, rfl, p1, p2, p3⟩) | refine zce rfl ?_ | refine zao rfl ?_ | refine zbg rfl rfl (by omega) ?_ | refine zbh rfl rfl (by omega) ?_ | refine zbm rfl rfl (by omega) ?_ | refine zbn rfl rfl (by omega) ?_ | refine reg_addZ rfl rfl (by omega) ?_ | refine zau rfl rfl (by omega) ?_ | refine zav rfl rfl (by omega) ?_ | refine zbq rfl rfl ?_ | refine zbt rfl rfl ?_ | refine zax rfl rfl (by omega) ?_ | refine zbu rfl ?_ | refine zbv rfl ?_ | refine zbw rfl rfl rfl ?_ | refine zas rfl rfl (by omega) ?_ | refine zat rfl rfl (by omega) ?_)
    all_goals refine zch ?_
    all_goals repeat (first | refine zck ?_ | refine zcl ?_ | refine zcm ?_ | refine zcn ?_)
    repeat' (first | refine zck ?_ | refine zcp (by kernel_rfl) ?_ | refine zcq PP_mixed (by kernel_rfl) (by kernel_rfl) ?_ | refine zcm ?_ | refine zcl ?_ | refine zcn ?_ | refine zco ?_ | refine zcs rfl ?_ | (refine zap rfl ?_; first | refine zad rfl e2 (e5 9 _ rfl _ (by omega)) ?_ | refine zad rfl e2 (e5 10 _ rfl _ (by omega)) ?_ | refine zaj rfl ?_ | refine zak rfl ?_ | refine zal rfl ?_ | refine zam rfl rfl (fun _ => ?_) (fun _ => ?_) | refine zan rfl ?_ | refine zan rfl ?_ | refine zaa 0 rfl rfl rfl ?_ | refine zaa 1 rfl rfl rfl ?_ | refine zaa 2 rfl rfl rfl ?_ | refine zaa 3 rfl rfl rfl ?_ | refine zaa 4 rfl rfl rfl ?_ | refine zaa 5 rfl rfl rfl ?_ | refine zab 0 rfl rfl rfl ?_ | refine zab 1 rfl rfl rfl ?_ | refine zab 2 rfl rfl rfl ?_ | refine zab 3 rfl rfl rfl ?_ | refine zab 4 rfl rfl rfl ?_ | refine zab 5 rfl rfl rfl ?_ | (refine zai [] (k2 _ (by omega) (by omega)) rfl rfl rfl (fun _ h => h) ?_; rintro v Γ ⟨rfl, L3, rfl, p4, p5, p6⟩) | (refine zai [] (k3 _ (by omega) (by omega)) rfl rfl rfl (fun _ h => h) ?_; rintro v Γ ⟨rfl, L4, rfl, p7, p8, p9⟩) | refine zce rfl ?_ | refine zao rfl ?_ | refine zbg rfl rfl (by omega) ?_ | refine zbh rfl rfl (by omega) ?_ | refine zbm rfl rfl (by omega) ?_ | refine zbn rfl rfl (by omega) ?_ | refine reg_addZ rfl rfl (by omega) ?_ | refine zau rfl rfl (by omega) ?_ | refine zav rfl rfl (by omega) ?_ | refine zbq rfl rfl ?_ | refine zbt rfl rfl ?_ | refine zax rfl rfl (by omega) ?_ | refine zbu rfl ?_ | refine zbv rfl ?_ | refine zbw rfl rfl rfl ?_ | refine zas rfl rfl (by omega) ?_ | refine zat rfl rfl (by omega) ?_) | refine zch ?_ | refine zci rfl ?_ | refine zcj rfl ?_)
    exact cut_end ⟨rfl, (j + 1, L4), ⟨rfl, rfl, int_eq (by dsimp only; omega), trivial⟩, ⟨rfl, by dsimp only; omega, by dsimp only; omega, by dsimp only; omega, by dsimp only; omega, fun h => by dsimp only at h ⊢; rw [hsn]; have h1 := p9 h; have h2 := p6 (by omega); have h3 := p3 (by omega); omega⟩, by dsimp only; omega⟩
  · by_cases hj1 : j < l.length
    · have hL : L < 0 := by omega
      repeat' (first | refine zck ?_ | refine zcp (by kernel_rfl) ?_ | refine zcq PP_mixed (by kernel_rfl) (by kernel_rfl) ?_ | refine zcm ?_ | refine zcl ?_ | refine zcn ?_ | refine zco ?_ | refine zcs rfl ?_ | (refine zap rfl ?_; first | refine zaj rfl ?_ | refine zak rfl ?_ | refine zal rfl ?_ | refine zam rfl rfl (fun _ => ?_) (fun _ => ?_) | refine zan rfl ?_ | refine zan rfl ?_ | refine zaa 0 rfl rfl rfl ?_ | refine zaa 1 rfl rfl rfl ?_ | refine zaa 2 rfl rfl rfl ?_ | refine zaa 3 rfl rfl rfl ?_ | refine zaa 4 rfl rfl rfl ?_ | refine zaa 5 rfl rfl rfl ?_ | refine zab 0 rfl rfl rfl ?_ | refine zab 1 rfl rfl rfl ?_ | refine zab 2 rfl rfl rfl ?_ | refine zab 3 rfl rfl rfl ?_ | refine zab 4 rfl rfl rfl ?_ | refine zab 5 rfl rfl rfl ?_ | refine zce rfl ?_ | refine zao rfl ?_ | refine zbg rfl rfl (by omega) ?_ | refine zbh rfl rfl (by omega) ?_ | refine zbm rfl rfl (by omega) ?_ | refine zbn rfl rfl (by omega) ?_ | refine reg_addZ rfl rfl (by omega) ?_ | refine zau rfl rfl (by omega) ?_ | refine zav rfl rfl (by omega) ?_ | refine zbq rfl rfl ?_ | refine zbt rfl rfl ?_ | refine zax rfl rfl (by omega) ?_ | refine zbu rfl ?_ | refine zbv rfl ?_ | refine zbw rfl rfl rfl ?_ | refine zas rfl rfl (by omega) ?_ | refine zat rfl rfl (by omega) ?_) | refine zch ?_ | refine zci rfl ?_ | refine zcj rfl ?_)
      refine cut_exit rfl rfl ?_
      repeat' (first | refine zck ?_ | refine zcp (by kernel_rfl) ?_ | refine zcq PP_mixed (by kernel_rfl) (by kernel_rfl) ?_ | refine zcm ?_ | refine zcl ?_ | refine zcn ?_ | refine zco ?_ | refine zcs rfl ?_ | (refine zap rfl ?_; first | refine zaj rfl ?_ | refine zak rfl ?_ | refine zal rfl ?_ | refine zam rfl rfl (fun _ => ?_) (fun _ => ?_) | refine zan rfl ?_ | refine zan rfl ?_ | refine zaa 0 rfl rfl rfl ?_ | refine zaa 1 rfl rfl rfl ?_ | refine zaa 2 rfl rfl rfl ?_ | refine zaa 3 rfl rfl rfl ?_ | refine zaa 4 rfl rfl rfl ?_ | refine zaa 5 rfl rfl rfl ?_ | refine zab 0 rfl rfl rfl ?_ | refine zab 1 rfl rfl rfl ?_ | refine zab 2 rfl rfl rfl ?_ | refine zab 3 rfl rfl rfl ?_ | refine zab 4 rfl rfl rfl ?_ | refine zab 5 rfl rfl rfl ?_ | refine zce rfl ?_ | refine zao rfl ?_ | refine zbg rfl rfl (by omega) ?_ | refine zbh rfl rfl (by omega) ?_ | refine zbm rfl rfl (by omega) ?_ | refine zbn rfl rfl (by omega) ?_ | refine reg_addZ rfl rfl (by omega) ?_ | refine zau rfl rfl (by omega) ?_ | refine zav rfl rfl (by omega) ?_ | refine zbq rfl rfl ?_ | refine zbt rfl rfl ?_ | refine zax rfl rfl (by omega) ?_ | refine zbu rfl ?_ | refine zbv rfl ?_ | refine zbw rfl rfl rfl ?_ | refine zas rfl rfl (by omega) ?_ | refine zat rfl rfl (by omega) ?_) | refine zch ?_ | refine zci rfl ?_ | refine zcj rfl ?_)
      exact ret_tmp1 rfl ⟨rfl, L, rfl, q2, q3, fun h => by omega⟩
    · repeat' (first | refine zck ?_ | refine zcp (by kernel_rfl) ?_ | refine zcq PP_mixed (by kernel_rfl) (by kernel_rfl) ?_ | refine zcm ?_ | refine zcl ?_ | refine zcn ?_ | refine zco ?_ | refine zcs rfl ?_ | (refine zap rfl ?_; first | refine zaj rfl ?_ | refine zak rfl ?_ | refine zal rfl ?_ | refine zam rfl rfl (fun _ => ?_) (fun _ => ?_) | refine zan rfl ?_ | refine zan rfl ?_ | refine zaa 0 rfl rfl rfl ?_ | refine zaa 1 rfl rfl rfl ?_ | refine zaa 2 rfl rfl rfl ?_ | refine zaa 3 rfl rfl rfl ?_ | refine zaa 4 rfl rfl rfl ?_ | refine zaa 5 rfl rfl rfl ?_ | refine zab 0 rfl rfl rfl ?_ | refine zab 1 rfl rfl rfl ?_ | refine zab 2 rfl rfl rfl ?_ | refine zab 3 rfl rfl rfl ?_ | refine zab 4 rfl rfl rfl ?_ | refine zab 5 rfl rfl rfl ?_ | refine zce rfl ?_ | refine zao rfl ?_ | refine zbg rfl rfl (by omega) ?_ | refine zbh rfl rfl (by omega) ?_ | refine zbm rfl rfl (by omega) ?_ | refine zbn rfl rfl (by omega) ?_ | refine reg_addZ rfl rfl (by omega) ?_ | refine zau rfl rfl (by omega) ?_ | refine zav rfl rfl (by omega) ?_ | refine zbq rfl rfl ?_ | refine zbt rfl rfl ?_ | refine zax rfl rfl (by omega) ?_ | refine zbu rfl ?_ | refine zbv rfl ?_ | refine zbw rfl rfl rfl ?_ | refine zas rfl rfl (by omega) ?_ | refine zat rfl rfl (by omega) ?_) | refine zch ?_ | refine zci rfl ?_ | refine zcj rfl ?_)
      refine cut_exit rfl rfl ?_
      repeat' (first | refine zck ?_ | refine zcp (by kernel_rfl) ?_ | refine zcq PP_mixed (by kernel_rfl) (by kernel_rfl) ?_ | refine zcm ?_ | refine zcl ?_ | refine zcn ?_ | refine zco ?_ | refine zcs rfl ?_ | (refine zap rfl ?_; first | refine zaj rfl ?_ | refine zak rfl ?_ | refine zal rfl ?_ | refine zam rfl rfl (fun _ => ?_) (fun _ => ?_) | refine zan rfl ?_ | refine zan rfl ?_ | refine zaa 0 rfl rfl rfl ?_ | refine zaa 1 rfl rfl rfl ?_ | refine zaa 2 rfl rfl rfl ?_ | refine zaa 3 rfl rfl rfl ?_ | refine zaa 4 rfl rfl rfl ?_ | refine zaa 5 rfl rfl rfl ?_ | refine zab 0 rfl rfl rfl ?_ | refine zab 1 rfl rfl rfl ?_ | refine zab 2 rfl rfl rfl ?_ | refine zab 3 rfl rfl rfl ?_ | refine zab 4 rfl rfl rfl ?_ | refine zab 5 rfl rfl rfl ?_ | refine zce rfl ?_ | refine zao rfl ?_ | refine zbg rfl rfl (by omega) ?_ | refine zbh rfl rfl (by omega) ?_ | refine zbm rfl rfl (by omega) ?_ | refine zbn rfl rfl (by omega) ?_ | refine reg_addZ rfl rfl (by omega) ?_ | refine zau rfl rfl (by omega) ?_ | refine zav rfl rfl (by omega) ?_ | refine zbq rfl rfl ?_ | refine zbt rfl rfl ?_ | refine zax rfl rfl (by omega) ?_ | refine zbu rfl ?_ | refine zbv rfl ?_ | refine zbw rfl rfl rfl ?_ | refine zas rfl rfl (by omega) ?_ | refine zat rfl rfl (by omega) ?_) | refine zch ?_ | refine zci rfl ?_ | refine zcj rfl ?_)
      exact ret_tmp1 rfl ⟨rfl, L, rfl, q2, q3, fun h => by have := q4 h; rwa [List.take_of_length_le (by omega)] at this⟩
end Go.Proofs.YtjapaghhgpaldaaGreatDoor

