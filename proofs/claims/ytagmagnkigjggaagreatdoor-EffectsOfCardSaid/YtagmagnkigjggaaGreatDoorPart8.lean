import Derived.Test.YtagmagnkigjggaaGreatDoorPart7
/- Lemmas and walks for the claims of this seat (own work): Rn2 Eo7 Eo8 Eo9 Eo10. -/
namespace Sim
theorem normN_both (a b : List ByteArray) : normN (normN a ++ normN b) = normN (a ++ b) := normN_eq fun x => by simp only [List.mem_append, mem_normN]
end Sim
namespace Go.Vc
open Sim
theorem RdEfV.parts {w0 : World} {sh : Shared} {p : P6} {e : Ef} (h : RdEfV w0 sh (efV p e) e) : RdSl w0 sh encY 1 (.slice p.1.1 e.reads.length p.1.2) e.reads ∧ RdSl w0 sh encY 1 (.slice p.2.1.1 e.writes.length p.2.1.2) e.writes ∧ RdSl w0 sh encY 1 (.slice p.2.2.1 e.hosts.length p.2.2.2) e.hosts := by
  obtain ⟨_, e1, v1, v2, v3, rfl, h1, h2, h3⟩ := h
  simp at e1
  obtain ⟨rfl, rfl, rfl⟩ := e1
  exact ⟨h1, h2, h3⟩
end Go.Vc
namespace Go.Proofs.YtagmagnkigjggaaGreatDoor
open Go.Vc Sim
theorem names47_own (w0 : World) (a : Option Addr) (n c : Nat) (cs : List Value) (l : List ByteArray) (hn : l.length = n) (hcs : cs = l.flatMap encY) (hb : l.length ≤ 100000) :
    Vc.Fn PP w0 [] 38 [.slice a n c] [SlA 9 1 a n c cs] (fun r Γ => ∃ a' c', r = .slice a' (normN l).length c' ∧ Γ = [strR w0 a' c' (normN l), strR w0 a c l]) := by
  subst hn; subst hcs
  refine Fn.pre (fun _ : Unit => strR w0 a c l) (fun _ => True) en38 (fun g hg => ⟨(), trivial, Rds.ofSl (encE := encY) (fun _ _ => rfl) rfl g hg⟩) fun _ _ => ?_
  refine (Fn.lendR (φ := fun bl => RdSl w0 bl encY 1 (.slice a l.length c) l) en38 (fun sh1 bl h1 h2 h3 => names47_spec w0 sh1 _ l (h3.mono h2) hb)).mono ?_
  rintro v Γ ⟨_, ⟨a', c', rfl, rfl⟩, rfl⟩
  exact ⟨a', c', rfl, rfl⟩
set_option maxHeartbeats 4000000 in
theorem rjoin_spec (w0 : World) (sh : Shared) (p q : P6) (a b : Ef) (ha : RdEfV w0 sh (efV p a) a) (hb : RdEfV w0 sh (efV q b) b) (sa : a.sm 30000) (sb : b.sm 30000) :
    Vc.Fn PP w0 sh 24 [efV p a, efV q b] [] (fun v Γ => ∃ r : P6, v = efV r (joinE a b) ∧ Γ = [rdV w0 (efV r (joinE a b)) (joinE a b)]) := by
  have k1 := right_spec w0 sh _ a ha (sa.mono (by omega))
  have k2 := right_spec w0 sh _ b hb (sb.mono (by omega))
  have s1 := rightE_sm sa
  have s2 := rightE_sm sb
  have c1 := bndC_range a.calls
  have c2 := bndC_range b.calls
  have hJ : joinE a b = ⟨normN ((rightE a).reads ++ (rightE b).reads), normN ((rightE a).writes ++ (rightE b).writes), normN ((rightE a).hosts ++ (rightE b).hosts), if (rightE a).calls < 4611686018427387904 - (rightE b).calls then (rightE a).calls + (rightE b).calls else 4611686018427387904⟩ := by
    show Ef.mk _ _ _ (sumC a.calls b.calls) = _
    unfold rightE
    simp only [normN_both]
    congr 1
    unfold sumC mostC at *
    split <;> split <;> omega
  have c1 : 0 ≤ (rightE a).calls ∧ (rightE a).calls ≤ 4611686018427387904 := c1
  have c2 : 0 ≤ (rightE b).calls ∧ (rightE b).calls ≤ 4611686018427387904 := c2
  rw [hJ]
  clear hJ
  generalize rightE a = A at *
  generalize rightE b = B at *
  refine fn_of_run en24 fn24 rfl rfl rfl ?_
  repeat (first | refine zck ?_ | refine zcl ?_ | refine zcm ?_ | refine zcn ?_)
  first | refine zcp (by kernel_rfl) ?_ | refine zcq PP_mixed (by kernel_rfl) (by kernel_rfl) ?_
  repeat' (refine zap rfl ?_; first | refine zaq (cs := [_, _, _, _]) rfl (fun nb => ?_) | refine zar (fun nb => ?_))
  all_goals refine zch ?_
  all_goals repeat (first | refine zck ?_ | refine zcl ?_ | refine zcm ?_ | refine zcn ?_)
  refine run_share [0] rfl ?_
  refine run_share [0] rfl ?_
  obtain ⟨b4, hb4⟩ : ∃ b, b = nb := ⟨_, rfl⟩
  subst hb4
  repeat (first | refine zck ?_ | refine zcl ?_ | refine zcm ?_ | refine zcn ?_)
  first | refine zcp (by kernel_rfl) ?_ | refine zcq PP_mixed (by kernel_rfl) (by kernel_rfl) ?_
  repeat' (refine zap rfl ?_; first | refine zar (fun t5 => ?_) | refine zaa 0 rfl rfl rfl ?_ | refine zaa 1 rfl rfl rfl ?_ | (refine zai [] k1 rfl rfl rfl (fun p hp => by simp [hp]) ?_; rintro v Γ ⟨r1, rfl, rfl⟩) | (refine zai [] k2 rfl rfl rfl (fun p hp => by simp [hp]) ?_; rintro v Γ ⟨r2, rfl, rfl⟩) | refine zae 3 rfl rfl rfl rfl rfl rfl rfl ?_ | refine zae 4 rfl rfl rfl rfl rfl rfl rfl ?_)
  all_goals refine zch ?_
  all_goals repeat (first | refine zck ?_ | refine zcl ?_ | refine zcm ?_ | refine zcn ?_)
  rename_i t5a
  refine run_share [3] rfl ?_
  refine run_share [3] rfl ?_
  refine run_shareB [1] rfl (fun bA hA => ?_)
  refine run_shareB [0] rfl (fun bB hB => ?_)
  obtain ⟨A1, A2, A3⟩ := hA.parts
  obtain ⟨B1, B2, B3⟩ := hB.parts
  have hsA : ∀ (sh0 : Shared) (p : Nat × Obj), p ∈ bA → p ∈ (sh0 ++ bA) ++ bB := fun sh0 p hp => List.mem_append_left _ (List.mem_append_right _ hp)
  have hsB : ∀ (sh0 : Shared) (p : Nat × Obj), p ∈ bB → p ∈ (sh0 ++ bA) ++ bB := fun sh0 p hp => List.mem_append_right _ hp
  have hone : ∀ m : List ByteArray, allOne (m.flatMap encY) = true := fun m => by rw [← unB_map m, ← strsV_y]; exact strsV_one _
  obtain ⟨S1, S2, S3⟩ := s1
  obtain ⟨U1, U2, U3⟩ := s2
  obtain ⟨C, hC⟩ : ∃ C, (if A.calls < 4611686018427387904 - B.calls then A.calls + B.calls else 4611686018427387904) = C := ⟨_, rfl⟩
  rw [hC]
  repeat (first | refine zck ?_ | refine zcl ?_ | refine zcm ?_ | refine zcn ?_)
  first | refine zcp (by kernel_rfl) ?_ | refine zcq PP_mixed (by kernel_rfl) (by kernel_rfl) ?_
  repeat' (refine zap rfl ?_; first | refine zan rfl ?_)
  all_goals refine zch ?_
  all_goals repeat (first | refine zck ?_ | refine zcl ?_ | refine zcm ?_ | refine zcn ?_)
  repeat (first | refine zck ?_ | refine zcl ?_ | refine zcm ?_ | refine zcn ?_)
  first | refine zcp (by kernel_rfl) ?_ | refine zcq PP_mixed (by kernel_rfl) (by kernel_rfl) ?_
  repeat' (refine zap rfl ?_; first | refine zaa 0 rfl rfl rfl ?_ | refine zaa 1 rfl rfl rfl ?_ | refine zao rfl ?_ | refine zav rfl rfl (by omega) ?_ | refine zbq rfl rfl ?_)
  all_goals refine zch ?_
  all_goals repeat (refine zck ?_)
  refine run_bind_eq (l' := [(4, .pointer (some ⟨b4, 0, none⟩)), (5, .pointer (some ⟨t5a, 0, none⟩)), (6, .pointer (some ⟨t5, 0, none⟩)), (7, .int .i64 C)]) (Γ' := [pt b4 (.cells (List.toArray (efL p0 zeroE)) 41 (0, 0))]) ?_ ?_
  · refine run_cond rfl (fun hX => ?_) (fun hX => ?_)
    · rw [if_pos hX] at hC
      subst hC
      repeat' (first | refine zcp (by kernel_rfl) ?_ | (refine zap rfl ?_; first | refine zan rfl ?_ | refine zaa 0 rfl rfl rfl ?_ | refine zaa 1 rfl rfl rfl ?_ | refine zao rfl ?_ | refine zau rfl rfl (by omega) ?_) | refine zch ?_)
      exact cut_end ⟨rfl, ⟨rfl, rfl, rfl, rfl, trivial⟩, rfl⟩
    · rw [if_neg hX] at hC
      subst hC
      repeat' (first | refine zcm ?_ | (refine zap rfl ?_; first | refine zan rfl ?_) | refine zch ?_)
      exact cut_end ⟨rfl, ⟨rfl, rfl, rfl, rfl, trivial⟩, rfl⟩
  · intro junk
    repeat' (first | refine zck ?_ | refine zcq PP_mixed (by kernel_rfl) (by kernel_rfl) ?_ | (refine zap rfl ?_; first | refine reg_buildSlice rfl rfl rfl rfl rfl rfl (fun nb => ?_) | refine zae 6 rfl rfl rfl rfl rfl rfl rfl ?_ | refine zan rfl ?_ | refine zaa 0 rfl rfl rfl ?_ | refine zaa 1 rfl rfl rfl ?_ | (refine reg_own 1 rfl rfl (len := 0) (cap := 0) (sz := 1) ⟨rfl, Nat.le_refl _, Nat.le_refl _⟩ rfl ?_; refine reg_append_rdE 1 rfl rfl (A1.mono (hsA _)) (by decide) (hone _) rfl rfl (by omega) (fun _ _ => rfl) (fun a3 c3 => ?_)) | refine reg_append_rdE 1 rfl rfl (B1.mono (hsB _)) (by decide) (hone _) rfl rfl (by omega) (fun _ _ => rfl) (fun a4 c4 => ?_) | (refine zai [1] (names47_own w0 _ _ _ _ (A.reads ++ B.reads) (by rw [List.length_append, Nat.zero_add]) (by rw [List.flatMap_append]; rfl) (by rw [List.length_append]; omega)) rfl rfl rfl sub_nil ?_; rintro v Γ ⟨x1, y1, rfl, rfl⟩) | (refine reg_own 3 rfl rfl (len := 0) (cap := 0) (sz := 1) ⟨rfl, Nat.le_refl _, Nat.le_refl _⟩ rfl ?_; refine reg_append_rdE 3 rfl rfl (A2.mono (hsA _)) (by decide) (hone _) rfl rfl (by omega) (fun _ _ => rfl) (fun a3 c3 => ?_)) | refine reg_append_rdE 3 rfl rfl (B2.mono (hsB _)) (by decide) (hone _) rfl rfl (by omega) (fun _ _ => rfl) (fun a4 c4 => ?_) | (refine zai [3] (names47_own w0 _ _ _ _ (A.writes ++ B.writes) (by rw [List.length_append, Nat.zero_add]) (by rw [List.flatMap_append]; rfl) (by rw [List.length_append]; omega)) rfl rfl rfl sub_nil ?_; rintro v Γ ⟨x2, y2, rfl, rfl⟩) | (refine reg_own 5 rfl rfl (len := 0) (cap := 0) (sz := 1) ⟨rfl, Nat.le_refl _, Nat.le_refl _⟩ rfl ?_; refine reg_append_rdE 5 rfl rfl (A3.mono (hsA _)) (by decide) (hone _) rfl rfl (by omega) (fun _ _ => rfl) (fun a3 c3 => ?_)) | refine reg_append_rdE 5 rfl rfl (B3.mono (hsB _)) (by decide) (hone _) rfl rfl (by omega) (fun _ _ => rfl) (fun a4 c4 => ?_) | (refine zai [5] (names47_own w0 _ _ _ _ (A.hosts ++ B.hosts) (by rw [List.length_append, Nat.zero_add]) (by rw [List.flatMap_append]; rfl) (by rw [List.length_append]; omega)) rfl rfl rfl sub_nil ?_; rintro v Γ ⟨x3, y3, rfl, rfl⟩) | refine zao rfl ?_ | refine zcb rfl ?_) | refine zch ?_)
    refine run_joinR [4, 2] (χ := fun bl => RdSl w0 bl encY 1 (.slice x1 (normN (A.reads ++ B.reads)).length y1) (normN (A.reads ++ B.reads)) ∧ RdSl w0 bl encY 1 (.slice x2 (normN (A.writes ++ B.writes)).length y2) (normN (A.writes ++ B.writes))) rfl
      (fun b1 b2 h1 h2 => ⟨h1.mono fun p hp => List.mem_append_left _ hp, h2.mono fun p hp => List.mem_append_right _ hp⟩) ?_
    refine run_joinR [0, 0] (χ := fun bl => RdEfV w0 bl (efV ((x1, y1), (x2, y2), (x3, y3)) ⟨normN (A.reads ++ B.reads), normN (A.writes ++ B.writes), normN (A.hosts ++ B.hosts), C⟩) ⟨normN (A.reads ++ B.reads), normN (A.writes ++ B.writes), normN (A.hosts ++ B.hosts), C⟩) rfl
      (fun b1 b2 h1 h2 => ⟨_, rfl, _, _, _, rfl, h1.1.mono fun p hp => List.mem_append_left _ hp, h1.2.mono fun p hp => List.mem_append_left _ hp, h2.mono fun p hp => List.mem_append_right _ hp⟩) ?_
    exact run_ret (leaves_nil (ends_take [0] rfl (ends_one rfl (resOk_pt 4 rfl rfl rfl) ⟨rfl, ((x1, y1), (x2, y2), (x3, y3)), rfl, rfl⟩)))
end Go.Proofs.YtagmagnkigjggaaGreatDoor

namespace Go.Proofs.YtagmagnkigjggaaGreatDoor
open Go.Vc Sim
theorem rjoin_p (w0 : World) (sh : Shared) (p q : P6) (a b : Ef) (sa : a.sm 30000) (sb : b.sm 30000) :
    Vc.Fn PP w0 sh 24 [efV p a, efV q b] [rdV w0 (efV p a) a, rdV w0 (efV q b) b] (fun v Γ => ∃ r : P6, v = efV r (joinE a b) ∧ Γ = [rdV w0 (efV r (joinE a b)) (joinE a b), rdV w0 (efV q b) b, rdV w0 (efV p a) a]) := by
  refine (Fn.lendR (φ := fun bl => RdEfV w0 bl (efV p a) a) en24 (fun sh1 bl1 h1 h2 h3 => Fn.lendR (φ := fun bl => RdEfV w0 bl (efV q b) b) en24 (fun sh2 bl2 g1 g2 g3 => rjoin_spec w0 sh2 p q a b (h3.mono fun p hp => g1 p (h2 p hp)) (g3.mono g2) sa sb))).mono ?_
  rintro v Γ ⟨_, ⟨_, ⟨r, rfl, rfl⟩, rfl⟩, rfl⟩
  exact ⟨r, rfl, rfl⟩
end Go.Proofs.YtagmagnkigjggaaGreatDoor

namespace Sim
theorem PE.sizeL_app : ∀ a b : List PE, PE.sizeL (a ++ b) = PE.sizeL a + PE.sizeL b
  | [], b => by rw [List.nil_append, PE.sizeL]; omega
  | x :: a, b => by rw [List.cons_append, PE.sizeL, PE.sizeL, PE.sizeL_app a b]; omega
end Sim
namespace Go.Vc
open Sim
theorem RdEs.app {w0 : World} {sh : Shared} : ∀ {l l' : List PE} {cl cl' : List (List Value)}, RdEs w0 sh l cl → RdEs w0 sh l' cl' → RdEs w0 sh (l ++ l') (cl ++ cl')
  | [], _, _, _, h, h2 => by unfold RdEs at h; rw [h]; exact h2
  | e :: l, _, _, _, h, h2 => by
    unfold RdEs at h
    obtain ⟨c, cl', rfl, h3, h4⟩ := h
    rw [List.cons_append]
    unfold RdEs
    exact ⟨c, _, rfl, h3, RdEs.app h4 h2⟩
theorem RdEs.flat {w0 : World} {sh : Shared} : ∀ {l : List PE} {cl : List (List Value)}, RdEs w0 sh l cl → allOne (cl.flatMap fun x => x) = true ∧ ∀ c ∈ cl, c.length = 6
  | [], _, h => by unfold RdEs at h; rw [h]; exact ⟨rfl, by simp⟩
  | .mk _ _ _ _ _ _ :: l, _, h => by
    unfold RdEs at h
    obtain ⟨c, cl', rfl, h2, h3⟩ := h
    obtain ⟨i1, i2⟩ := RdEs.flat h3
    unfold RdE at h2
    obtain ⟨va, vo, c3, c4, rfl, ha, _, ho, _⟩ := h2
    obtain ⟨x3, y3, rfl, _⟩ := ha
    obtain ⟨x4, y4, rfl, _⟩ := ho
    refine ⟨?_, fun c hc => ?_⟩
    · rw [List.flatMap_cons]
      exact allOne_app rfl i1
    · rcases List.mem_cons.1 hc with rfl | hc
      · rfl
      · exact i2 c hc
abbrev encMR (x : MR) : List Value := [.string x.1, .string x.2.1, .bool x.2.2]
end Go.Vc

namespace Go.Proofs.YtagmagnkigjggaaGreatDoor
open Go.Vc Sim
abbrev rPt (b : Nat) (p : P6) (e : Ef) : Asn := pt b (.cells (List.toArray (efL p e)) 41 (0, 0))
theorem refE_sm {st : List (ByteArray × ByteArray)} {ml : List MR} (hM : MlOk ml) (e : PE) : (refE st ml e).1.sm e.size := by
  rw [refE_own hM]
  unfold ansE
  split
  · exact (zeroE_sm 0).mono (by omega)
  · exact exprE_sm st e 0
theorem rjoin_l (w0 : World) (sh : Shared) (p q : P6) (a b : Ef) (hb : RdEfV w0 sh (efV q b) b) (sa : a.sm 30000) (sb : b.sm 30000) :
    Vc.Fn PP w0 sh 24 [efV p a, efV q b] [rdV w0 (efV p a) a] (fun v Γ => ∃ r : P6, v = efV r (joinE a b) ∧ Γ = [rdV w0 (efV r (joinE a b)) (joinE a b), rdV w0 (efV p a) a]) := by
  refine (Fn.lendR (φ := fun bl => RdEfV w0 bl (efV p a) a) en24 (fun sh1 bl1 h1 h2 h3 => rjoin_spec w0 sh1 p q a b (h3.mono h2) (hb.mono h1) sa sb)).mono ?_
  rintro v Γ ⟨_, ⟨r, rfl, rfl⟩, rfl⟩
  exact ⟨r, rfl, rfl⟩
theorem rjoin_name (w0 : World) (q : P6) (a : Ef) (nm : ByteArray) (s : Nat) (sa : a.sm 30000) :
    Vc.Fn PP w0 [] 24 [efV q a, efV ((none, 0), (none, 0), (some ⟨s, 0, none⟩, 1)) ⟨[], [], [nm], 0⟩] [rdV w0 (efV q a) a, pt s (.cells (List.toArray [Value.string nm]) 9 (0, 0))]
      (fun v Γ => ∃ r : P6, v = efV r (joinE a ⟨[], [], [nm], 0⟩) ∧ Γ = [rdV w0 (efV r (joinE a ⟨[], [], [nm], 0⟩)) (joinE a ⟨[], [], [nm], 0⟩), pt s (.cells (List.toArray [Value.string nm]) 9 (0, 0)), rdV w0 (efV q a) a]) := by
  refine (Fn.lendR (φ := fun bl => RdEfV w0 bl (efV q a) a) en24 (fun sh1 bl h1 h2 h3 => (rjoin_spec w0 ((s, Obj.cells (List.toArray [Value.string nm]) 9 (0, 0)) :: sh1) q ((none, 0), (none, 0), (some ⟨s, 0, none⟩, 1)) a ⟨[], [], [nm], 0⟩ (h3.mono fun p hp => List.mem_cons_of_mem _ (h2 p hp))
      ⟨_, rfl, _, _, _, rfl, RdSl.nil, RdSl.nil, RdSl.flat (encE := encY) (q := 1) (w0 := w0) (b := s) (l := [nm]) (fun _ _ => rfl) (.head _)⟩ sa ⟨Nat.zero_le _, Nat.zero_le _, by simp⟩).owned)).mono ?_
  rintro v Γ ⟨_, ⟨_, ⟨r, rfl, rfl⟩, rfl⟩, rfl⟩
  exact ⟨r, rfl, rfl⟩
def RXSpec (w0 : World) (st : List (ByteArray × ByteArray)) (ml : List MR) (n : Nat) : Prop := ∀ (sh : Shared) (ws : Value) (am : Option Addr) (cm : Nat) (e : PE) (va vo : Value), e.size ≤ n → RdSl w0 sh encD 2 ws st → RdSl w0 sh encMR 3 (.slice am ml.length cm) ml → RdEl w0 sh va e.args → RdEl w0 sh vo e.or →
  Vc.Fn PP w0 sh 22 [.agg #[ws, .slice am ml.length cm], .agg (List.toArray (peC e.kind e.num e.name e.meth va vo))] []
    (fun v Γ => ∃ q : P6, v = .tuple #[efV q (refE st ml e).1, .int .i64 (refE st ml e).2] ∧ Γ = [rdV w0 (efV q (refE st ml e).1) (refE st ml e).1])
set_option maxHeartbeats 8000000 in
theorem rexpr_step (w0 : World) (st : List (ByteArray × ByteArray)) (ml : List MR) (hM : MlOk ml) (hst : st.length ≤ 1000000) (hml : ml.length ≤ 1000000) (n : Nat) (hn : n ≤ 10000) (hE : RXSpec w0 st ml n) : RXSpec w0 st ml (n + 1) := by
  intro sh ws am cm e va vo hs hW hL ha ho
  have hkd := rkind_spec w0 sh ws am ml.length cm st e.name hW hst
  have h1 := e.size_eq
  have h2 := fun (x : PE) (h : x ∈ e.args) => PE.size_args h
  have h3 := fun (x : PE) (h : x ∈ e.or) => PE.size_or h
  have hla := PE.sizeL_len e.args
  have hlo := PE.sizeL_len e.or
  obtain ⟨cla, hca, hea⟩ := id ha
  obtain ⟨clo, hco, heo⟩ := id ho
  have na := hea.len
  have no := heo.len
  obtain ⟨ona, s6a⟩ := hea.flat
  obtain ⟨ono, s6o⟩ := heo.flat
  obtain ⟨a1, c1, hva, _⟩ := id ha.len
  obtain ⟨a2, c2, hvo, _⟩ := id ho.len
  subst hva; subst hvo
  have hcal : RdC w0 sh 6 (.slice a1 e.args.length c1) cla := hca
  have hcol : RdC w0 sh 6 (.slice a2 e.or.length c2) clo := hco
  rw [← na] at hcal
  rw [← no] at hcol
  obtain ⟨aw, cw, hws, hcw, _⟩ := id hW
  subst hws
  have hsz := PE.sizeL_app e.args e.or
  have hmem : ∀ x ∈ e.args ++ e.or, x.size ≤ n := fun x hx => by
    rcases List.mem_append.1 hx with hx | hx
    · have := h2 x hx; omega
    · have := h3 x hx; omega
  have hln : (e.args ++ e.or).length = cla.length + clo.length := by rw [List.length_append, na, no]
  have hes : ∀ (sh' : Shared), (∀ p ∈ sh, p ∈ sh') → RdEs w0 sh' (e.args ++ e.or) (cla ++ clo) := fun sh' h => (hea.mono h).app (heo.mono h)
  have s6 : ∀ c ∈ cla ++ clo, c.length = 6 := fun c hc => by
    rcases List.mem_append.1 hc with hc | hc
    · exact s6a c hc
    · exact s6o c hc
  obtain ⟨l, hl⟩ : ∃ l, l = e.args ++ e.or := ⟨_, rfl⟩
  rw [← hl] at hln hes hsz hmem
  rw [← na, ← no]
  obtain ⟨O, hO⟩ : ∃ O, refE st ml e = O := ⟨_, rfl⟩
  rw [hO]
  rw [refE_app, ← hl] at hO
  refine fn_of_run en22 fn22 rfl rfl rfl ?_
  repeat (first | refine zck ?_ | refine zcl ?_ | refine zcm ?_ | refine zcn ?_)
  first | refine zcp (by kernel_rfl) ?_ | refine zcq PP_mixed (by kernel_rfl) (by kernel_rfl) ?_
  repeat' (refine zap rfl ?_; first | refine zaq (cs := [_, _]) rfl (fun bw => ?_) | refine zaq (cs := [_, _, _, _, _, _]) rfl (fun be => ?_) | refine zar (fun b4 => ?_) | refine zan rfl ?_)
  all_goals refine zch ?_
  all_goals repeat (first | refine zck ?_ | refine zcl ?_ | refine zcm ?_ | refine zcn ?_)
  refine run_share [0] rfl ?_
  refine run_share [0] rfl ?_
  repeat (first | refine zck ?_ | refine zcl ?_ | refine zcm ?_ | refine zcn ?_)
  first | refine zcp (by kernel_rfl) ?_ | refine zcq PP_mixed (by kernel_rfl) (by kernel_rfl) ?_
  repeat' (refine zap rfl ?_; first | refine zar (fun ob => ?_))
  all_goals refine zch ?_
  all_goals repeat (first | refine zck ?_ | refine zcl ?_ | refine zcm ?_ | refine zcn ?_)
  refine run_emptyR (fun bl => RdEfV w0 bl (efV p0 zeroE) zeroE) RdEfV.zero ?_
  repeat (first | refine zck ?_ | refine zcl ?_ | refine zcm ?_ | refine zcn ?_)
  first | refine zcp (by kernel_rfl) ?_ | refine zcq PP_mixed (by kernel_rfl) (by kernel_rfl) ?_
  repeat' (refine zap rfl ?_; first | refine reg_buildSlice rfl rfl rfl rfl rfl rfl (fun nb9 => ?_) | refine zan rfl ?_ | refine zaa 0 rfl rfl rfl ?_ | (refine reg_own 3 rfl rfl (len := 0) (cap := 0) (sz := 6) ⟨rfl, Nat.le_refl _, Nat.le_refl _⟩ rfl ?_; refine reg_append_rdE 3 rfl rfl (hcal.mono fun p hp => by simp [hp]) (by decide) ona rfl rfl (by omega) (fun _ _ => rfl) (fun a5 c5 => ?_)) | refine reg_append_rdE 3 rfl rfl (hcol.mono fun p hp => by simp [hp]) (by decide) ono rfl rfl (by omega) (fun _ _ => rfl) (fun a6 c6 => ?_) | refine zce rfl ?_ | refine zao rfl ?_)
  all_goals refine zch ?_
  all_goals repeat (first | refine zck ?_ | refine zcl ?_ | refine zcm ?_ | refine zcn ?_)
  refine run_slR (fun x : List Value => x) 3 (l := cla ++ clo) rfl (by rw [List.flatMap_append]; rfl) s6 (by rw [List.length_append, Nat.zero_add]) rfl ?_
  refine run_shareB [3] rfl (fun bl hbl => ?_)
  have hl2 : RdEl w0 (((be, Obj.cells (List.toArray (peC e.kind e.num e.name e.meth (.slice a1 cla.length c1) (.slice a2 clo.length c2))) 74 (0, 0)) :: (bw, Obj.cells (List.toArray [.slice aw st.length cw, .slice am ml.length cm]) 48 (0, 0)) :: sh) ++ bl) (.slice a6 (0 + cla.length + clo.length) c6) l := ⟨cla ++ clo, hbl.mono (fun p hp => by simp [hp]), hes _ (fun p hp => by simp [hp])⟩
  repeat (first | refine zck ?_ | refine zcl ?_ | refine zcm ?_ | refine zcn ?_)
  first | refine zcp (by kernel_rfl) ?_ | refine zcq PP_mixed (by kernel_rfl) (by kernel_rfl) ?_
  repeat' (refine zap rfl ?_; first | refine zan rfl ?_)
  all_goals refine zch ?_
  all_goals repeat (first | refine zck ?_ | refine zcl ?_ | refine zcm ?_ | refine zcn ?_)
  refine run_take [2, 0, 0] rfl ?_
  repeat (first | refine zck ?_ | refine zcl ?_ | refine zcm ?_ | refine zcn ?_ | refine zco ?_)
  refine run_loop (S := Nat × P6 × Ef) (fun s => [(2, .pointer (some ⟨bw, 0, none⟩)), (3, .pointer (some ⟨be, 0, none⟩)), (4, .pointer (some ⟨b4, 0, none⟩)), (6, .pointer (some ⟨ob, 0, none⟩)), (7, .slice a6 (0 + cla.length + clo.length) c6), (8, .int .i64 s.1)])
    (fun s Γ => Γ = [rPt ob s.2.1 s.2.2, rdV w0 (efV s.2.1 s.2.2) s.2.2, rPt b4 p0 zeroE] ∧ s.1 ≤ l.length ∧ refEs st ml (l.drop s.1) s.2.2 = refEs st ml l zeroE ∧ ∃ M, s.2.2.sm M ∧ M + PE.sizeL (l.drop s.1) ≤ 30000) (fun s => l.length - s.1) (0, p0, zeroE)
    ⟨rfl, rfl, rfl, rfl, rfl, rfl, trivial⟩ ⟨rfl, Nat.zero_le _, rfl, 0, zeroE_sm 0, by rw [List.drop_zero]; omega⟩ ?_
  rintro ⟨j, q, o⟩ Γ junk ⟨rfl, g1, g2, M, g3, g4⟩
  dsimp only at g1 g2 g3 g4 ⊢
  by_cases hj : j < l.length
  · obtain ⟨x, hx⟩ : ∃ x, l[j]? = some x := ⟨_, List.getElem?_eq_getElem hj⟩
    obtain ⟨b, off, cc, T, fr, cs, rfl, e2, e3, e4, _⟩ := hl2.at hx
    obtain ⟨va, vo, rfl, r1, r2⟩ := e4.cs
    have hxn := hmem x (List.mem_iff_getElem?.2 ⟨_, hx⟩)
    obtain ⟨a3, c3, hv3, _⟩ := id r1.len
    obtain ⟨a4, c4, hv4, _⟩ := id r2.len
    subst hv3
    subst hv4
    have hd : l.drop j = x :: l.drop (j + 1) := by
      rw [List.drop_eq_getElem_cons hj]
      congr 1
      exact (List.getElem?_eq_some_iff.1 hx).2
    rw [hd, PE.sizeL] at g4
    have hcall := hE _ _ am cm x _ _ hxn (hW.mono fun p hp => List.mem_append_left _ (List.mem_cons_of_mem _ (List.mem_cons_of_mem _ hp))) (hL.mono fun p hp => List.mem_append_left _ (List.mem_cons_of_mem _ (List.mem_cons_of_mem _ hp))) r1 r2
    have hsx := refE_sm (st := st) hM x
    rw [refEs_drop hx] at g2
    generalize refE st ml x = X at *
    obtain ⟨X, cX⟩ := X
    dsimp only at *
    have hjoin := fun q' => rjoin_p w0 [] q q' o X (g3.mono (by omega)) (hsx.mono (by omega))
    have hnext : (joinE o X).sm (M + x.size) := joinE_sm g3 hsx
    repeat (first | refine zck ?_ | refine zcl ?_ | refine zcm ?_ | refine zcn ?_)
    first | refine zcp (by kernel_rfl) ?_ | refine zcq PP_mixed (by kernel_rfl) (by kernel_rfl) ?_
    repeat' (refine zap rfl ?_; first | refine zan rfl ?_ | refine zce rfl ?_ | refine zbg rfl rfl (by omega) ?_)
    all_goals refine zch ?_
    all_goals repeat (first | refine zck ?_ | refine zcl ?_ | refine zcm ?_ | refine zcn ?_)
    refine zci rfl ?_
    repeat (first | refine zck ?_ | refine zcl ?_ | refine zcm ?_ | refine zcn ?_)
    first | refine zcp (by kernel_rfl) ?_ | refine zcq PP_mixed (by kernel_rfl) (by kernel_rfl) ?_
    repeat' (refine zap rfl ?_; first | refine zad rfl e2 (e3 _ (by omega)) ?_ | refine zar (fun t9 => ?_) | refine zan rfl ?_ | refine zan rfl ?_ | refine zaa 1 rfl rfl rfl ?_ | (refine zai [] hcall rfl rfl rfl (fun _ h => h) ?_; rintro v Γ ⟨q', rfl, rfl⟩) | refine zan rfl ?_ | refine zae 4 rfl rfl rfl rfl rfl rfl rfl ?_ | refine zas rfl rfl (by omega) ?_)
    all_goals refine zch ?_
    all_goals repeat (first | refine zck ?_ | refine zcl ?_ | refine zcm ?_ | refine zcn ?_)
    by_cases hc : cX = 0
    · rw [if_neg (by omega)] at g2
      repeat (first | refine zck ?_ | refine zcl ?_ | refine zcm ?_ | refine zcn ?_)
      first | refine zcp (by kernel_rfl) ?_ | refine zcq PP_mixed (by kernel_rfl) (by kernel_rfl) ?_
      repeat' (refine zap rfl ?_; first | refine zan rfl ?_ | refine zbf rfl rfl (by omega) ?_)
      all_goals refine zch ?_
      all_goals repeat (first | refine zck ?_ | refine zcl ?_ | refine zcm ?_ | refine zcn ?_)
      refine zcj rfl ?_
      repeat (first | refine zck ?_ | refine zcl ?_ | refine zcm ?_ | refine zcn ?_)
      first | refine zcp (by kernel_rfl) ?_ | refine zcq PP_mixed (by kernel_rfl) (by kernel_rfl) ?_
      repeat' (refine zap rfl ?_; first | refine zab 1 rfl rfl rfl ?_ | refine zab 4 rfl rfl rfl ?_ | (refine zai [2, 0] (hjoin _) rfl rfl rfl sub_nil ?_; rintro v Γ ⟨r, rfl, rfl⟩) | refine zae 3 rfl rfl rfl rfl rfl rfl rfl ?_)
      all_goals refine zch ?_
      all_goals repeat (first | refine zck ?_ | refine zcl ?_ | refine zcm ?_ | refine zcn ?_)
      refine run_take [3, 0, 2] rfl ?_
      repeat' (first | refine zcp (by kernel_rfl) ?_ | (refine zap rfl ?_; first | refine zan rfl ?_ | refine zan rfl ?_ | refine zau rfl rfl (by omega) ?_) | refine zch ?_)
      exact cut_end ⟨rfl, (j + 1, r, joinE o X), ⟨rfl, rfl, rfl, rfl, rfl, int_eq (by dsimp only; omega), trivial⟩, ⟨rfl, by dsimp only; omega, g2, _, hnext, by dsimp only; omega⟩, by dsimp only; omega⟩
    · rw [if_pos hc] at g2
      rw [← g2, if_pos hc] at hO
      subst hO
      repeat (first | refine zck ?_ | refine zcl ?_ | refine zcm ?_ | refine zcn ?_)
      first | refine zcp (by kernel_rfl) ?_ | refine zcq PP_mixed (by kernel_rfl) (by kernel_rfl) ?_
      repeat' (refine zap rfl ?_; first | refine zan rfl ?_ | refine zbe rfl rfl (by omega) ?_)
      all_goals refine zch ?_
      all_goals repeat (first | refine zck ?_ | refine zcl ?_ | refine zcm ?_ | refine zcn ?_)
      refine zci rfl ?_
      repeat (first | refine zck ?_ | refine zcl ?_ | refine zcm ?_ | refine zcn ?_)
      first | refine zcp (by kernel_rfl) ?_ | refine zcq PP_mixed (by kernel_rfl) (by kernel_rfl) ?_
      repeat' (refine zap rfl ?_; first | refine zan rfl ?_ | refine zan rfl ?_ | refine zae 3 rfl rfl rfl rfl rfl rfl rfl ?_ | refine zcb rfl ?_)
      all_goals refine zch ?_
      all_goals repeat (first | refine zck ?_ | refine zcl ?_ | refine zcm ?_ | refine zcn ?_)
      refine run_emptyR (fun bl => RdEfV w0 bl (efV p0 zeroE) zeroE) RdEfV.zero ?_
      exact cut_ret (leaves_nil (ends_take [0] rfl (ends_two rfl (resOk_pt 4 rfl rfl rfl) rfl ⟨rfl, p0, rfl, rfl⟩)))
  · rw [List.drop_of_length_le (by omega), refEs] at g2
    rw [← g2, if_neg (fun h => h rfl)] at hO
    dsimp only at hO
    have g3' : o.sm 30000 := g3.mono (by omega)
    repeat (first | refine zck ?_ | refine zcl ?_ | refine zcm ?_ | refine zcn ?_)
    first | refine zcp (by kernel_rfl) ?_ | refine zcq PP_mixed (by kernel_rfl) (by kernel_rfl) ?_
    repeat' (refine zap rfl ?_; first | refine zan rfl ?_ | refine zce rfl ?_ | refine zbh rfl rfl (by omega) ?_)
    all_goals refine zch ?_
    all_goals repeat (first | refine zck ?_ | refine zcl ?_ | refine zcm ?_ | refine zcn ?_)
    refine zcj rfl ?_
    refine cut_exit rfl rfl ?_
    repeat (first | refine zck ?_ | refine zcl ?_ | refine zcm ?_ | refine zcn ?_ | refine zco ?_)
    by_cases h7 : e.kind = 7
    · rw [if_pos h7] at hO
      subst hO
      repeat (first | refine zck ?_ | refine zcl ?_ | refine zcm ?_ | refine zcn ?_)
      first | refine zcp (by kernel_rfl) ?_ | refine zcq PP_mixed (by kernel_rfl) (by kernel_rfl) ?_
      repeat' (refine zap rfl ?_; first | refine zaa 0 rfl rfl rfl ?_ | refine zao rfl ?_ | refine zbc rfl rfl (by omega) ?_)
      all_goals refine zch ?_
      all_goals repeat (first | refine zck ?_ | refine zcl ?_ | refine zcm ?_ | refine zcn ?_)
      refine zci rfl ?_
      repeat (first | refine zck ?_ | refine zcl ?_ | refine zcm ?_ | refine zcn ?_)
      first | refine zcp (by kernel_rfl) ?_ | refine zcq PP_mixed (by kernel_rfl) (by kernel_rfl) ?_
      repeat' (refine zap rfl ?_; first | refine reg_buildSlice rfl rfl rfl rfl rfl rfl (fun s1 => ?_) | refine zan rfl ?_ | refine zaa 0 rfl rfl rfl ?_ | refine zab 0 rfl rfl rfl ?_ | (refine zai [1, 2] (rjoin_name w0 q o e.name s1 g3') rfl rfl rfl sub_nil ?_; rintro v Γ ⟨r, rfl, rfl⟩) | refine zao rfl ?_ | refine zae 4 rfl rfl rfl rfl rfl rfl rfl ?_ | refine zcb rfl ?_)
      all_goals refine zch ?_
      all_goals repeat (first | refine zck ?_ | refine zcl ?_ | refine zcm ?_ | refine zcn ?_)
      exact run_ret (leaves_nil (ends_take [0] rfl (ends_two rfl (resOk_pt 4 rfl rfl rfl) rfl ⟨rfl, r, rfl, rfl⟩)))
    rw [if_neg h7] at hO
    by_cases h6 : e.kind = 6
    rotate_left
    · rw [if_pos h6] at hO
      subst hO
      repeat (first | refine zck ?_ | refine zcl ?_ | refine zcm ?_ | refine zcn ?_)
      first | refine zcp (by kernel_rfl) ?_ | refine zcq PP_mixed (by kernel_rfl) (by kernel_rfl) ?_
      repeat' (refine zap rfl ?_; first | refine zaa 0 rfl rfl rfl ?_ | refine zao rfl ?_ | refine zbd rfl rfl (by omega) ?_)
      all_goals refine zch ?_
      all_goals repeat (first | refine zck ?_ | refine zcl ?_ | refine zcm ?_ | refine zcn ?_)
      refine zcj rfl ?_
      repeat (first | refine zck ?_ | refine zcl ?_ | refine zcm ?_ | refine zcn ?_)
      first | refine zcp (by kernel_rfl) ?_ | refine zcq PP_mixed (by kernel_rfl) (by kernel_rfl) ?_
      repeat' (refine zap rfl ?_; first | refine zaa 0 rfl rfl rfl ?_ | refine zao rfl ?_ | refine zbe rfl rfl (by omega) ?_)
      all_goals refine zch ?_
      all_goals repeat (first | refine zck ?_ | refine zcl ?_ | refine zcm ?_ | refine zcn ?_)
      refine zci rfl ?_
      repeat (first | refine zck ?_ | refine zcl ?_ | refine zcm ?_ | refine zcn ?_)
      first | refine zcp (by kernel_rfl) ?_ | refine zcq PP_mixed (by kernel_rfl) (by kernel_rfl) ?_
      repeat' (refine zap rfl ?_; first | refine zan rfl ?_ | refine zab 0 rfl rfl rfl ?_ | refine zae 2 rfl rfl rfl rfl rfl rfl rfl ?_)
      all_goals refine zch ?_
      all_goals repeat (first | refine zck ?_ | refine zcl ?_ | refine zcm ?_ | refine zcn ?_)
      exact run_ret (leaves_nil (ends_take [1] rfl (ends_two rfl (resOk_pt 2 rfl rfl rfl) rfl ⟨rfl, q, rfl, rfl⟩)))
    rw [if_neg (fun h => h h6)] at hO
    unfold refCall at hO
    repeat (first | refine zck ?_ | refine zcl ?_ | refine zcm ?_ | refine zcn ?_)
    first | refine zcp (by kernel_rfl) ?_ | refine zcq PP_mixed (by kernel_rfl) (by kernel_rfl) ?_
    repeat' (refine zap rfl ?_; first | refine zaa 0 rfl rfl rfl ?_ | refine zao rfl ?_ | refine zbd rfl rfl (by omega) ?_)
    all_goals refine zch ?_
    all_goals repeat (first | refine zck ?_ | refine zcl ?_ | refine zcm ?_ | refine zcn ?_)
    refine zcj rfl ?_
    repeat (first | refine zck ?_ | refine zcl ?_ | refine zcm ?_ | refine zcn ?_)
    first | refine zcp (by kernel_rfl) ?_ | refine zcq PP_mixed (by kernel_rfl) (by kernel_rfl) ?_
    repeat' (refine zap rfl ?_; first | refine zaa 0 rfl rfl rfl ?_ | refine zao rfl ?_ | refine zbf rfl rfl (by omega) ?_)
    all_goals refine zch ?_
    all_goals repeat (first | refine zck ?_ | refine zcl ?_ | refine zcm ?_ | refine zcn ?_)
    refine zcj rfl ?_
    cases hK : lookK st e.name with
    | none =>
      rw [hK] at hkd hO
      dsimp only [Option.getD, Option.isSome] at hkd hO
      subst hO
      repeat (first | refine zck ?_ | refine zcl ?_ | refine zcm ?_ | refine zcn ?_)
      first | refine zcp (by kernel_rfl) ?_ | refine zcq PP_mixed (by kernel_rfl) (by kernel_rfl) ?_
      repeat' (refine zap rfl ?_; first | refine zan rfl ?_ | refine zan rfl ?_ | refine zaa 0 rfl rfl rfl ?_ | refine zaa 1 rfl rfl rfl ?_ | refine zah [] hkd rfl rfl rfl (fun p hp => by simp [hp]) rfl ?_ | refine zce rfl ?_ | refine zao rfl ?_ | refine zan rfl ?_)
      all_goals refine zch ?_
      all_goals repeat (first | refine zck ?_ | refine zcl ?_ | refine zcm ?_ | refine zcn ?_)
      repeat (first | refine zck ?_ | refine zcl ?_ | refine zcm ?_ | refine zcn ?_)
      first | refine zcp (by kernel_rfl) ?_ | refine zcq PP_mixed (by kernel_rfl) (by kernel_rfl) ?_
      repeat' (refine zap rfl ?_; first | refine zan rfl ?_ | refine zbx rfl ?_)
      all_goals refine zch ?_
      all_goals repeat (first | refine zck ?_ | refine zcl ?_ | refine zcm ?_ | refine zcn ?_)
      refine zci rfl ?_
      repeat (first | refine zck ?_ | refine zcl ?_ | refine zcm ?_ | refine zcn ?_)
      first | refine zcp (by kernel_rfl) ?_ | refine zcq PP_mixed (by kernel_rfl) (by kernel_rfl) ?_
      repeat' (refine zap rfl ?_; first | refine zan rfl ?_ | refine zae 2 rfl rfl rfl rfl rfl rfl rfl ?_ | refine zcb rfl ?_)
      all_goals refine zch ?_
      all_goals repeat (first | refine zck ?_ | refine zcl ?_ | refine zcm ?_ | refine zcn ?_)
      refine run_emptyR (fun bl => RdEfV w0 bl (efV p0 zeroE) zeroE) RdEfV.zero ?_
      exact run_ret (leaves_nil (ends_take [0] rfl (ends_two rfl (resOk_pt 3 rfl rfl rfl) rfl ⟨rfl, p0, rfl, rfl⟩)))
    | some k =>
      rw [hK] at hkd hO
      dsimp only [Option.getD, Option.isSome] at hkd hO
      repeat (first | refine zck ?_ | refine zcl ?_ | refine zcm ?_ | refine zcn ?_)
      first | refine zcp (by kernel_rfl) ?_ | refine zcq PP_mixed (by kernel_rfl) (by kernel_rfl) ?_
      repeat' (refine zap rfl ?_; first | refine zan rfl ?_ | refine zan rfl ?_ | refine zaa 0 rfl rfl rfl ?_ | refine zaa 1 rfl rfl rfl ?_ | refine zah [] hkd rfl rfl rfl (fun p hp => by simp [hp]) rfl ?_ | refine zce rfl ?_ | refine zao rfl ?_ | refine zan rfl ?_)
      all_goals refine zch ?_
      all_goals repeat (first | refine zck ?_ | refine zcl ?_ | refine zcm ?_ | refine zcn ?_)
      repeat (first | refine zck ?_ | refine zcl ?_ | refine zcm ?_ | refine zcn ?_)
      first | refine zcp (by kernel_rfl) ?_ | refine zcq PP_mixed (by kernel_rfl) (by kernel_rfl) ?_
      repeat' (refine zap rfl ?_; first | refine zan rfl ?_ | refine zbx rfl ?_)
      all_goals refine zch ?_
      all_goals repeat (first | refine zck ?_ | refine zcl ?_ | refine zcm ?_ | refine zcn ?_)
      refine zcj rfl ?_
      repeat (first | refine zck ?_ | refine zcl ?_ | refine zcm ?_ | refine zcn ?_)
      first | refine zcp (by kernel_rfl) ?_ | refine zcq PP_mixed (by kernel_rfl) (by kernel_rfl) ?_
      repeat' (refine zap rfl ?_; first | refine zan rfl ?_)
      all_goals refine zch ?_
      all_goals repeat (first | refine zck ?_ | refine zcl ?_ | refine zcm ?_ | refine zcn ?_)
      repeat (first | refine zck ?_ | refine zcl ?_ | refine zcm ?_ | refine zcn ?_)
      first | refine zcp (by kernel_rfl) ?_ | refine zcq PP_mixed (by kernel_rfl) (by kernel_rfl) ?_
      repeat' (refine zap rfl ?_; first | refine zan rfl ?_)
      all_goals refine zch ?_
      all_goals repeat (first | refine zck ?_ | refine zcl ?_ | refine zcm ?_ | refine zcn ?_)
      refine run_loop (S := Nat × Bool) (fun s => [(2, .pointer (some ⟨bw, 0, none⟩)), (3, .pointer (some ⟨be, 0, none⟩)), (4, .pointer (some ⟨b4, 0, none⟩)), (6, .pointer (some ⟨ob, 0, none⟩)), (11, .string k), (13, .bool s.2), (14, .int .i64 s.1)])
        (fun s Γ => Γ = [rPt ob q o, rdV w0 (efV q o) o, rPt b4 p0 zeroE] ∧ s.1 ≤ ml.length ∧ scanM k e.meth (ml.drop s.1) s.2 = scanM k e.meth ml false) (fun s => ml.length - s.1) (0, false)
        ⟨rfl, rfl, rfl, rfl, rfl, rfl, rfl, trivial⟩ ⟨rfl, Nat.zero_le _, rfl⟩ ?_
      rintro ⟨i, kn⟩ Γ junk ⟨rfl, i1, i2⟩
      dsimp only at i1 i2 ⊢
      by_cases hi : i < ml.length
      · obtain ⟨x, hx⟩ : ∃ x, ml[i]? = some x := ⟨_, List.getElem?_eq_getElem hi⟩
        obtain ⟨b, off, cc, T, fr, rfl, e2, e3, _⟩ := hL.cells hx
        rw [scanM_drop hx] at i2
        repeat (first | refine zck ?_ | refine zcl ?_ | refine zcm ?_ | refine zcn ?_)
        first | refine zcp (by kernel_rfl) ?_ | refine zcq PP_mixed (by kernel_rfl) (by kernel_rfl) ?_
        repeat' (refine zap rfl ?_; first | refine zan rfl ?_ | refine zaa 1 rfl rfl rfl ?_ | refine zce rfl ?_ | refine zao rfl ?_ | refine zbg rfl rfl (by omega) ?_)
        all_goals refine zch ?_
        all_goals repeat (first | refine zck ?_ | refine zcl ?_ | refine zcm ?_ | refine zcn ?_)
        refine zci rfl ?_
        repeat (first | refine zck ?_ | refine zcl ?_ | refine zcm ?_ | refine zcn ?_)
        first | refine zcp (by kernel_rfl) ?_ | refine zcq PP_mixed (by kernel_rfl) (by kernel_rfl) ?_
        repeat' (refine zap rfl ?_; first | refine zad rfl (fun hF Γ w h1 h2 => e2 hF Γ w (fun p hp => h1 p (by simp [hp])) h2) (e3 _ (by omega)) ?_ | refine zar (fun t15 => ?_) | refine zan rfl ?_ | refine zaa 1 rfl rfl rfl ?_ | refine zao rfl ?_ | refine zae 3 rfl rfl rfl rfl rfl rfl rfl ?_ | refine zas rfl rfl (by omega) ?_)
        all_goals refine zch ?_
        all_goals repeat (first | refine zck ?_ | refine zcl ?_ | refine zcm ?_ | refine zcn ?_)
        refine run_share [3] rfl ?_
        by_cases hk1 : x.1 = k
        rotate_left
        · rw [if_pos hk1] at i2
          repeat (first | refine zck ?_ | refine zcl ?_ | refine zcm ?_ | refine zcn ?_)
          first | refine zcp (by kernel_rfl) ?_ | refine zcq PP_mixed (by kernel_rfl) (by kernel_rfl) ?_
          repeat' (refine zap rfl ?_; first | refine reg_neST rfl rfl hk1 ?_ | refine zan rfl ?_ | refine zaa 0 rfl rfl rfl ?_ | refine zao rfl ?_)
          all_goals refine zch ?_
          all_goals repeat (first | refine zck ?_ | refine zcl ?_ | refine zcm ?_ | refine zcn ?_)
          refine zci rfl ?_
          repeat' (first | refine zcp (by kernel_rfl) ?_ | refine zcs rfl ?_ | (refine zap rfl ?_; first | refine zan rfl ?_ | refine zan rfl ?_ | refine zau rfl rfl (by omega) ?_) | refine zch ?_)
          exact cut_end ⟨rfl, (i + 1, kn), ⟨rfl, rfl, rfl, rfl, rfl, rfl, int_eq (by dsimp only; omega), trivial⟩, ⟨rfl, by dsimp only; omega, i2⟩, by dsimp only; omega⟩
        rw [if_neg (fun h => h hk1)] at i2
        repeat (first | refine zck ?_ | refine zcl ?_ | refine zcm ?_ | refine zcn ?_)
        first | refine zcp (by kernel_rfl) ?_ | refine zcq PP_mixed (by kernel_rfl) (by kernel_rfl) ?_
        repeat' (refine zap rfl ?_; first | refine reg_neSF rfl rfl hk1 ?_ | refine zan rfl ?_ | refine zaa 0 rfl rfl rfl ?_ | refine zao rfl ?_)
        all_goals refine zch ?_
        all_goals repeat (first | refine zck ?_ | refine zcl ?_ | refine zcm ?_ | refine zcn ?_)
        refine zcj rfl ?_
        repeat (first | refine zck ?_ | refine zcl ?_ | refine zcm ?_ | refine zcn ?_)
        first | refine zcp (by kernel_rfl) ?_ | refine zcq PP_mixed (by kernel_rfl) (by kernel_rfl) ?_
        repeat' (refine zap rfl ?_; first | refine zan rfl ?_)
        all_goals refine zch ?_
        all_goals repeat (first | refine zck ?_ | refine zcl ?_ | refine zcm ?_ | refine zcn ?_)
        by_cases hm : x.2.1 = e.meth
        rotate_left
        · rw [if_neg hm] at i2
          repeat (first | refine zck ?_ | refine zcl ?_ | refine zcm ?_ | refine zcn ?_)
          first | refine zcp (by kernel_rfl) ?_ | refine zcq PP_mixed (by kernel_rfl) (by kernel_rfl) ?_
          repeat' (refine zap rfl ?_; first | refine reg_eqSF rfl rfl hm ?_ | refine zaa 0 rfl rfl rfl ?_ | refine zaa 1 rfl rfl rfl ?_ | refine zao rfl ?_)
          all_goals refine zch ?_
          all_goals repeat (first | refine zck ?_ | refine zcl ?_ | refine zcm ?_ | refine zcn ?_)
          refine zcj rfl ?_
          repeat' (first | refine zcp (by kernel_rfl) ?_ | refine zcm ?_ | refine zcn ?_ | (refine zap rfl ?_; first | refine zan rfl ?_ | refine zan rfl ?_ | refine zau rfl rfl (by omega) ?_) | refine zch ?_)
          exact cut_end ⟨rfl, (i + 1, true), ⟨rfl, rfl, rfl, rfl, rfl, rfl, int_eq (by dsimp only; omega), trivial⟩, ⟨rfl, by dsimp only; omega, i2⟩, by dsimp only; omega⟩
        rw [if_pos hm] at i2
        rw [← i2] at hO
        dsimp only at hO
        repeat (first | refine zck ?_ | refine zcl ?_ | refine zcm ?_ | refine zcn ?_)
        first | refine zcp (by kernel_rfl) ?_ | refine zcq PP_mixed (by kernel_rfl) (by kernel_rfl) ?_
        repeat' (refine zap rfl ?_; first | refine reg_eqST rfl rfl hm ?_ | refine zaa 0 rfl rfl rfl ?_ | refine zaa 1 rfl rfl rfl ?_ | refine zao rfl ?_)
        all_goals refine zch ?_
        all_goals repeat (first | refine zck ?_ | refine zcl ?_ | refine zcm ?_ | refine zcn ?_)
        refine zci rfl ?_
        repeat (first | refine zck ?_ | refine zcl ?_ | refine zcm ?_ | refine zcn ?_)
        first | refine zcp (by kernel_rfl) ?_ | refine zcq PP_mixed (by kernel_rfl) (by kernel_rfl) ?_
        repeat' (refine zap rfl ?_; first | refine reg_buildSlice rfl rfl rfl rfl rfl rfl (fun s1 => ?_) | refine zar (fun t16 => ?_) | refine zaa 1 rfl rfl rfl ?_ | refine zao rfl ?_ | refine zae 4 rfl rfl rfl rfl rfl rfl rfl ?_ | refine zcb rfl ?_)
        all_goals refine zch ?_
        all_goals repeat (first | refine zck ?_ | refine zcl ?_ | refine zcm ?_ | refine zcn ?_)
        refine run_share [3] rfl ?_
        obtain ⟨x1, x2, x3⟩ := x
        cases x3 with
        | true =>
          rw [if_pos rfl] at hO
          subst hO
          repeat (first | refine zck ?_ | refine zcl ?_ | refine zcm ?_ | refine zcn ?_)
          first | refine zcp (by kernel_rfl) ?_ | refine zcq PP_mixed (by kernel_rfl) (by kernel_rfl) ?_
          repeat' (refine zap rfl ?_; first | refine zaa 1 rfl rfl rfl ?_ | refine zao rfl ?_)
          all_goals refine zch ?_
          all_goals repeat (first | refine zck ?_ | refine zcl ?_ | refine zcm ?_ | refine zcn ?_)
          refine zci rfl ?_
          repeat (first | refine zck ?_ | refine zcl ?_ | refine zcm ?_ | refine zcn ?_)
          first | refine zcp (by kernel_rfl) ?_ | refine zcq PP_mixed (by kernel_rfl) (by kernel_rfl) ?_
          repeat' (refine zap rfl ?_; first | refine reg_buildSlice rfl rfl rfl rfl rfl rfl (fun s2 => ?_) | refine zaa 2 rfl rfl rfl ?_ | refine zao rfl ?_ | refine zae 3 rfl rfl rfl rfl rfl rfl rfl ?_)
          all_goals refine zch ?_
          all_goals repeat (first | refine zck ?_ | refine zcl ?_ | refine zcm ?_ | refine zcn ?_)
          refine run_share [4] rfl ?_
          have hj2 := fun sh' (h1 : (s1, Obj.cells (List.toArray [Value.string e.name]) 9 (0, 0)) ∈ sh') (h2 : (s2, Obj.cells (List.toArray [Value.string e.name]) 9 (0, 0)) ∈ sh') => rjoin_l w0 sh' q ((some ⟨s1, 0, none⟩, 1), (some ⟨s2, 0, none⟩, 1), (none, 0)) o ⟨[e.name], [e.name], [], 1⟩
            ⟨_, rfl, _, _, _, rfl, RdSl.flat (encE := encY) (q := 1) (w0 := w0) (b := s1) (l := [e.name]) (fun _ _ => rfl) h1, RdSl.flat (encE := encY) (q := 1) (w0 := w0) (b := s2) (l := [e.name]) (fun _ _ => rfl) h2, RdSl.nil⟩ g3' ⟨by simp, by simp, Nat.zero_le _⟩
          repeat (first | refine zck ?_ | refine zcl ?_ | refine zcm ?_ | refine zcn ?_)
          first | refine zcp (by kernel_rfl) ?_ | refine zcq PP_mixed (by kernel_rfl) (by kernel_rfl) ?_
          repeat' (refine zap rfl ?_; first | refine zan rfl ?_ | refine zab 0 rfl rfl rfl ?_ | refine zab 3 rfl rfl rfl ?_ | (refine zai [1] (hj2 _ (.tail _ (.head _)) (.head _)) rfl rfl rfl (fun _ h => h) ?_; rintro v Γ ⟨r, rfl, rfl⟩) | refine zae 3 rfl rfl rfl rfl rfl rfl rfl ?_)
          all_goals refine zch ?_
          all_goals repeat (first | refine zck ?_ | refine zcl ?_ | refine zcm ?_ | refine zcn ?_)
          exact cut_ret (leaves_nil (ends_take [0] rfl (ends_two rfl (resOk_pt 3 rfl rfl rfl) rfl ⟨rfl, r, rfl, rfl⟩)))
        | false =>
          rw [if_neg (fun h => by cases h)] at hO
          subst hO
          have hj2 := fun sh' (h1 : (s1, Obj.cells (List.toArray [Value.string e.name]) 9 (0, 0)) ∈ sh') => rjoin_l w0 sh' q ((some ⟨s1, 0, none⟩, 1), (none, 0), (none, 0)) o ⟨[e.name], [], [], 1⟩
            ⟨_, rfl, _, _, _, rfl, RdSl.flat (encE := encY) (q := 1) (w0 := w0) (b := s1) (l := [e.name]) (fun _ _ => rfl) h1, RdSl.nil, RdSl.nil⟩ g3' ⟨by simp, Nat.zero_le _, Nat.zero_le _⟩
          repeat (first | refine zck ?_ | refine zcl ?_ | refine zcm ?_ | refine zcn ?_)
          first | refine zcp (by kernel_rfl) ?_ | refine zcq PP_mixed (by kernel_rfl) (by kernel_rfl) ?_
          repeat' (refine zap rfl ?_; first | refine zaa 1 rfl rfl rfl ?_ | refine zao rfl ?_)
          all_goals refine zch ?_
          all_goals repeat (first | refine zck ?_ | refine zcl ?_ | refine zcm ?_ | refine zcn ?_)
          refine zcj rfl ?_
          repeat (first | refine zck ?_ | refine zcl ?_ | refine zcm ?_ | refine zcn ?_)
          first | refine zcp (by kernel_rfl) ?_ | refine zcq PP_mixed (by kernel_rfl) (by kernel_rfl) ?_
          repeat' (refine zap rfl ?_; first | refine zan rfl ?_ | refine zab 0 rfl rfl rfl ?_ | refine zab 3 rfl rfl rfl ?_ | (refine zai [1] (hj2 _ (.head _)) rfl rfl rfl (fun _ h => h) ?_; rintro v Γ ⟨r, rfl, rfl⟩) | refine zae 3 rfl rfl rfl rfl rfl rfl rfl ?_)
          all_goals refine zch ?_
          all_goals repeat (first | refine zck ?_ | refine zcl ?_ | refine zcm ?_ | refine zcn ?_)
          exact cut_ret (leaves_nil (ends_take [0] rfl (ends_two rfl (resOk_pt 3 rfl rfl rfl) rfl ⟨rfl, r, rfl, rfl⟩)))
      · rw [List.drop_of_length_le (by omega), scanM] at i2
        rw [← i2] at hO
        dsimp only at hO
        repeat (first | refine zck ?_ | refine zcl ?_ | refine zcm ?_ | refine zcn ?_)
        first | refine zcp (by kernel_rfl) ?_ | refine zcq PP_mixed (by kernel_rfl) (by kernel_rfl) ?_
        repeat' (refine zap rfl ?_; first | refine zan rfl ?_ | refine zaa 1 rfl rfl rfl ?_ | refine zce rfl ?_ | refine zao rfl ?_ | refine zbh rfl rfl (by omega) ?_)
        all_goals refine zch ?_
        all_goals repeat (first | refine zck ?_ | refine zcl ?_ | refine zcm ?_ | refine zcn ?_)
        refine zcj rfl ?_
        refine cut_exit rfl rfl ?_
        repeat (first | refine zck ?_ | refine zcl ?_ | refine zcm ?_ | refine zcn ?_ | refine zco ?_)
        cases kn with
        | false =>
          rw [if_pos rfl] at hO
          subst hO
          repeat (first | refine zck ?_ | refine zcl ?_ | refine zcm ?_ | refine zcn ?_)
          first | refine zcp (by kernel_rfl) ?_ | refine zcq PP_mixed (by kernel_rfl) (by kernel_rfl) ?_
          repeat' (refine zap rfl ?_; first | refine zan rfl ?_ | refine zbx rfl ?_)
          all_goals refine zch ?_
          all_goals repeat (first | refine zck ?_ | refine zcl ?_ | refine zcm ?_ | refine zcn ?_)
          refine zci rfl ?_
          repeat (first | refine zck ?_ | refine zcl ?_ | refine zcm ?_ | refine zcn ?_)
          first | refine zcp (by kernel_rfl) ?_ | refine zcq PP_mixed (by kernel_rfl) (by kernel_rfl) ?_
          repeat' (refine zap rfl ?_; first | refine zan rfl ?_ | refine zae 2 rfl rfl rfl rfl rfl rfl rfl ?_ | refine zcb rfl ?_)
          all_goals refine zch ?_
          all_goals repeat (first | refine zck ?_ | refine zcl ?_ | refine zcm ?_ | refine zcn ?_)
          refine run_emptyR (fun bl => RdEfV w0 bl (efV p0 zeroE) zeroE) RdEfV.zero ?_
          exact run_ret (leaves_nil (ends_take [0] rfl (ends_two rfl (resOk_pt 3 rfl rfl rfl) rfl ⟨rfl, p0, rfl, rfl⟩)))
        | true =>
          rw [if_neg (by decide)] at hO
          subst hO
          repeat (first | refine zck ?_ | refine zcl ?_ | refine zcm ?_ | refine zcn ?_)
          first | refine zcp (by kernel_rfl) ?_ | refine zcq PP_mixed (by kernel_rfl) (by kernel_rfl) ?_
          repeat' (refine zap rfl ?_; first | refine zan rfl ?_ | refine zbx rfl ?_)
          all_goals refine zch ?_
          all_goals repeat (first | refine zck ?_ | refine zcl ?_ | refine zcm ?_ | refine zcn ?_)
          refine zcj rfl ?_
          repeat (first | refine zck ?_ | refine zcl ?_ | refine zcm ?_ | refine zcn ?_)
          first | refine zcp (by kernel_rfl) ?_ | refine zcq PP_mixed (by kernel_rfl) (by kernel_rfl) ?_
          repeat' (refine zap rfl ?_; first | refine zan rfl ?_ | refine zae 2 rfl rfl rfl rfl rfl rfl rfl ?_ | refine zcb rfl ?_)
          all_goals refine zch ?_
          all_goals repeat (first | refine zck ?_ | refine zcl ?_ | refine zcm ?_ | refine zcn ?_)
          refine run_emptyR (fun bl => RdEfV w0 bl (efV p0 zeroE) zeroE) RdEfV.zero ?_
          exact run_ret (leaves_nil (ends_take [0] rfl (ends_two rfl (resOk_pt 3 rfl rfl rfl) rfl ⟨rfl, p0, rfl, rfl⟩)))
theorem rexpr_spec (w0 : World) (st : List (ByteArray × ByteArray)) (ml : List MR) (hM : MlOk ml) (hst : st.length ≤ 1000000) (hml : ml.length ≤ 1000000) : ∀ n, n ≤ 10000 → RXSpec w0 st ml n
  | 0, _ => fun sh ws am cm e va vo h => by have := e.size_pos; omega
  | n + 1, hn => rexpr_step w0 st ml hM hst hml n (by omega) (rexpr_spec w0 st ml hM hst hml n (by omega))
end Go.Proofs.YtagmagnkigjggaaGreatDoor

namespace Sim
theorem refSs_drop {st : List (ByteArray × ByteArray)} {ml : List MR} {l : List PS} {j : Nat} {x : PS} {out : Ef} (h : l[j]? = some x) : refSs st ml (l.drop j) out = if (refS st ml x).2 ≠ 0 then (zeroE, (refS st ml x).2) else refSs st ml (l.drop (j + 1)) (joinE (joinE out (if hasEx x.kind = true then refE st ml x.expr else (zeroE, 0)).1) (refS st ml x).1) := by
  have hj := (List.getElem?_eq_some_iff.1 h).1
  rw [List.drop_eq_getElem_cons hj, (List.getElem?_eq_some_iff.1 h).2]
  obtain ⟨k, a, num, e, xs, ys⟩ := x
  rw [refSs]
  rfl
theorem refS_eq (st : List (ByteArray × ByteArray)) (ml : List MR) (s : PS) : refS st ml s =
    if (if hasEx s.kind = true then refE st ml s.expr else (zeroE, 0)).2 ≠ 0 then (zeroE, (if hasEx s.kind = true then refE st ml s.expr else (zeroE, 0)).2) else
    if (refSs st ml s.body zeroE).2 ≠ 0 then (zeroE, (refSs st ml s.body zeroE).2) else
    if (refSs st ml s.els zeroE).2 ≠ 0 then (zeroE, (refSs st ml s.els zeroE).2) else
    ((if s.kind = 3 then { joinE (refSs st ml s.body zeroE).1 (refSs st ml s.els zeroE).1 with calls := maxC (refSs st ml s.body zeroE).1.calls (refSs st ml s.els zeroE).1.calls } else if s.kind = 4 then timesE (refSs st ml s.body zeroE).1 s.num else (refSs st ml s.body zeroE).1), 0) := by
  obtain ⟨k, a, num, e, xs, ys⟩ := s
  exact refS_mk st ml k a num e xs ys
theorem refSs_sm {st : List (ByteArray × ByteArray)} {ml : List MR} (hM : MlOk ml) (l : List PS) (d : Int) (h : wrongSs l d = 0) : (refSs st ml l zeroE).1.sm (PS.sizeL l) := by
  rw [refSs_own hM l d h]
  unfold ansE
  split
  · exact (zeroE_sm 0).mono (by omega)
  · exact (stmtEs_sm st l zeroE 0 0 (zeroE_sm 0)).mono (by omega)
end Sim
namespace Go.Proofs.YtagmagnkigjggaaGreatDoor
open Go.Vc Sim
theorem rtimes_p (w0 : World) (sh : Shared) (p : P6) (a : Ef) (n : Int) (sa : a.sm 30000) (hn : n ≤ 9223372036854775807) :
    Vc.Fn PP w0 sh 23 [efV p a, .int .i64 n] [rdV w0 (efV p a) a] (fun v Γ => ∃ r : P6, v = efV r (timesE a n) ∧ Γ = [rdV w0 (efV r (timesE a n)) (timesE a n), rdV w0 (efV p a) a]) := by
  refine (Fn.lendR (φ := fun bl => RdEfV w0 bl (efV p a) a) en23 (fun sh1 bl1 h1 h2 h3 => rtimes_spec w0 sh1 p a n (h3.mono h2) sa hn)).mono ?_
  rintro v Γ ⟨_, ⟨r, rfl, rfl⟩, rfl⟩
  exact ⟨r, rfl, rfl⟩
def RTSpec (w0 : World) (st : List (ByteArray × ByteArray)) (ml : List MR) (n : Nat) : Prop := ∀ (sh : Shared) (ws : Value) (am : Option Addr) (cm : Nat) (v : Value) (l : List PS) (d : Int), PS.sizeL l ≤ n → RdSl w0 sh encD 2 ws st → RdSl w0 sh encMR 3 (.slice am ml.length cm) ml → RdSt w0 sh v l → wrongSs l d = 0 →
  Vc.Fn PP w0 sh 11 [.agg #[ws, .slice am ml.length cm], v] []
    (fun r Γ => ∃ q : P6, r = .tuple #[efV q (refSs st ml l zeroE).1, .int .i64 (refSs st ml l zeroE).2] ∧ Γ = [rdV w0 (efV q (refSs st ml l zeroE).1) (refSs st ml l zeroE).1])
set_option maxHeartbeats 8000000 in
theorem rstmts_spec (w0 : World) (st : List (ByteArray × ByteArray)) (ml : List MR) (hM : MlOk ml) (hst : st.length ≤ 1000000) (hml : ml.length ≤ 1000000) : ∀ n, n ≤ 10000 → RTSpec w0 st ml n := by
  intro n
  induction n using Nat.strongRecOn with
  | _ n ih =>
  intro hn sh ws am cm v l d hs hW hL hr hwd
  have hlen := PS.sizeL_len l
  obtain ⟨a0, c0, rfl, hc0⟩ := hr.len
  obtain ⟨aw, cw, hws, hcw, _⟩ := id hW
  subst hws
  obtain ⟨O, hO⟩ : ∃ O, refSs st ml l zeroE = O := ⟨_, rfl⟩
  rw [hO]
  refine fn_of_run en11 fn11 rfl rfl rfl ?_
  repeat (first | refine zck ?_ | refine zcl ?_ | refine zcm ?_ | refine zcn ?_)
  first | refine zcp (by kernel_rfl) ?_ | refine zcq PP_mixed (by kernel_rfl) (by kernel_rfl) ?_
  repeat' (refine zap rfl ?_; first | refine zaq (cs := [_, _]) rfl (fun bw => ?_) | refine zar (fun b4 => ?_) | refine zan rfl ?_)
  all_goals refine zch ?_
  all_goals repeat (first | refine zck ?_ | refine zcl ?_ | refine zcm ?_ | refine zcn ?_)
  refine run_share [0] rfl ?_
  repeat (first | refine zck ?_ | refine zcl ?_ | refine zcm ?_ | refine zcn ?_)
  first | refine zcp (by kernel_rfl) ?_ | refine zcq PP_mixed (by kernel_rfl) (by kernel_rfl) ?_
  repeat' (refine zap rfl ?_; first | refine zar (fun ob => ?_))
  all_goals refine zch ?_
  all_goals repeat (first | refine zck ?_ | refine zcl ?_ | refine zcm ?_ | refine zcn ?_)
  refine run_emptyR (fun bl => RdEfV w0 bl (efV p0 zeroE) zeroE) RdEfV.zero ?_
  refine run_take [2, 0, 0] rfl ?_
  repeat (first | refine zck ?_ | refine zcl ?_ | refine zcm ?_ | refine zcn ?_)
  first | refine zcp (by kernel_rfl) ?_ | refine zcq PP_mixed (by kernel_rfl) (by kernel_rfl) ?_
  repeat' (refine zap rfl ?_; first | refine zan rfl ?_)
  all_goals refine zch ?_
  all_goals repeat (first | refine zck ?_ | refine zcl ?_ | refine zcm ?_ | refine zcn ?_)
  refine run_loop (S := Nat × P6 × Ef) (fun s => [(1, .slice a0 l.length c0), (2, .pointer (some ⟨bw, 0, none⟩)), (4, .pointer (some ⟨b4, 0, none⟩)), (6, .pointer (some ⟨ob, 0, none⟩)), (7, .int .i64 s.1)])
    (fun s Γ => Γ = [rPt ob s.2.1 s.2.2, rdV w0 (efV s.2.1 s.2.2) s.2.2, rPt b4 p0 zeroE] ∧ s.1 ≤ l.length ∧ refSs st ml (l.drop s.1) s.2.2 = refSs st ml l zeroE ∧ ∃ M, s.2.2.sm M ∧ M + PS.sizeL (l.drop s.1) ≤ 30000) (fun s => l.length - s.1) (0, p0, zeroE)
    ⟨rfl, rfl, rfl, rfl, rfl, trivial⟩ ⟨rfl, Nat.zero_le _, rfl, 0, zeroE_sm 0, by rw [List.drop_zero]; omega⟩ ?_
  rintro ⟨j, q, o⟩ Γ junk ⟨rfl, g1, g2, M, g3, g4⟩
  dsimp only at g1 g2 g3 g4 ⊢
  by_cases hj : j < l.length
  rotate_left
  · rw [List.drop_of_length_le (by omega), refSs] at g2
    rw [← g2] at hO
    subst hO
    repeat (first | refine zck ?_ | refine zcl ?_ | refine zcm ?_ | refine zcn ?_)
    first | refine zcp (by kernel_rfl) ?_ | refine zcq PP_mixed (by kernel_rfl) (by kernel_rfl) ?_
    repeat' (refine zap rfl ?_; first | refine zan rfl ?_ | refine zce rfl ?_ | refine zbh rfl rfl (by omega) ?_)
    all_goals refine zch ?_
    all_goals repeat (first | refine zck ?_ | refine zcl ?_ | refine zcm ?_ | refine zcn ?_)
    refine zcj rfl ?_
    refine cut_exit rfl rfl ?_
    repeat (first | refine zck ?_ | refine zcl ?_ | refine zcm ?_ | refine zcn ?_)
    first | refine zcp (by kernel_rfl) ?_ | refine zcq PP_mixed (by kernel_rfl) (by kernel_rfl) ?_
    repeat' (refine zap rfl ?_; first | refine zan rfl ?_ | refine zab 0 rfl rfl rfl ?_ | refine zae 2 rfl rfl rfl rfl rfl rfl rfl ?_)
    all_goals refine zch ?_
    all_goals repeat (first | refine zck ?_ | refine zcl ?_ | refine zcm ?_ | refine zcn ?_)
    exact run_ret (leaves_nil (ends_take [1] rfl (ends_two rfl (resOk_pt 2 rfl rfl rfl) rfl ⟨rfl, q, rfl, rfl⟩)))
  obtain ⟨x, hx⟩ : ∃ x, l[j]? = some x := ⟨_, List.getElem?_eq_getElem hj⟩
  obtain ⟨b, off, cc, T, fr, cs, rfl, e2, e3, e4, _⟩ := hr.at hx
  obtain ⟨va, vo, vb, ve, rfl, hsp⟩ := e4.sp
  obtain ⟨a1, c1, hva, _⟩ := hsp.a.len
  obtain ⟨a2, c2, hvo, _⟩ := hsp.o.len
  obtain ⟨a3, c3, hvb, _⟩ := hsp.b.len
  obtain ⟨a4, c4, hve, _⟩ := hsp.e.len
  subst hva; subst hvo; subst hvb; subst hve
  have hxm := List.mem_iff_getElem?.2 ⟨_, hx⟩
  have hxn := PS.sizeL_mem hxm
  obtain ⟨w1, w2, w3⟩ := wrongS_zero (wrongSs_mem hwd x hxm)
  have hsz : x.size = 1 + x.expr.size + PS.sizeL x.body + PS.sizeL x.els := by cases x; rfl
  have hd : l.drop j = x :: l.drop (j + 1) := by
    rw [List.drop_eq_getElem_cons hj]
    congr 1
    exact (List.getElem?_eq_some_iff.1 hx).2
  rw [hd, PS.sizeL] at g4
  have k0 := has_spec w0 [] x.kind
  have k1 := rexpr_spec w0 st ml hM hst hml 10000 (by omega)
  have k2 := ih (PS.sizeL x.body) (by omega) (by omega)
  have k3 := ih (PS.sizeL x.els) (by omega) (by omega)
  have sE := refE_sm (st := st) hM x.expr
  have sX : (if hasEx x.kind = true then refE st ml x.expr else (zeroE, 0)).1.sm x.expr.size := by
    split
    · exact sE
    · exact (zeroE_sm 0).mono (by omega)
  have sA := refSs_sm (st := st) hM x.body _ w2
  have sB := refSs_sm (st := st) hM x.els _ w3
  rw [refSs_drop hx] at g2
  obtain ⟨SS, hS⟩ : ∃ S, refS st ml x = S := ⟨_, rfl⟩
  rw [hS] at g2
  rw [refS_eq] at hS
  clear ih
  repeat (first | refine zck ?_ | refine zcl ?_ | refine zcm ?_ | refine zcn ?_)
  first | refine zcp (by kernel_rfl) ?_ | refine zcq PP_mixed (by kernel_rfl) (by kernel_rfl) ?_
  repeat' (refine zap rfl ?_; first | refine zan rfl ?_ | refine zce rfl ?_ | refine zbg rfl rfl (by omega) ?_)
  all_goals refine zch ?_
  all_goals repeat (first | refine zck ?_ | refine zcl ?_ | refine zcm ?_ | refine zcn ?_)
  refine zci rfl ?_
  repeat (first | refine zck ?_ | refine zcl ?_ | refine zcm ?_ | refine zcn ?_)
  first | refine zcp (by kernel_rfl) ?_ | refine zcq PP_mixed (by kernel_rfl) (by kernel_rfl) ?_
  repeat' (refine zap rfl ?_; first | refine zad rfl (fun hF Γ w h1 h2 => e2 hF Γ w (fun p hp => h1 p (by simp [hp])) h2) (e3 _ (by omega)) ?_ | refine zar (fun t8 => ?_) | refine zan rfl ?_ | refine zae 3 rfl rfl rfl rfl rfl rfl rfl ?_ | refine zas rfl rfl (by omega) ?_)
  all_goals refine zch ?_
  all_goals repeat (first | refine zck ?_ | refine zcl ?_ | refine zcm ?_ | refine zcn ?_)
  refine run_share [3] rfl ?_
  repeat (first | refine zck ?_ | refine zcl ?_ | refine zcm ?_ | refine zcn ?_)
  first | refine zcp (by kernel_rfl) ?_ | refine zcq PP_mixed (by kernel_rfl) (by kernel_rfl) ?_
  repeat' (refine zap rfl ?_; first | refine zar (fun t9 => ?_) | refine zan rfl ?_ | refine zae 3 rfl rfl rfl rfl rfl rfl rfl ?_ | refine zcb rfl ?_)
  all_goals refine zch ?_
  all_goals repeat (first | refine zck ?_ | refine zcl ?_ | refine zcm ?_ | refine zcn ?_)
  repeat (first | refine zck ?_ | refine zcl ?_ | refine zcm ?_ | refine zcn ?_)
  first | refine zcp (by kernel_rfl) ?_ | refine zcq PP_mixed (by kernel_rfl) (by kernel_rfl) ?_
  repeat' (refine zap rfl ?_; first | refine zaa 0 rfl rfl rfl ?_ | refine zah [] k0 rfl rfl rfl sub_nil rfl ?_ | refine zao rfl ?_)
  all_goals refine zch ?_
  all_goals repeat (first | refine zck ?_ | refine zcl ?_ | refine zcm ?_ | refine zcn ?_)
  refine run_bind_eq2 (l' := fun _ : P6 => [(1, .slice (some ⟨b, off, none⟩) l.length c0), (2, .pointer (some ⟨bw, 0, none⟩)), (4, .pointer (some ⟨b4, 0, none⟩)), (6, .pointer (some ⟨ob, 0, none⟩)), (7, .int .i64 (j : Int)), (8, .pointer (some ⟨t8, 0, none⟩)), (9, .pointer (some ⟨t9, 0, none⟩)), (10, .int .i64 (if hasEx x.kind = true then refE st ml x.expr else (zeroE, 0)).2)])
    (Γ' := fun qx => [rdV w0 (efV qx (if hasEx x.kind = true then refE st ml x.expr else (zeroE, 0)).1) (if hasEx x.kind = true then refE st ml x.expr else (zeroE, 0)).1, rPt ob q o, rdV w0 (efV q o) o, rPt b4 p0 zeroE, rPt t9 qx (if hasEx x.kind = true then refE st ml x.expr else (zeroE, 0)).1]) ?_ ?_
  · cases hE : hasEx x.kind with
    | true =>
      rw [if_pos rfl]
      refine zci rfl ?_
      repeat (first | refine zck ?_ | refine zcl ?_ | refine zcm ?_ | refine zcn ?_)
      first | refine zcp (by kernel_rfl) ?_ | refine zcq PP_mixed (by kernel_rfl) (by kernel_rfl) ?_
      repeat' (refine zap rfl ?_; first | refine zan rfl ?_ | refine zan rfl ?_ | refine zaa 0 rfl rfl rfl ?_ | refine zaa 1 rfl rfl rfl ?_ | (refine zai [] (k1 _ _ am cm x.expr _ _ (by omega) (hW.mono fun p hp => by simp [hp]) (hL.mono fun p hp => by simp [hp]) (hsp.a.mono fun p hp => by simp [hp]) (hsp.o.mono fun p hp => by simp [hp])) rfl rfl rfl (fun _ h => h) ?_; rintro v Γ ⟨qx, rfl, rfl⟩) | refine zce rfl ?_ | refine zcf rfl rfl ?_ | refine zao rfl ?_ | refine zan rfl ?_ | refine zae 4 rfl rfl rfl rfl rfl rfl rfl ?_)
      all_goals refine zch ?_
      all_goals repeat (first | refine zck ?_ | refine zcl ?_ | refine zcm ?_ | refine zcn ?_)
      exact cut_end ⟨rfl, qx, ⟨rfl, rfl, rfl, rfl, rfl, rfl, rfl, rfl, trivial⟩, rfl⟩
    | false =>
      rw [if_neg (by decide)]
      refine zcj rfl ?_
      refine run_emptyR (fun bl => RdEfV w0 bl (efV p0 zeroE) zeroE) RdEfV.zero ?_
      repeat (first | refine zck ?_ | refine zcl ?_ | refine zcm ?_ | refine zcn ?_ | refine zco ?_)
      exact cut_end ⟨rfl, p0, ⟨rfl, rfl, rfl, rfl, rfl, rfl, rfl, rfl, trivial⟩, rfl⟩
  intro qx junk2
  generalize (if hasEx x.kind = true then refE st ml x.expr else (zeroE, 0)) = X at *
  obtain ⟨X, cX⟩ := X
  dsimp only at *
  refine run_share [4] rfl ?_
  by_cases hcX : cX = 0
  rotate_left
  · rw [if_pos hcX] at hS
    subst hS
    rw [if_pos hcX] at g2
    rw [← g2] at hO
    subst hO
    repeat (first | refine zck ?_ | refine zcl ?_ | refine zcm ?_ | refine zcn ?_)
    first | refine zcp (by kernel_rfl) ?_ | refine zcq PP_mixed (by kernel_rfl) (by kernel_rfl) ?_
    repeat' (refine zap rfl ?_; first | refine zan rfl ?_ | refine zbe rfl rfl (by omega) ?_)
    all_goals refine zch ?_
    all_goals repeat (first | refine zck ?_ | refine zcl ?_ | refine zcm ?_ | refine zcn ?_)
    refine zci rfl ?_
    repeat (first | refine zck ?_ | refine zcl ?_ | refine zcm ?_ | refine zcn ?_)
    first | refine zcp (by kernel_rfl) ?_ | refine zcq PP_mixed (by kernel_rfl) (by kernel_rfl) ?_
    repeat' (refine zap rfl ?_; first | refine zan rfl ?_ | refine zan rfl ?_ | refine zae 3 rfl rfl rfl rfl rfl rfl rfl ?_ | refine zcb rfl ?_)
    all_goals refine zch ?_
    all_goals repeat (first | refine zck ?_ | refine zcl ?_ | refine zcm ?_ | refine zcn ?_)
    refine run_take [3] rfl ?_
    refine run_emptyR (fun bl => RdEfV w0 bl (efV p0 zeroE) zeroE) RdEfV.zero ?_
    exact cut_ret (leaves_nil (ends_take [0] rfl (ends_two rfl (resOk_pt 1 rfl rfl rfl) rfl ⟨rfl, p0, rfl, rfl⟩)))
  rw [if_neg (fun h => h hcX)] at hS
  repeat (first | refine zck ?_ | refine zcl ?_ | refine zcm ?_ | refine zcn ?_)
  first | refine zcp (by kernel_rfl) ?_ | refine zcq PP_mixed (by kernel_rfl) (by kernel_rfl) ?_
  repeat' (refine zap rfl ?_; first | refine zan rfl ?_ | refine zbf rfl rfl (by omega) ?_)
  all_goals refine zch ?_
  all_goals repeat (first | refine zck ?_ | refine zcl ?_ | refine zcm ?_ | refine zcn ?_)
  refine zcj rfl ?_
  repeat (first | refine zck ?_ | refine zcl ?_ | refine zcm ?_ | refine zcn ?_)
  first | refine zcp (by kernel_rfl) ?_ | refine zcq PP_mixed (by kernel_rfl) (by kernel_rfl) ?_
  repeat' (refine zap rfl ?_; first | refine zar (fun t11 => ?_) | refine zan rfl ?_ | refine zan rfl ?_ | refine zaa 1 rfl rfl rfl ?_ | refine zaa 2 rfl rfl rfl ?_ | (refine zai [] (k2 _ _ am cm _ x.body _ (Nat.le_refl _) (hW.mono fun p hp => by simp [hp]) (hL.mono fun p hp => by simp [hp]) (hsp.b.mono fun p hp => by simp [hp]) w2) rfl rfl rfl (fun _ h => h) ?_; rintro v Γ ⟨qa, rfl, rfl⟩) | refine zce rfl ?_ | refine zcf rfl rfl ?_ | refine zao rfl ?_ | refine zan rfl ?_ | refine zae 5 rfl rfl rfl rfl rfl rfl rfl ?_)
  all_goals refine zch ?_
  all_goals repeat (first | refine zck ?_ | refine zcl ?_ | refine zcm ?_ | refine zcn ?_)
  generalize refSs st ml x.body zeroE = A at *
  obtain ⟨A, cA⟩ := A
  dsimp only at *
  by_cases hcA : cA = 0
  rotate_left
  · rw [if_pos hcA] at hS
    subst hS
    rw [if_pos hcA] at g2
    rw [← g2] at hO
    subst hO
    repeat (first | refine zck ?_ | refine zcl ?_ | refine zcm ?_ | refine zcn ?_)
    first | refine zcp (by kernel_rfl) ?_ | refine zcq PP_mixed (by kernel_rfl) (by kernel_rfl) ?_
    repeat' (refine zap rfl ?_; first | refine zan rfl ?_ | refine zbe rfl rfl (by omega) ?_)
    all_goals refine zch ?_
    all_goals repeat (first | refine zck ?_ | refine zcl ?_ | refine zcm ?_ | refine zcn ?_)
    refine zci rfl ?_
    repeat (first | refine zck ?_ | refine zcl ?_ | refine zcm ?_ | refine zcn ?_)
    first | refine zcp (by kernel_rfl) ?_ | refine zcq PP_mixed (by kernel_rfl) (by kernel_rfl) ?_
    repeat' (refine zap rfl ?_; first | refine zan rfl ?_ | refine zan rfl ?_ | refine zae 4 rfl rfl rfl rfl rfl rfl rfl ?_ | refine zcb rfl ?_)
    all_goals refine zch ?_
    all_goals repeat (first | refine zck ?_ | refine zcl ?_ | refine zcm ?_ | refine zcn ?_)
    refine run_take [4] rfl ?_
    refine run_emptyR (fun bl => RdEfV w0 bl (efV p0 zeroE) zeroE) RdEfV.zero ?_
    exact cut_ret (leaves_nil (ends_take [0] rfl (ends_two rfl (resOk_pt 1 rfl rfl rfl) rfl ⟨rfl, p0, rfl, rfl⟩)))
  rw [if_neg (fun h => h hcA)] at hS
  repeat (first | refine zck ?_ | refine zcl ?_ | refine zcm ?_ | refine zcn ?_)
  first | refine zcp (by kernel_rfl) ?_ | refine zcq PP_mixed (by kernel_rfl) (by kernel_rfl) ?_
  repeat' (refine zap rfl ?_; first | refine zan rfl ?_ | refine zbf rfl rfl (by omega) ?_)
  all_goals refine zch ?_
  all_goals repeat (first | refine zck ?_ | refine zcl ?_ | refine zcm ?_ | refine zcn ?_)
  refine zcj rfl ?_
  repeat (first | refine zck ?_ | refine zcl ?_ | refine zcm ?_ | refine zcn ?_)
  first | refine zcp (by kernel_rfl) ?_ | refine zcq PP_mixed (by kernel_rfl) (by kernel_rfl) ?_
  repeat' (refine zap rfl ?_; first | refine zar (fun t13 => ?_) | refine zae 7 rfl rfl rfl rfl rfl rfl rfl ?_ | refine zan rfl ?_ | refine zan rfl ?_ | refine zaa 1 rfl rfl rfl ?_ | refine zaa 2 rfl rfl rfl ?_ | (refine zai [] (k3 _ _ am cm _ x.els _ (Nat.le_refl _) (hW.mono fun p hp => by simp [hp]) (hL.mono fun p hp => by simp [hp]) (hsp.e.mono fun p hp => by simp [hp]) w3) rfl rfl rfl (fun _ h => h) ?_; rintro v Γ ⟨qb, rfl, rfl⟩) | refine zce rfl ?_ | refine zcf rfl rfl ?_ | refine zao rfl ?_ | refine zan rfl ?_)
  all_goals refine zch ?_
  all_goals repeat (first | refine zck ?_ | refine zcl ?_ | refine zcm ?_ | refine zcn ?_)
  refine run_share [7] rfl ?_
  generalize refSs st ml x.els zeroE = B at *
  obtain ⟨B, cB⟩ := B
  dsimp only at *
  by_cases hcB : cB = 0
  rotate_left
  · rw [if_pos hcB] at hS
    subst hS
    rw [if_pos hcB] at g2
    rw [← g2] at hO
    subst hO
    repeat (first | refine zck ?_ | refine zcl ?_ | refine zcm ?_ | refine zcn ?_)
    first | refine zcp (by kernel_rfl) ?_ | refine zcq PP_mixed (by kernel_rfl) (by kernel_rfl) ?_
    repeat' (refine zap rfl ?_; first | refine zan rfl ?_ | refine zbe rfl rfl (by omega) ?_)
    all_goals refine zch ?_
    all_goals repeat (first | refine zck ?_ | refine zcl ?_ | refine zcm ?_ | refine zcn ?_)
    refine zci rfl ?_
    repeat (first | refine zck ?_ | refine zcl ?_ | refine zcm ?_ | refine zcn ?_)
    first | refine zcp (by kernel_rfl) ?_ | refine zcq PP_mixed (by kernel_rfl) (by kernel_rfl) ?_
    repeat' (refine zap rfl ?_; first | refine zan rfl ?_ | refine zan rfl ?_ | refine zae 5 rfl rfl rfl rfl rfl rfl rfl ?_ | refine zcb rfl ?_)
    all_goals refine zch ?_
    all_goals repeat (first | refine zck ?_ | refine zcl ?_ | refine zcm ?_ | refine zcn ?_)
    refine run_take [5] rfl ?_
    refine run_emptyR (fun bl => RdEfV w0 bl (efV p0 zeroE) zeroE) RdEfV.zero ?_
    exact cut_ret (leaves_nil (ends_take [0] rfl (ends_two rfl (resOk_pt 1 rfl rfl rfl) rfl ⟨rfl, p0, rfl, rfl⟩)))
  rw [if_neg (fun h => h hcB)] at hS
  subst hS
  rw [if_neg (fun h => h rfl)] at g2
  dsimp only at g2
  repeat (first | refine zck ?_ | refine zcl ?_ | refine zcm ?_ | refine zcn ?_)
  first | refine zcp (by kernel_rfl) ?_ | refine zcq PP_mixed (by kernel_rfl) (by kernel_rfl) ?_
  repeat' (refine zap rfl ?_; first | refine zan rfl ?_ | refine zbf rfl rfl (by omega) ?_)
  all_goals refine zch ?_
  all_goals repeat (first | refine zck ?_ | refine zcl ?_ | refine zcm ?_ | refine zcn ?_)
  refine zcj rfl ?_
  have hJ1 := fun (q1 q2 : P6) => rjoin_p w0 [] q1 q2 o X (g3.mono (by omega)) (sX.mono (by omega))
  have sJ1 : (joinE o X).sm (M + x.expr.size) := joinE_sm g3 sX
  by_cases h4 : x.kind = 4
  · have hnum := wrongS0_num w1 h4
    have h3 : ¬ x.kind = 3 := by omega
    rw [if_neg h3, if_pos h4] at g2
    have sT := timesE_sm x.num sA
    have hT := rtimes_p w0 [] qa A x.num (sA.mono (by omega)) (by omega)
    have hJ2 := fun (q1 q2 : P6) => rjoin_p w0 [] q1 q2 (joinE o X) (timesE A x.num) (sJ1.mono (by omega)) (sT.mono (by omega))
    have hnext : (joinE (joinE o X) (timesE A x.num)).sm (M + x.size) := (joinE_sm sJ1 sT).mono (by omega)
    repeat (first | refine zck ?_ | refine zcl ?_ | refine zcm ?_ | refine zcn ?_)
    first | refine zcp (by kernel_rfl) ?_ | refine zcq PP_mixed (by kernel_rfl) (by kernel_rfl) ?_
    repeat' (refine zap rfl ?_; first | refine zaa 2 rfl rfl rfl ?_ | refine zao rfl ?_ | refine zbc rfl rfl (by omega) ?_)
    all_goals refine zch ?_
    all_goals repeat (first | refine zck ?_ | refine zcl ?_ | refine zcm ?_ | refine zcn ?_)
    refine zci rfl ?_
    repeat (first | refine zck ?_ | refine zcl ?_ | refine zcm ?_ | refine zcn ?_)
    first | refine zcp (by kernel_rfl) ?_ | refine zcq PP_mixed (by kernel_rfl) (by kernel_rfl) ?_
    repeat' (refine zap rfl ?_; first | refine zab 6 rfl rfl rfl ?_ | refine zae 7 rfl rfl rfl rfl rfl rfl rfl ?_ | refine zaa 2 rfl rfl rfl ?_ | (refine zai [1] hT rfl rfl rfl sub_nil ?_; rintro v Γ ⟨qt, rfl, rfl⟩) | refine zao rfl ?_)
    all_goals refine zch ?_
    all_goals repeat (first | refine zck ?_ | refine zcl ?_ | refine zcm ?_ | refine zcn ?_)
    repeat (first | refine zck ?_ | refine zcl ?_ | refine zcm ?_ | refine zcn ?_)
    first | refine zcp (by kernel_rfl) ?_ | refine zcq PP_mixed (by kernel_rfl) (by kernel_rfl) ?_
    repeat' (refine zap rfl ?_; first | refine zaa 2 rfl rfl rfl ?_ | refine zao rfl ?_ | refine zbd rfl rfl (by omega) ?_)
    all_goals refine zch ?_
    all_goals repeat (first | refine zck ?_ | refine zcl ?_ | refine zcm ?_ | refine zcn ?_)
    refine zcj rfl ?_
    repeat (first | refine zck ?_ | refine zcl ?_ | refine zcm ?_ | refine zcn ?_ | refine zco ?_)
    refine run_share [7] rfl ?_
    repeat (first | refine zck ?_ | refine zcl ?_ | refine zcm ?_ | refine zcn ?_)
    first | refine zcp (by kernel_rfl) ?_ | refine zcr [(.read, 0), (.read, 1), (.loud, 2), (.quiet, 3), (.loud, 4), (.loud, 5)] PP_mixed (by kernel_rfl) (by kernel_rfl) ?_ | refine run_drawR PP_mixed (by kernel_rfl) (by kernel_rfl) ?_
    repeat' (refine zap rfl ?_; first | refine zab 4 rfl rfl rfl ?_ | refine zae 7 rfl rfl rfl rfl rfl rfl rfl ?_ | refine zaa 0 rfl rfl rfl ?_ | refine zaa 2 rfl rfl rfl ?_ | (refine zai [5, 3] (hJ1 _ _) rfl rfl rfl sub_nil ?_; rintro v Γ ⟨r1, rfl, rfl⟩) | (refine zai [0, 2] (hJ2 _ _) rfl rfl rfl sub_nil ?_; rintro v Γ ⟨r2, rfl, rfl⟩))
    all_goals refine zch ?_
    all_goals repeat (first | refine zck ?_ | refine zcl ?_ | refine zcm ?_ | refine zcn ?_)
    refine run_take [7, 0, 6] rfl ?_
    repeat' (first | refine zcp (by kernel_rfl) ?_ | (refine zap rfl ?_; first | refine zan rfl ?_ | refine zan rfl ?_ | refine zau rfl rfl (by omega) ?_) | refine zch ?_)
    exact cut_end ⟨rfl, (j + 1, r2, joinE (joinE o X) (timesE A x.num)), ⟨rfl, rfl, rfl, rfl, int_eq (by dsimp only; omega), trivial⟩, ⟨rfl, by dsimp only; omega, g2, _, hnext, by dsimp only; omega⟩, by dsimp only; omega⟩
  by_cases h3 : x.kind = 3
  · rw [if_pos h3] at g2
    have hJ0 := fun (q1 q2 : P6) => rjoin_p w0 [] q1 q2 A B (sA.mono (by omega)) (sB.mono (by omega))
    have sJ : Ef.sm { joinE A B with calls := maxC A.calls B.calls } (PS.sizeL x.body + PS.sizeL x.els) := joinE_sm sA sB
    have hJ2 := fun (q1 q2 : P6) => rjoin_p w0 [] q1 q2 (joinE o X) { joinE A B with calls := maxC A.calls B.calls } (sJ1.mono (by omega)) (sJ.mono (by omega))
    have hnext : (joinE (joinE o X) { joinE A B with calls := maxC A.calls B.calls }).sm (M + x.size) := (joinE_sm sJ1 sJ).mono (by omega)
    repeat (first | refine zck ?_ | refine zcl ?_ | refine zcm ?_ | refine zcn ?_)
    first | refine zcp (by kernel_rfl) ?_ | refine zcq PP_mixed (by kernel_rfl) (by kernel_rfl) ?_
    repeat' (refine zap rfl ?_; first | refine zaa 2 rfl rfl rfl ?_ | refine zao rfl ?_ | refine zbd rfl rfl (by omega) ?_)
    all_goals refine zch ?_
    all_goals repeat (first | refine zck ?_ | refine zcl ?_ | refine zcm ?_ | refine zcn ?_)
    refine zcj rfl ?_
    repeat (first | refine zck ?_ | refine zcl ?_ | refine zcm ?_ | refine zcn ?_)
    first | refine zcp (by kernel_rfl) ?_ | refine zcq PP_mixed (by kernel_rfl) (by kernel_rfl) ?_
    repeat' (refine zap rfl ?_; first | refine zaa 2 rfl rfl rfl ?_ | refine zao rfl ?_ | refine zbc rfl rfl (by omega) ?_)
    all_goals refine zch ?_
    all_goals repeat (first | refine zck ?_ | refine zcl ?_ | refine zcm ?_ | refine zcn ?_)
    refine zci rfl ?_
    repeat (first | refine zck ?_ | refine zcl ?_ | refine zcm ?_ | refine zcn ?_)
    first | refine zcp (by kernel_rfl) ?_ | refine zcq PP_mixed (by kernel_rfl) (by kernel_rfl) ?_
    repeat' (refine zap rfl ?_; first | refine zab 6 rfl rfl rfl ?_ | refine zan rfl ?_ | refine zaa 0 rfl rfl rfl ?_ | refine zcf rfl rfl ?_ | refine zao rfl ?_)
    all_goals refine zch ?_
    all_goals repeat (first | refine zck ?_ | refine zcl ?_ | refine zcm ?_ | refine zcn ?_)
    repeat (first | refine zck ?_ | refine zcl ?_ | refine zcm ?_ | refine zcn ?_)
    first | refine zcp (by kernel_rfl) ?_ | refine zcq PP_mixed (by kernel_rfl) (by kernel_rfl) ?_
    repeat' (refine zap rfl ?_; first | refine zab 6 rfl rfl rfl ?_ | refine zae 7 rfl rfl rfl rfl rfl rfl rfl ?_ | refine zaa 0 rfl rfl rfl ?_ | (refine zai [1, 0] (hJ0 _ _) rfl rfl rfl sub_nil ?_; rintro v Γ ⟨qt, rfl, rfl⟩))
    all_goals refine zch ?_
    all_goals repeat (first | refine zck ?_ | refine zcl ?_ | refine zcm ?_ | refine zcn ?_)
    repeat (first | refine zck ?_ | refine zcl ?_ | refine zcm ?_ | refine zcn ?_)
    first | refine zcp (by kernel_rfl) ?_ | refine zcq PP_mixed (by kernel_rfl) (by kernel_rfl) ?_
    repeat' (refine zap rfl ?_; first | refine zae 7 rfl rfl rfl rfl rfl rfl rfl ?_ | refine zan rfl ?_ | refine zao rfl ?_)
    all_goals refine zch ?_
    all_goals repeat (first | refine zck ?_ | refine zcl ?_ | refine zcm ?_ | refine zcn ?_)
    refine run_exch 0 (rdV w0 (efV qt { joinE A B with calls := maxC A.calls B.calls }) { joinE A B with calls := maxC A.calls B.calls }) rfl (fun g hg => Rds.mono (fun bl h => RdEfV.calls h _) g hg) rfl ?_
    refine run_share [7] rfl ?_
    repeat (first | refine zck ?_ | refine zcl ?_ | refine zcm ?_ | refine zcn ?_)
    first | refine zcp (by kernel_rfl) ?_ | refine zcr [(.read, 0), (.read, 1), (.loud, 2), (.quiet, 3), (.loud, 4), (.loud, 5)] PP_mixed (by kernel_rfl) (by kernel_rfl) ?_ | refine run_drawR PP_mixed (by kernel_rfl) (by kernel_rfl) ?_
    repeat' (refine zap rfl ?_; first | refine zab 4 rfl rfl rfl ?_ | refine zae 7 rfl rfl rfl rfl rfl rfl rfl ?_ | refine zaa 0 rfl rfl rfl ?_ | refine zaa 2 rfl rfl rfl ?_ | (refine zai [5, 3] (hJ1 _ _) rfl rfl rfl sub_nil ?_; rintro v Γ ⟨r1, rfl, rfl⟩) | (refine zai [0, 2] (hJ2 _ qt) rfl rfl rfl sub_nil ?_; rintro v Γ ⟨r2, rfl, rfl⟩))
    all_goals refine zch ?_
    all_goals repeat (first | refine zck ?_ | refine zcl ?_ | refine zcm ?_ | refine zcn ?_)
    refine run_take [7, 0, 6] rfl ?_
    repeat' (first | refine zcp (by kernel_rfl) ?_ | (refine zap rfl ?_; first | refine zan rfl ?_ | refine zan rfl ?_ | refine zau rfl rfl (by omega) ?_) | refine zch ?_)
    exact cut_end ⟨rfl, (j + 1, r2, joinE (joinE o X) { joinE A B with calls := maxC A.calls B.calls }), ⟨rfl, rfl, rfl, rfl, int_eq (by dsimp only; omega), trivial⟩, ⟨rfl, by dsimp only; omega, g2, _, hnext, by dsimp only; omega⟩, by dsimp only; omega⟩
  · rw [if_neg h3, if_neg h4] at g2
    have hJ2 := fun (q1 q2 : P6) => rjoin_p w0 [] q1 q2 (joinE o X) A (sJ1.mono (by omega)) (sA.mono (by omega))
    have hnext : (joinE (joinE o X) A).sm (M + x.size) := (joinE_sm sJ1 sA).mono (by omega)
    repeat (first | refine zck ?_ | refine zcl ?_ | refine zcm ?_ | refine zcn ?_)
    first | refine zcp (by kernel_rfl) ?_ | refine zcq PP_mixed (by kernel_rfl) (by kernel_rfl) ?_
    repeat' (refine zap rfl ?_; first | refine zaa 2 rfl rfl rfl ?_ | refine zao rfl ?_ | refine zbd rfl rfl (by omega) ?_)
    all_goals refine zch ?_
    all_goals repeat (first | refine zck ?_ | refine zcl ?_ | refine zcm ?_ | refine zcn ?_)
    refine zcj rfl ?_
    repeat (first | refine zck ?_ | refine zcl ?_ | refine zcm ?_ | refine zcn ?_)
    first | refine zcp (by kernel_rfl) ?_ | refine zcq PP_mixed (by kernel_rfl) (by kernel_rfl) ?_
    repeat' (refine zap rfl ?_; first | refine zaa 2 rfl rfl rfl ?_ | refine zao rfl ?_ | refine zbd rfl rfl (by omega) ?_)
    all_goals refine zch ?_
    all_goals repeat (first | refine zck ?_ | refine zcl ?_ | refine zcm ?_ | refine zcn ?_)
    refine zcj rfl ?_
    repeat (first | refine zck ?_ | refine zcl ?_ | refine zcm ?_ | refine zcn ?_ | refine zco ?_)
    refine run_share [6] rfl ?_
    repeat (first | refine zck ?_ | refine zcl ?_ | refine zcm ?_ | refine zcn ?_)
    first | refine zcp (by kernel_rfl) ?_ | refine zcr [(.read, 0), (.read, 1), (.loud, 2), (.quiet, 3), (.loud, 4), (.loud, 5)] PP_mixed (by kernel_rfl) (by kernel_rfl) ?_ | refine run_drawR PP_mixed (by kernel_rfl) (by kernel_rfl) ?_
    repeat' (refine zap rfl ?_; first | refine zab 3 rfl rfl rfl ?_ | refine zae 6 rfl rfl rfl rfl rfl rfl rfl ?_ | refine zaa 0 rfl rfl rfl ?_ | refine zaa 2 rfl rfl rfl ?_ | (refine zai [4, 2] (hJ1 _ _) rfl rfl rfl sub_nil ?_; rintro v Γ ⟨r1, rfl, rfl⟩) | (refine zai [0, 3] (hJ2 _ _) rfl rfl rfl sub_nil ?_; rintro v Γ ⟨r2, rfl, rfl⟩))
    all_goals refine zch ?_
    all_goals repeat (first | refine zck ?_ | refine zcl ?_ | refine zcm ?_ | refine zcn ?_)
    refine run_take [6, 0, 5] rfl ?_
    repeat' (first | refine zcp (by kernel_rfl) ?_ | (refine zap rfl ?_; first | refine zan rfl ?_ | refine zan rfl ?_ | refine zau rfl rfl (by omega) ?_) | refine zch ?_)
    exact cut_end ⟨rfl, (j + 1, r2, joinE (joinE o X) A), ⟨rfl, rfl, rfl, rfl, int_eq (by dsimp only; omega), trivial⟩, ⟨rfl, by dsimp only; omega, g2, _, hnext, by dsimp only; omega⟩, by dsimp only; omega⟩
end Go.Proofs.YtagmagnkigjggaaGreatDoor

