import Derived.Test.YtijbnjaackhlcaaGreatDoorPart7
import Derived.Test.YtijbnjaackhlcaaGreatDoorPart4
import Derived.Test.YtijbnjaackhlcaaGreatDoorPart3
/- Lemmas and walks for the claims of this seat (own work): Yr3 Yw0. -/
namespace Sim
theorem oneT_len (K : ByteArray → Option ByteArray) (all there : TV) (s : PS) : (oneT K all there s).1.length ≤ all.length + 1 ∧ (oneT K all there s).2.1.length ≤ there.length + 1 := by
  unfold oneT
  split
  · exact ⟨by dsimp only; omega, by dsimp only; omega⟩
  split
  · split
    · exact ⟨by dsimp only; omega, by dsimp only; omega⟩
    · exact ⟨by simp, by simp⟩
  split
  · exact ⟨by dsimp only; omega, by dsimp only; omega⟩
  split
  · exact ⟨by dsimp only; omega, by dsimp only; omega⟩
  · exact ⟨by dsimp only; omega, by dsimp only; omega⟩
mutual
theorem tyS_len (K : ByteArray → Option ByteArray) : ∀ (s : PS) (all there : TV), (tyS K s all there).1.length ≤ all.length + s.size
  | .mk k a n e xs ys, all, there => by
    have h1 := (oneT_len K all there (.mk k a n e xs ys)).1
    have hs : (PS.mk k a n e xs ys).size = 1 + e.size + PS.sizeL xs + PS.sizeL ys := rfl
    have h2 := tySs_len K xs (oneT K all there (.mk k a n e xs ys)).1 (oneT K all there (.mk k a n e xs ys)).2.1
    have h3 := tySs_len K ys (tySs K xs (oneT K all there (.mk k a n e xs ys)).1 (oneT K all there (.mk k a n e xs ys)).2.1).1 (oneT K all there (.mk k a n e xs ys)).2.1
    rw [tyS_mk]
    split
    · omega
    split
    · dsimp only; omega
    · dsimp only; omega
theorem tySs_len (K : ByteArray → Option ByteArray) : ∀ (l : List PS) (all there : TV), (tySs K l all there).1.length ≤ all.length + PS.sizeL l
  | [], all, there => by rw [tySs]; exact Nat.le_add_right _ _
  | s :: l, all, there => by
    have h1 := tyS_len K s all there
    have h2 := tySs_len K l (tyS K s all there).1 (tyS K s all there).2.1
    rw [tySs, PS.sizeL]
    split
    · dsimp only; omega
    · omega
end
end Sim
namespace Go.Vc
open Sim
abbrev OwnT (w0 : World) (v0 : Value) (A0 : TV) (v : Value) (A : TV) : Asn := Rds fun bl => (v = v0 ∧ A = A0) ∨ RdSl w0 bl encT 2 v A
theorem ownT_rd {w0 : World} {sh sh' bl : Shared} {v0 v : Value} {A0 A : TV} (h : (v = v0 ∧ A = A0) ∨ RdSl w0 bl encT 2 v A) (h0 : RdSl w0 sh encT 2 v0 A0) (h1 : ∀ p ∈ sh, p ∈ sh') (h2 : ∀ p ∈ bl, p ∈ sh') : RdSl w0 sh' encT 2 v A := by
  rcases h with ⟨rfl, rfl⟩ | h
  · exact h0.mono h1
  · exact h.mono h2
theorem tv_one : ∀ A : TV, allOne (A.flatMap encT) = true
  | [] => rfl
  | _ :: A => tv_one A
end Go.Vc
namespace Go.Proofs.YtijbnjaackhlcaaGreatDoor
open Go.Vc Sim
theorem typeR_own (w0 : World) (sh : Shared) (v0 v : Value) (A0 A : TV) (s : ByteArray) (h0 : RdSl w0 sh encT 2 v0 A0) (hb : A.length ≤ 1000000) :
    Vc.Fn PP w0 sh 56 [v, .string s] [OwnT w0 v0 A0 v A] (fun r Γ => r = .int .i64 (typT A s) ∧ Γ = [OwnT w0 v0 A0 v A]) := by
  refine (Fn.lendR (φ := fun bl => (v = v0 ∧ A = A0) ∨ RdSl w0 bl encT 2 v A) en56 (fun sh1 bl h1 h2 h3 => typeR_spec w0 sh1 v A s (ownT_rd h3 h0 h1 h2) (by omega))).mono ?_
  rintro r Γ ⟨_, ⟨rfl, rfl⟩, rfl⟩
  exact ⟨rfl, rfl⟩
theorem typesOfR_own (w0 : World) (sh : Shared) (st : List (ByteArray × ByteArray)) (hst : st.length ≤ 1000000) (ast akn aml av : Option Addr) (cst ckn cml cv : Nat) (v0 : Value) (A0 A : TV) (e : PE) (va vo : Value) (h0 : RdSl w0 sh encT 2 v0 A0) (hb : A.length ≤ 1000000) (hs : e.size ≤ 100000) (hW : RdW w0 sh (.slice ast st.length cst) (.slice akn ctNames.length ckn) (.slice aml ctA.length cml) st) (ha : RdEl w0 sh va e.args) (ho : RdEl w0 sh vo e.or) :
    Vc.Fn PP w0 sh 17 [.agg #[.slice ast st.length cst, .slice akn ctNames.length ckn, .slice aml ctA.length cml], .slice av A.length cv, .agg (List.toArray (peC e.kind e.num e.name e.meth va vo))] [OwnT w0 v0 A0 (.slice av A.length cv) A]
      (fun r Γ => r = resT (typeOf (envR st A) e) ∧ Γ = [OwnT w0 v0 A0 (.slice av A.length cv) A]) := by
  refine (Fn.lendR (φ := fun bl => (.slice av A.length cv = v0 ∧ A = A0) ∨ RdSl w0 bl encT 2 (.slice av A.length cv) A) en17 (fun sh1 bl h1 h2 h3 => typesOfR_spec w0 sh1 st A (by omega) (by omega) ast akn aml av cst ckn cml cv e va vo hs (hW.mono h1) (ownT_rd h3 h0 h1 h2) (ha.mono h1) (ho.mono h1))).mono ?_
  rintro r Γ ⟨_, ⟨rfl, rfl⟩, rfl⟩
  exact ⟨rfl, rfl⟩
def StR (w0 : World) (st : List (ByteArray × ByteArray)) (n : Nat) : Prop := ∀ (sh : Shared) (ast akn aml aA aT : Option Addr) (cst ckn cml cA cT : Nat) (A0 T0 : TV) (v : Value) (l : List PS), PS.sizeL l ≤ n → RdW w0 sh (.slice ast st.length cst) (.slice akn ctNames.length ckn) (.slice aml ctA.length cml) st → RdSl w0 sh encT 2 (.slice aA A0.length cA) A0 → RdSl w0 sh encT 2 (.slice aT T0.length cT) T0 → RdSt w0 sh v l → A0.length + PS.sizeL l ≤ 500000 → T0.length + PS.sizeL l ≤ 500000 →
  Vc.Fn PP w0 sh 34 [.agg #[.slice ast st.length cst, .slice akn ctNames.length ckn, .slice aml ctA.length cml], .slice aA A0.length cA, .slice aT T0.length cT, v] []
    (fun r Γ => ∃ a c, r = .tuple #[.slice a (tySs (fun s => lastK st s none) l A0 T0).1.length c, .int .i64 (tySs (fun s => lastK st s none) l A0 T0).2] ∧ Γ = [OwnT w0 (.slice aA A0.length cA) A0 (.slice a (tySs (fun s => lastK st s none) l A0 T0).1.length c) (tySs (fun s => lastK st s none) l A0 T0).1])
theorem stR_own (w0 : World) (sh : Shared) (st : List (ByteArray × ByteArray)) (n : Nat) (hS : StR w0 st n) (ast akn aml aA aT : Option Addr) (cst ckn cml cA cT : Nat) (v0 u0 : Value) (A0 T0 A T : TV) (v : Value) (l : List PS) (hl : PS.sizeL l ≤ n) (hW : RdW w0 sh (.slice ast st.length cst) (.slice akn ctNames.length ckn) (.slice aml ctA.length cml) st) (h0 : RdSl w0 sh encT 2 v0 A0) (g0 : RdSl w0 sh encT 2 u0 T0) (hv : RdSt w0 sh v l) (b1 : A.length + PS.sizeL l ≤ 500000) (b2 : T.length + PS.sizeL l ≤ 500000)
    (A' : TV) (c' : Int) (hr : tySs (fun s => lastK st s none) l A T = (A', c')) :
    Vc.Fn PP w0 sh 34 [.agg #[.slice ast st.length cst, .slice akn ctNames.length ckn, .slice aml ctA.length cml], .slice aA A.length cA, .slice aT T.length cT, v] [OwnT w0 v0 A0 (.slice aA A.length cA) A, OwnT w0 u0 T0 (.slice aT T.length cT) T]
    (fun r Γ => ∃ a c, r = .tuple #[.slice a A'.length c, .int .i64 c'] ∧ Γ = [OwnT w0 (.slice aA A.length cA) A (.slice a A'.length c) A', OwnT w0 u0 T0 (.slice aT T.length cT) T, OwnT w0 v0 A0 (.slice aA A.length cA) A]) := by
  refine (Fn.lendR (φ := fun bl => (.slice aA A.length cA = v0 ∧ A = A0) ∨ RdSl w0 bl encT 2 (.slice aA A.length cA) A) en34 (fun sh1 bl1 h1 h2 h3 => Fn.lendR (φ := fun bl => (.slice aT T.length cT = u0 ∧ T = T0) ∨ RdSl w0 bl encT 2 (.slice aT T.length cT) T) en34 (fun sh2 bl2 g1 g2 g3 => hS sh2 ast akn aml aA aT cst ckn cml cA cT A T v l hl ((hW.mono h1).mono g1) ((ownT_rd h3 h0 h1 h2).mono g1) (ownT_rd g3 g0 (fun p hp => g1 p (h1 p hp)) g2) ((hv.mono h1).mono g1) b1 b2))).mono ?_
  rintro r Γ ⟨_, ⟨_, ⟨a, c, rfl, rfl⟩, rfl⟩, rfl⟩
  rw [hr]
  exact ⟨a, c, rfl, rfl⟩
theorem ownT_join {w0 : World} {v0 v v' : Value} {A0 A A' : TV} (b1 b2 : Shared) (h1 : (v' = v ∧ A' = A) ∨ RdSl w0 b1 encT 2 v' A') (h2 : (v = v0 ∧ A = A0) ∨ RdSl w0 b2 encT 2 v A) : (v' = v0 ∧ A' = A0) ∨ RdSl w0 (b1 ++ b2) encT 2 v' A' := by
  rcases h1 with ⟨rfl, rfl⟩ | h1
  · rcases h2 with h2 | h2
    · exact .inl h2
    · exact .inr (h2.mono fun p hp => List.mem_append_right _ hp)
  · exact .inr (h1.mono fun p hp => List.mem_append_left _ hp)
set_option maxHeartbeats 16000000 in
theorem stmtsR_spec (w0 : World) (st : List (ByteArray × ByteArray)) (hst : st.length ≤ 1000000) : ∀ (n : Nat), n ≤ 90000 → StR w0 st n := by
  intro n
  induction n using Nat.strongRecOn with
  | _ n ih =>
  intro hn sh ast akn aml aA aT cst ckn cml cA cT A0 T0 v l hs hW hA hT hl hbA hbT
  have hlen := PS.sizeL_len l
  obtain ⟨a0, c0, rfl, hc0⟩ := hl.len
  obtain ⟨K, hK⟩ : ∃ K : ByteArray → Option ByteArray, K = fun s => lastK st s none := ⟨_, rfl⟩
  have hE : ∀ T : TV, envR st T = envT K T := fun T => by rw [hK]; rfl
  obtain ⟨O, hO⟩ : ∃ O, tySs K l A0 T0 = O := ⟨_, rfl⟩
  rw [← hK, hO]
  refine fn_of_run en34 fn34 rfl rfl rfl ?_
  repeat (first | refine zck ?_ | refine zcl ?_ | refine zcm ?_ | refine zcn ?_)
  first | refine zcp (by kernel_rfl) ?_ | refine zcq PP_mixed (by kernel_rfl) (by kernel_rfl) ?_
  repeat' (refine zap rfl ?_; first | refine zaq (cs := [_, _, _]) rfl (fun tw => ?_) | refine zan rfl ?_)
  all_goals refine zch ?_
  all_goals repeat (first | refine zck ?_ | refine zcl ?_ | refine zcm ?_ | refine zcn ?_)
  refine run_share [0] rfl ?_
  refine run_emptyR (fun bl => ((.slice aT T0.length cT : Value) = .slice aT T0.length cT ∧ T0 = T0) ∨ RdSl w0 bl encT 2 (.slice aT T0.length cT) T0) (.inl ⟨rfl, rfl⟩) ?_
  refine run_emptyR (fun bl => ((.slice aA A0.length cA : Value) = .slice aA A0.length cA ∧ A0 = A0) ∨ RdSl w0 bl encT 2 (.slice aA A0.length cA) A0) (.inl ⟨rfl, rfl⟩) ?_
  repeat (first | refine zck ?_ | refine zcl ?_ | refine zcm ?_ | refine zcn ?_)
  first | refine zcp (by kernel_rfl) ?_ | refine zcq PP_mixed (by kernel_rfl) (by kernel_rfl) ?_
  repeat' (refine zap rfl ?_; first | refine zan rfl ?_)
  all_goals refine zch ?_
  all_goals repeat (first | refine zck ?_ | refine zcl ?_ | refine zcm ?_ | refine zcn ?_)
  refine run_loop (S := Nat × (Option Addr × Nat × TV) × (Option Addr × Nat × TV)) (fun s => [(1, .slice s.2.1.1 s.2.1.2.2.length s.2.1.2.1), (2, .slice s.2.2.1 s.2.2.2.2.length s.2.2.2.1), (3, .slice a0 l.length c0), (4, .pointer (some ⟨tw, 0, none⟩)), (10, .int .i64 (s.1 : Int))])
    (fun s Γ => Γ = [OwnT w0 (.slice aA A0.length cA) A0 (.slice s.2.1.1 s.2.1.2.2.length s.2.1.2.1) s.2.1.2.2, OwnT w0 (.slice aT T0.length cT) T0 (.slice s.2.2.1 s.2.2.2.2.length s.2.2.2.1) s.2.2.2.2] ∧ s.1 ≤ l.length ∧ tySs K (l.drop s.1) s.2.1.2.2 s.2.2.2.2 = O ∧ s.2.1.2.2.length + PS.sizeL (l.drop s.1) ≤ 500000 ∧ s.2.2.2.2.length + PS.sizeL (l.drop s.1) ≤ 500000) (fun s => l.length - s.1) (0, (aA, cA, A0), (aT, cT, T0))
    ⟨rfl, rfl, rfl, rfl, rfl, trivial⟩ ⟨rfl, Nat.zero_le _, hO, hbA, hbT⟩ ?_
  rintro ⟨j, ⟨a, c, A⟩, ⟨a', c', T⟩⟩ Γ junk ⟨rfl, g1, g2, g3, g4⟩
  dsimp only at g1 g2 g3 g4 ⊢
  by_cases hj : j < l.length
  rotate_left
  · rw [List.drop_of_length_le (by omega), tySs] at g2
    subst g2
    repeat (first | refine zck ?_ | refine zcl ?_ | refine zcm ?_ | refine zcn ?_)
    first | refine zcp (by kernel_rfl) ?_ | refine zcq PP_mixed (by kernel_rfl) (by kernel_rfl) ?_
    repeat' (refine zap rfl ?_; first | refine zan rfl ?_ | refine zce rfl ?_ | refine zbh rfl rfl (by omega) ?_)
    all_goals refine zch ?_
    all_goals repeat (first | refine zck ?_ | refine zcl ?_ | refine zcm ?_ | refine zcn ?_)
    refine zcj rfl ?_
    refine cut_exit rfl rfl ?_
    repeat' (first | refine zck ?_ | refine zcp (by kernel_rfl) ?_ | (refine zap rfl ?_; first | refine zan rfl ?_ | refine zan rfl ?_) | refine zch ?_)
    refine run_take [0] rfl ?_
    exact ret_tmp2 rfl ⟨a, c, rfl, rfl⟩
  obtain ⟨x, hx⟩ : ∃ x, l[j]? = some x := ⟨_, List.getElem?_eq_getElem hj⟩
  obtain ⟨b, off, cc, Ty, fr, cs, rfl, e2, e3, e4, _⟩ := hl.at hx
  obtain ⟨va, vo, vb, ve, rfl, hsp⟩ := e4.sp
  have hsp0 := hsp
  obtain ⟨p1, q1, hva, _⟩ := hsp.a.len
  obtain ⟨p2, q2, hvo, _⟩ := hsp.o.len
  obtain ⟨p3, q3, hvb, _⟩ := hsp.b.len
  obtain ⟨p4, q4, hve, _⟩ := hsp.e.len
  subst hva; subst hvo; subst hvb; subst hve
  have hxm := List.mem_iff_getElem?.2 ⟨_, hx⟩
  have hxn := PS.sizeL_mem hxm
  have hsz : x.size = 1 + x.expr.size + PS.sizeL x.body + PS.sizeL x.els := by cases x; rfl
  have hd : l.drop j = x :: l.drop (j + 1) := by
    rw [List.drop_eq_getElem_cons hj]
    congr 1
    exact (List.getElem?_eq_some_iff.1 hx).2
  rw [hd, PS.sizeL] at g3 g4
  rw [hd, tySs] at g2
  have hhas := has_spec w0 [] x.kind
  obtain ⟨⟨A1, T1, k1⟩, hO1⟩ : ∃ O1, oneT K A T x = O1 := ⟨_, rfl⟩
  have htyS := tyS_eq K x A T A1 T1 k1 hO1
  have hol := oneT_len K A T x
  rw [hO1] at hol
  dsimp only at hol
  obtain ⟨⟨A2, k2⟩, hO2⟩ : ∃ O2, tySs K x.body A1 T1 = O2 := ⟨_, rfl⟩
  have hl2 := tySs_len K x.body A1 T1
  rw [hO2] at htyS hl2
  dsimp only at htyS hl2
  obtain ⟨⟨A3, k3⟩, hO3⟩ : ∃ O3, tySs K x.els A2 T1 = O3 := ⟨_, rfl⟩
  have hl3 := tySs_len K x.els A2 T1
  rw [hO3] at htyS hl3
  dsimp only at htyS hl3
  obtain ⟨SS, hSS⟩ : ∃ S, tyS K x A T = S := ⟨_, rfl⟩
  rw [hSS] at g2 htyS
  have kB := ih (PS.sizeL x.body) (by omega) (by omega)
  have kE := ih (PS.sizeL x.els) (by omega) (by omega)
  clear ih
  have hOf := typesOfR_own w0 sh st hst ast akn aml a' cst ckn cml c' _ T0 T x.expr _ _ hT (by omega) (by omega) hW hsp0.a hsp0.o
  rw [hE] at hOf
  unfold oneT exT at hO1
  repeat (first | refine zck ?_ | refine zcl ?_ | refine zcm ?_ | refine zcn ?_)
  first | refine zcp (by kernel_rfl) ?_ | refine zcq PP_mixed (by kernel_rfl) (by kernel_rfl) ?_
  repeat' (refine zap rfl ?_; first | refine zan rfl ?_ | refine zce rfl ?_ | refine zbg rfl rfl (by omega) ?_)
  all_goals refine zch ?_
  all_goals repeat (first | refine zck ?_ | refine zcl ?_ | refine zcm ?_ | refine zcn ?_)
  refine zci rfl ?_
  repeat (first | refine zck ?_ | refine zcl ?_ | refine zcm ?_ | refine zcn ?_)
  first | refine zcp (by kernel_rfl) ?_ | refine zcq PP_mixed (by kernel_rfl) (by kernel_rfl) ?_
  repeat' (refine zap rfl ?_; first | refine zad rfl (fun hF Γ w h1 h2 => e2 hF Γ w (fun p hp => h1 p (.tail _ hp)) h2) (e3 _ (by omega)) ?_ | refine zar (fun t11 => ?_) | refine zan rfl ?_ | refine zae 2 rfl rfl rfl rfl rfl rfl rfl ?_ | refine zas rfl rfl (by omega) ?_)
  all_goals refine zch ?_
  all_goals repeat (first | refine zck ?_ | refine zcl ?_ | refine zcm ?_ | refine zcn ?_)
  refine run_share [2] rfl ?_
  repeat (first | refine zck ?_ | refine zcl ?_ | refine zcm ?_ | refine zcn ?_)
  first | refine zcp (by kernel_rfl) ?_ | refine zcq PP_mixed (by kernel_rfl) (by kernel_rfl) ?_
  repeat' (refine zap rfl ?_; first | refine zan rfl ?_)
  all_goals refine zch ?_
  all_goals repeat (first | refine zck ?_ | refine zcl ?_ | refine zcm ?_ | refine zcn ?_)
  repeat (first | refine zck ?_ | refine zcl ?_ | refine zcm ?_ | refine zcn ?_)
  first | refine zcp (by kernel_rfl) ?_ | refine zcq PP_mixed (by kernel_rfl) (by kernel_rfl) ?_
  repeat' (refine zap rfl ?_; first | refine zaa 0 rfl rfl rfl ?_ | refine zah [] hhas rfl rfl rfl sub_nil rfl ?_ | refine zao rfl ?_)
  all_goals refine zch ?_
  all_goals repeat (first | refine zck ?_ | refine zcl ?_ | refine zcm ?_ | refine zcn ?_)
  have hsub1 : ∀ p ∈ sh, p ∈ (t11, Obj.cells (List.toArray (psC x (.slice p1 x.expr.args.length q1) (.slice p2 x.expr.or.length q2) (.slice p3 x.body.length q3) (.slice p4 x.els.length q4))) 131 (0, 0)) :: (tw, Obj.cells (List.toArray [Value.slice ast st.length cst, Value.slice akn ctNames.length ckn, Value.slice aml ctA.length cml]) 53 (0, 0)) :: sh := fun p hp => .tail _ (.tail _ hp)
  obtain ⟨X, hX⟩ : ∃ X, (if hasEx x.kind = true then typeOf (envT K T) x.expr else ((0 : Int), (0 : Int))) = X := ⟨_, rfl⟩
  rw [hX] at hO1
  obtain ⟨tt, ec⟩ := X
  dsimp only at hO1
  by_cases hec : ec = 0
  rotate_left
  · rw [if_pos hec] at hO1
    cases hO1
    rw [if_pos hec] at htyS
    subst htyS
    dsimp only at g2
    rw [if_pos hec] at g2
    subst g2
    cases hE2 : hasEx x.kind with
    | false => rw [hE2, if_neg (by decide)] at hX; cases hX; exact absurd rfl hec
    | true =>
      rw [hE2, if_pos rfl] at hX
      rw [hX] at hOf
      refine zci rfl ?_
      repeat (first | refine zck ?_ | refine zcl ?_ | refine zcm ?_ | refine zcn ?_)
      first | refine zcp (by kernel_rfl) ?_ | refine zcq PP_mixed (by kernel_rfl) (by kernel_rfl) ?_
      repeat' (refine zap rfl ?_; first | refine zan rfl ?_ | refine zan rfl ?_ | refine zaa 0 rfl rfl rfl ?_ | refine zaa 1 rfl rfl rfl ?_ | (refine zai [1] hOf rfl rfl rfl hsub1 ?_; rintro v Γ ⟨rfl, rfl⟩) | refine zao rfl ?_ | refine zan rfl ?_)
      all_goals refine zch ?_
      all_goals repeat (first | refine zck ?_ | refine zcl ?_ | refine zcm ?_ | refine zcn ?_)
      repeat (first | refine zck ?_ | refine zcl ?_ | refine zcm ?_ | refine zcn ?_)
      first | refine zcp (by kernel_rfl) ?_ | refine zcq PP_mixed (by kernel_rfl) (by kernel_rfl) ?_
      repeat' (refine zap rfl ?_; first | refine zan rfl ?_ | refine zbe rfl rfl (by omega) ?_)
      all_goals refine zch ?_
      all_goals repeat (first | refine zck ?_ | refine zcl ?_ | refine zcm ?_ | refine zcn ?_)
      refine zci rfl ?_
      repeat (first | refine zck ?_ | refine zcl ?_ | refine zcm ?_ | refine zcn ?_)
      first | refine zcp (by kernel_rfl) ?_ | refine zcq PP_mixed (by kernel_rfl) (by kernel_rfl) ?_
      repeat' (refine zap rfl ?_; first | refine zan rfl ?_ | refine zan rfl ?_)
      all_goals refine zch ?_
      all_goals repeat (first | refine zck ?_ | refine zcl ?_ | refine zcm ?_ | refine zcn ?_)
      refine run_take [1] rfl ?_
      exact qret2 (fun _ _ h => h) rfl ⟨a, c, rfl, rfl⟩
  subst hec
  rw [if_neg (fun q => q rfl)] at hO1
  have hTA := typeR_own w0 sh _ (.slice a A.length c) A0 A x.name hA (by omega)
  refine run_bind_eq (l' := [(1, .slice a A.length c), (2, .slice a' T.length c'), (3, .slice (some ⟨b, off, none⟩) l.length c0), (4, .pointer (some ⟨tw, 0, none⟩)), (10, .int .i64 (j : Int)), (11, .pointer (some ⟨t11, 0, none⟩)), (12, .int .i64 tt)])
    (Γ' := [OwnT w0 (.slice aA A0.length cA) A0 (.slice a A.length c) A, OwnT w0 (.slice aT T0.length cT) T0 (.slice a' T.length c') T]) ?_ ?_
  · cases hE2 : hasEx x.kind with
    | false =>
      rw [hE2, if_neg (by decide)] at hX
      cases hX
      refine zcj rfl ?_
      repeat (first | refine zck ?_ | refine zcl ?_ | refine zcm ?_ | refine zcn ?_ | refine zco ?_)
      exact cut_end ⟨rfl, ⟨rfl, rfl, rfl, rfl, rfl, rfl, rfl, trivial⟩, rfl⟩
    | true =>
      rw [hE2, if_pos rfl] at hX
      rw [hX] at hOf
      refine zci rfl ?_
      repeat (first | refine zck ?_ | refine zcl ?_ | refine zcm ?_ | refine zcn ?_)
      first | refine zcp (by kernel_rfl) ?_ | refine zcq PP_mixed (by kernel_rfl) (by kernel_rfl) ?_
      repeat' (refine zap rfl ?_; first | refine zan rfl ?_ | refine zan rfl ?_ | refine zaa 0 rfl rfl rfl ?_ | refine zaa 1 rfl rfl rfl ?_ | (refine zai [1] hOf rfl rfl rfl hsub1 ?_; rintro v Γ ⟨rfl, rfl⟩) | refine zao rfl ?_ | refine zan rfl ?_)
      all_goals refine zch ?_
      all_goals repeat (first | refine zck ?_ | refine zcl ?_ | refine zcm ?_ | refine zcn ?_)
      refine run_take [1, 0] rfl ?_
      repeat (first | refine zck ?_ | refine zcl ?_ | refine zcm ?_ | refine zcn ?_)
      first | refine zcp (by kernel_rfl) ?_ | refine zcq PP_mixed (by kernel_rfl) (by kernel_rfl) ?_
      repeat' (refine zap rfl ?_; first | refine zan rfl ?_ | refine zbf rfl rfl (by omega) ?_)
      all_goals refine zch ?_
      all_goals repeat (first | refine zck ?_ | refine zcl ?_ | refine zcm ?_ | refine zcn ?_)
      refine zcj rfl ?_
      repeat (first | refine zck ?_ | refine zcl ?_ | refine zcm ?_ | refine zcn ?_ | refine zco ?_)
      exact cut_end ⟨rfl, ⟨rfl, rfl, rfl, rfl, rfl, rfl, rfl, trivial⟩, rfl⟩
  intro junk1
  clear hX hOf hhas
  by_cases hbad : x.kind = 0 ∧ typT A x.name ≠ 0
  · obtain ⟨h0, hty⟩ := hbad
    rw [if_pos h0, if_pos hty] at hO1
    cases hO1
    rw [if_pos (by decide)] at htyS
    subst htyS
    dsimp only at g2
    rw [if_pos (by decide)] at g2
    subst g2
    repeat (first | refine zck ?_ | refine zcl ?_ | refine zcm ?_ | refine zcn ?_)
    first | refine zcp (by kernel_rfl) ?_ | refine zcq PP_mixed (by kernel_rfl) (by kernel_rfl) ?_
    repeat' (refine zap rfl ?_; first | refine zaa 0 rfl rfl rfl ?_ | refine zao rfl ?_ | refine zbc rfl rfl (by omega) ?_)
    all_goals refine zch ?_
    all_goals repeat (first | refine zck ?_ | refine zcl ?_ | refine zcm ?_ | refine zcn ?_)
    refine zci rfl ?_
    repeat (first | refine zck ?_ | refine zcl ?_ | refine zcm ?_ | refine zcn ?_)
    first | refine zcp (by kernel_rfl) ?_ | refine zcq PP_mixed (by kernel_rfl) (by kernel_rfl) ?_
    repeat' (refine zap rfl ?_; first | refine zan rfl ?_ | refine zaa 0 rfl rfl rfl ?_ | (refine zai [0] hTA rfl rfl rfl hsub1 ?_; rintro v Γ ⟨rfl, rfl⟩) | refine zao rfl ?_ | refine zbe rfl rfl (by omega) ?_)
    all_goals refine zch ?_
    all_goals repeat (first | refine zck ?_ | refine zcl ?_ | refine zcm ?_ | refine zcn ?_)
    refine zci rfl ?_
    repeat (first | refine zck ?_ | refine zcl ?_ | refine zcm ?_ | refine zcn ?_)
    first | refine zcp (by kernel_rfl) ?_ | refine zcq PP_mixed (by kernel_rfl) (by kernel_rfl) ?_
    repeat' (refine zap rfl ?_; first | refine zan rfl ?_ | refine zan rfl ?_)
    all_goals refine zch ?_
    all_goals repeat (first | refine zck ?_ | refine zcl ?_ | refine zcm ?_ | refine zcn ?_)
    refine run_take [0] rfl ?_
    exact qret2 (fun _ _ h => h) rfl ⟨a, c, rfl, rfl⟩
  have hk0 : x.kind ≠ 0 → (if x.kind = 1 ∧ typT T x.name = 0 then (A, T, (16 : Int)) else if (x.kind = 1 ∧ typT T x.name ≠ tt) ∨ (x.kind = 3 ∧ tt ≠ 2) ∨ (x.kind = 5 ∧ tt ≠ 1) then (A, T, 17) else (A, T, 0)) = (A1, T1, k1) := fun h => by rw [if_neg h] at hO1; exact hO1
  have hAT : x.kind ≠ 0 → A1 = A ∧ T1 = T := fun h => by
    have h2 := hk0 h
    split at h2
    · cases h2; exact ⟨rfl, rfl⟩
    split at h2
    · cases h2; exact ⟨rfl, rfl⟩
    · cases h2; exact ⟨rfl, rfl⟩
  repeat (first | refine zck ?_ | refine zcl ?_ | refine zcm ?_ | refine zcn ?_)
  first | refine zcp (by kernel_rfl) ?_ | refine zcq PP_mixed (by kernel_rfl) (by kernel_rfl) ?_
  repeat' (refine zap rfl ?_; first | refine zbo rfl rfl ?_ | refine zaa 0 rfl rfl rfl ?_ | refine zao rfl ?_)
  all_goals refine zch ?_
  all_goals repeat (first | refine zck ?_ | refine zcl ?_ | refine zcm ?_ | refine zcn ?_)
  refine run_bind_eq2 (σ := (Option Addr × Nat) × (Option Addr × Nat)) (l' := fun s => [(1, .slice s.1.1 A1.length s.1.2), (2, .slice s.2.1 T1.length s.2.2), (3, .slice (some ⟨b, off, none⟩) l.length c0), (4, .pointer (some ⟨tw, 0, none⟩)), (10, .int .i64 (j : Int)), (11, .pointer (some ⟨t11, 0, none⟩)), (12, .int .i64 tt)])
    (Γ' := fun s => [OwnT w0 (.slice aA A0.length cA) A0 (.slice s.1.1 A1.length s.1.2) A1, OwnT w0 (.slice aT T0.length cT) T0 (.slice s.2.1 T1.length s.2.2) T1]) ?_ ?_
  · by_cases h0 : x.kind = 0
    · have hty : typT A x.name = 0 := Classical.byContradiction fun q => hbad ⟨h0, q⟩
      rw [if_pos h0, if_neg (fun q => q hty)] at hO1
      cases hO1
      refine run_condV rfl (fun _ => ?_) (fun h => absurd h0 (of_decide_eq_false h))
      repeat (first | refine zck ?_ | refine zcl ?_ | refine zcm ?_ | refine zcn ?_)
      first | refine zcp (by kernel_rfl) ?_ | refine zcq PP_mixed (by kernel_rfl) (by kernel_rfl) ?_
      repeat' (refine zap rfl ?_; first | refine zan rfl ?_ | refine zaa 0 rfl rfl rfl ?_ | (refine zai [0] hTA rfl rfl rfl hsub1 ?_; rintro v Γ ⟨rfl, rfl⟩) | refine zao rfl ?_ | refine zbf rfl rfl (by omega) ?_)
      all_goals refine zch ?_
      all_goals repeat (first | refine zck ?_ | refine zcl ?_ | refine zcm ?_ | refine zcn ?_)
      refine zcj rfl ?_
      refine run_shareB [0] rfl (fun bA hbA => ?_)
      refine run_shareB [0] rfl (fun bT hbT => ?_)
      have rA : ∀ sh', (∀ p ∈ sh, p ∈ sh') → (∀ p ∈ bA, p ∈ sh') → RdSl w0 sh' encT 2 (.slice a A.length c) A := fun sh' h1 h2 => ownT_rd hbA hA h1 h2
      have rT : ∀ sh', (∀ p ∈ sh, p ∈ sh') → (∀ p ∈ bT, p ∈ sh') → RdSl w0 sh' encT 2 (.slice a' T.length c') T := fun sh' h1 h2 => ownT_rd hbT hT h1 h2
      have hoA : allOne (A.flatMap encT) = true := tv_one A
      have hoT : allOne (T.flatMap encT) = true := tv_one T
      repeat (first | refine zck ?_ | refine zcl ?_ | refine zcm ?_ | refine zcn ?_)
      first | refine zcp (by kernel_rfl) ?_ | refine zcq PP_mixed (by kernel_rfl) (by kernel_rfl) ?_
      repeat' (refine zap rfl ?_; first | refine reg_buildSlice rfl rfl rfl rfl rfl rfl (fun nb => ?_) | refine zan rfl ?_ | refine zan rfl ?_ | refine zaa 0 rfl rfl rfl ?_ | (refine reg_own 0 rfl rfl (len := 0) (cap := 0) (sz := 2) ⟨rfl, Nat.le_refl _, Nat.le_refl _⟩ rfl ?_; refine reg_append_rdE 0 rfl rfl (rA _ (fun p hp => by simp [hp]) (fun p hp => by simp [hp])) (by decide) hoA rfl rfl (by omega) (fun _ _ => rfl) (fun a5 c5 => ?_)) | refine reg_append 0 1 rfl rfl rfl rfl rfl rfl rfl rfl (by omega) (fun _ _ => rfl) (fun a6 c6 => ?_) | refine zce rfl ?_ | refine zao rfl ?_ | refine zcb rfl ?_)
      all_goals refine zch ?_
      all_goals repeat (first | refine zck ?_ | refine zcl ?_ | refine zcm ?_ | refine zcn ?_)
      refine run_take [0] rfl ?_
      repeat (first | refine zck ?_ | refine zcl ?_ | refine zcm ?_ | refine zcn ?_)
      first | refine zcp (by kernel_rfl) ?_ | refine zcq PP_mixed (by kernel_rfl) (by kernel_rfl) ?_
      repeat' (refine zap rfl ?_; first | refine reg_buildSlice rfl rfl rfl rfl rfl rfl (fun nb => ?_) | refine zan rfl ?_ | refine zan rfl ?_ | refine zaa 0 rfl rfl rfl ?_ | (refine reg_own 1 rfl rfl (len := 0) (cap := 0) (sz := 2) ⟨rfl, Nat.le_refl _, Nat.le_refl _⟩ rfl ?_; refine reg_append_rdE 1 rfl rfl (rT _ (fun p hp => by simp [hp]) (fun p hp => by simp [hp])) (by decide) hoT rfl rfl (by omega) (fun _ _ => rfl) (fun a7 c7 => ?_)) | refine reg_append 1 2 rfl rfl rfl rfl rfl rfl rfl rfl (by omega) (fun _ _ => rfl) (fun a8 c8 => ?_) | refine zce rfl ?_ | refine zao rfl ?_ | refine zcb rfl ?_)
      all_goals refine zch ?_
      all_goals repeat (first | refine zck ?_ | refine zcl ?_ | refine zcm ?_ | refine zcn ?_)
      refine run_take [0, 0] rfl ?_
      have eA : (A ++ [(x.name, tt)]).length = 0 + A.length + 1 := by rw [List.length_append]; simp
      have eT : (T ++ [(x.name, tt)]).length = 0 + T.length + 1 := by rw [List.length_append]; simp
      refine run_slR encT 0 (l := A ++ [(x.name, tt)]) rfl (by rw [List.flatMap_append]; rfl) (fun _ _ => rfl) eA rfl ?_
      refine run_slR encT 1 (l := T ++ [(x.name, tt)]) rfl (by rw [List.flatMap_append]; rfl) (fun _ _ => rfl) eT rfl ?_
      refine run_exch 0 (OwnT w0 (.slice aA A0.length cA) A0 (.slice a6 (A ++ [(x.name, tt)]).length c6) (A ++ [(x.name, tt)])) rfl (fun g hg => by rw [eA]; exact Rds.mono (fun bl h => .inr h) g hg) rfl ?_
      refine run_exch 1 (OwnT w0 (.slice aT T0.length cT) T0 (.slice a8 (T ++ [(x.name, tt)]).length c8) (T ++ [(x.name, tt)])) rfl (fun g hg => by rw [eT]; exact Rds.mono (fun bl h => .inr h) g hg) rfl ?_
      exact cut_end ⟨rfl, ((a6, c6), (a8, c8)), ⟨by dsimp only; rw [eA]; rfl, by dsimp only; rw [eT]; rfl, rfl, rfl, rfl, rfl, rfl, trivial⟩, rfl⟩
    · obtain ⟨rfl, rfl⟩ := hAT h0
      refine run_condV rfl (fun h => absurd (of_decide_eq_true h) h0) (fun _ => ?_)
      repeat (first | refine zck ?_ | refine zcl ?_ | refine zcm ?_ | refine zcn ?_ | refine zco ?_)
      exact cut_end ⟨rfl, ((a, c), (a', c')), ⟨rfl, rfl, rfl, rfl, rfl, rfl, rfl, trivial⟩, rfl⟩
  rintro ⟨⟨a6, c6⟩, ⟨a8, c8⟩⟩ junk2
  have hTT := typeR_own w0 sh _ (.slice a8 T1.length c8) T0 T1 x.name hT (by omega)
  have hBs := stR_own w0 sh st (PS.sizeL x.body) kB ast akn aml a6 a8 cst ckn cml c6 c8 _ _ A0 T0 A1 T1 _ x.body (Nat.le_refl _) hW hA hT hsp0.b (by omega) (by omega) A2 k2 (by rw [← hK]; exact hO2)
  have hEs := fun aB cB => stR_own w0 sh st (PS.sizeL x.els) kE ast akn aml aB a8 cst ckn cml cB c8 _ _ A0 T0 A2 T1 _ x.els (Nat.le_refl _) hW hA hT hsp0.e (by omega) (by omega) A3 k3 (by rw [← hK]; exact hO3)
  by_cases h1 : x.kind = 1
  · have hq := hk0 (by omega)
    obtain ⟨rfl, rfl⟩ := hAT (by omega)
    by_cases ht0 : typT T1 x.name = 0
    · rw [if_pos ⟨h1, ht0⟩] at hq
      obtain rfl : (16 : Int) = k1 := congrArg (fun z => z.2.2) hq
      rw [if_pos (by decide)] at htyS
      subst htyS
      dsimp only at g2
      rw [if_pos (by decide)] at g2
      subst g2
      repeat (first | refine zck ?_ | refine zcl ?_ | refine zcm ?_ | refine zcn ?_)
      first | refine zcp (by kernel_rfl) ?_ | refine zcq PP_mixed (by kernel_rfl) (by kernel_rfl) ?_
      repeat' (refine zap rfl ?_; first | refine zaj rfl ?_ | refine zan rfl ?_ | refine zaa 0 rfl rfl rfl ?_ | (refine zai [1] hTT rfl rfl rfl hsub1 ?_; rintro v Γ ⟨rfl, rfl⟩) | refine zao rfl ?_ | refine zbc rfl rfl (by omega) ?_ | refine zbu rfl ?_)
      all_goals refine zch ?_
      all_goals repeat (first | refine zck ?_ | refine zcl ?_ | refine zcm ?_ | refine zcn ?_)
      refine zci rfl ?_
      repeat (first | refine zck ?_ | refine zcl ?_ | refine zcm ?_ | refine zcn ?_)
      first | refine zcp (by kernel_rfl) ?_ | refine zcq PP_mixed (by kernel_rfl) (by kernel_rfl) ?_
      repeat' (refine zap rfl ?_; first | refine zan rfl ?_ | refine zan rfl ?_)
      all_goals refine zch ?_
      all_goals repeat (first | refine zck ?_ | refine zcl ?_ | refine zcm ?_ | refine zcn ?_)
      refine run_take [1] rfl ?_
      exact qret2 (fun _ _ h => h) rfl ⟨a6, c6, rfl, rfl⟩
    rw [if_neg (fun q => ht0 q.2)] at hq
    by_cases htt : typT T1 x.name = tt
    rotate_left
    · rw [if_pos (.inl ⟨h1, htt⟩)] at hq
      obtain rfl : (17 : Int) = k1 := congrArg (fun z => z.2.2) hq
      rw [if_pos (by decide)] at htyS
      subst htyS
      dsimp only at g2
      rw [if_pos (by decide)] at g2
      subst g2
      repeat (first | refine zck ?_ | refine zcl ?_ | refine zcm ?_ | refine zcn ?_)
      first | refine zcp (by kernel_rfl) ?_ | refine zcq PP_mixed (by kernel_rfl) (by kernel_rfl) ?_
      repeat' (refine zap rfl ?_; first | refine zaj rfl ?_ | refine zan rfl ?_ | refine zaa 0 rfl rfl rfl ?_ | (refine zai [1] hTT rfl rfl rfl hsub1 ?_; rintro v Γ ⟨rfl, rfl⟩) | refine zao rfl ?_ | refine zbc rfl rfl (by omega) ?_ | refine zbd rfl rfl (by omega) ?_ | refine zbu rfl ?_)
      all_goals refine zch ?_
      all_goals repeat (first | refine zck ?_ | refine zcl ?_ | refine zcm ?_ | refine zcn ?_)
      refine zcj rfl ?_
      repeat (first | refine zck ?_ | refine zcl ?_ | refine zcm ?_ | refine zcn ?_)
      first | refine zcp (by kernel_rfl) ?_ | refine zcq PP_mixed (by kernel_rfl) (by kernel_rfl) ?_
      repeat' (refine zap rfl ?_; first | refine zaj rfl ?_ | refine zak rfl ?_ | refine zal rfl ?_ | refine zan rfl ?_ | refine zaa 0 rfl rfl rfl ?_ | (refine zai [0] hTT rfl rfl rfl hsub1 ?_; rintro v Γ ⟨rfl, rfl⟩) | refine zao rfl ?_ | refine zbc rfl rfl (by omega) ?_ | refine zbe rfl rfl (by omega) ?_ | refine zbu rfl ?_)
      all_goals refine zch ?_
      all_goals repeat (first | refine zck ?_ | refine zcl ?_ | refine zcm ?_ | refine zcn ?_)
      refine zci rfl ?_
      repeat (first | refine zck ?_ | refine zcl ?_ | refine zcm ?_ | refine zcn ?_)
      first | refine zcp (by kernel_rfl) ?_ | refine zcq PP_mixed (by kernel_rfl) (by kernel_rfl) ?_
      repeat' (refine zap rfl ?_; first | refine zan rfl ?_ | refine zan rfl ?_)
      all_goals refine zch ?_
      all_goals repeat (first | refine zck ?_ | refine zcl ?_ | refine zcm ?_ | refine zcn ?_)
      refine run_take [1] rfl ?_
      exact qret2 (fun _ _ h => h) rfl ⟨a6, c6, rfl, rfl⟩
    rw [if_neg (by rintro (⟨_, q⟩ | ⟨q, _⟩ | ⟨q, _⟩); exact q htt; omega; omega)] at hq
    obtain rfl : (0 : Int) = k1 := congrArg (fun z => z.2.2) hq
    rw [if_neg (fun q => q rfl)] at htyS
    repeat (first | refine zck ?_ | refine zcl ?_ | refine zcm ?_ | refine zcn ?_)
    first | refine zcp (by kernel_rfl) ?_ | refine zcq PP_mixed (by kernel_rfl) (by kernel_rfl) ?_
    repeat' (refine zap rfl ?_; first | refine zaj rfl ?_ | refine zan rfl ?_ | refine zaa 0 rfl rfl rfl ?_ | (refine zai [1] hTT rfl rfl rfl hsub1 ?_; rintro v Γ ⟨rfl, rfl⟩) | refine zao rfl ?_ | refine zbc rfl rfl (by omega) ?_ | refine zbd rfl rfl (by omega) ?_ | refine zbu rfl ?_)
    all_goals refine zch ?_
    all_goals repeat (first | refine zck ?_ | refine zcl ?_ | refine zcm ?_ | refine zcn ?_)
    refine zcj rfl ?_
    repeat (first | refine zck ?_ | refine zcl ?_ | refine zcm ?_ | refine zcn ?_)
    first | refine zcp (by kernel_rfl) ?_ | refine zcq PP_mixed (by kernel_rfl) (by kernel_rfl) ?_
    repeat' (refine zap rfl ?_; first | refine zaj rfl ?_ | refine zak rfl ?_ | refine zan rfl ?_ | refine zaa 0 rfl rfl rfl ?_ | (refine zai [0] hTT rfl rfl rfl hsub1 ?_; rintro v Γ ⟨rfl, rfl⟩) | refine zao rfl ?_ | refine zbc rfl rfl (by omega) ?_ | refine zbd rfl rfl (by omega) ?_ | refine zbf rfl rfl (by omega) ?_ | refine zbu rfl ?_ | refine zbv rfl ?_)
    all_goals refine zch ?_
    all_goals repeat (first | refine zck ?_ | refine zcl ?_ | refine zcm ?_ | refine zcn ?_)
    refine zcj rfl ?_
    repeat (first | refine zck ?_ | refine zcl ?_ | refine zcm ?_ | refine zcn ?_ | refine zco ?_)
    refine run_take [1, 0] rfl ?_
    repeat (first | refine zck ?_ | refine zcl ?_ | refine zcm ?_ | refine zcn ?_)
    first | refine zcp (by kernel_rfl) ?_ | refine zcq PP_mixed (by kernel_rfl) (by kernel_rfl) ?_
    repeat' (refine zap rfl ?_; first | refine zan rfl ?_ | refine zan rfl ?_ | refine zaa 0 rfl rfl rfl ?_ | refine zaa 1 rfl rfl rfl ?_ | (refine zai [0, 0] hBs rfl rfl rfl hsub1 ?_; rintro v Γ ⟨aB, cB, rfl, rfl⟩) | refine zao rfl ?_ | refine zan rfl ?_)
    all_goals refine zch ?_
    all_goals repeat (first | refine zck ?_ | refine zcl ?_ | refine zcm ?_ | refine zcn ?_)
    refine run_joinR [0, 1] (χ := fun bl => ((.slice aB A2.length cB : Value) = .slice aA A0.length cA ∧ A2 = A0) ∨ RdSl w0 bl encT 2 (.slice aB A2.length cB) A2) rfl (fun q1 q2 h1 h2 => ownT_join q1 q2 h1 h2) ?_
    by_cases hk2 : k2 = 0
    rotate_left
    · rw [if_pos hk2] at htyS
      subst htyS
      dsimp only at g2
      rw [if_pos hk2] at g2
      subst g2
      repeat (first | refine zck ?_ | refine zcl ?_ | refine zcm ?_ | refine zcn ?_)
      first | refine zcp (by kernel_rfl) ?_ | refine zcq PP_mixed (by kernel_rfl) (by kernel_rfl) ?_
      repeat' (refine zap rfl ?_; first | refine zan rfl ?_ | refine zbe rfl rfl (by omega) ?_)
      all_goals refine zch ?_
      all_goals repeat (first | refine zck ?_ | refine zcl ?_ | refine zcm ?_ | refine zcn ?_)
      refine zci rfl ?_
      repeat (first | refine zck ?_ | refine zcl ?_ | refine zcm ?_ | refine zcn ?_)
      first | refine zcp (by kernel_rfl) ?_ | refine zcq PP_mixed (by kernel_rfl) (by kernel_rfl) ?_
      repeat' (refine zap rfl ?_; first | refine zan rfl ?_ | refine zan rfl ?_)
      all_goals refine zch ?_
      all_goals repeat (first | refine zck ?_ | refine zcl ?_ | refine zcm ?_ | refine zcn ?_)
      refine run_take [0] rfl ?_
      exact qret2 (fun _ _ h => h) rfl ⟨aB, cB, rfl, rfl⟩
    rw [if_neg (fun q => q hk2)] at htyS
    repeat (first | refine zck ?_ | refine zcl ?_ | refine zcm ?_ | refine zcn ?_)
    first | refine zcp (by kernel_rfl) ?_ | refine zcq PP_mixed (by kernel_rfl) (by kernel_rfl) ?_
    repeat' (refine zap rfl ?_; first | refine zan rfl ?_ | refine zbf rfl rfl (by omega) ?_)
    all_goals refine zch ?_
    all_goals repeat (first | refine zck ?_ | refine zcl ?_ | refine zcm ?_ | refine zcn ?_)
    refine zcj rfl ?_
    repeat (first | refine zck ?_ | refine zcl ?_ | refine zcm ?_ | refine zcn ?_)
    first | refine zcp (by kernel_rfl) ?_ | refine zcq PP_mixed (by kernel_rfl) (by kernel_rfl) ?_
    repeat' (refine zap rfl ?_; first | refine zan rfl ?_ | refine zan rfl ?_ | refine zaa 0 rfl rfl rfl ?_ | refine zaa 1 rfl rfl rfl ?_ | (refine zai [0, 0] (hEs aB cB) rfl rfl rfl hsub1 ?_; rintro v Γ ⟨aE, cE, rfl, rfl⟩) | refine zao rfl ?_ | refine zan rfl ?_)
    all_goals refine zch ?_
    all_goals repeat (first | refine zck ?_ | refine zcl ?_ | refine zcm ?_ | refine zcn ?_)
    refine run_joinR [0, 1] (χ := fun bl => ((.slice aE A3.length cE : Value) = .slice aA A0.length cA ∧ A3 = A0) ∨ RdSl w0 bl encT 2 (.slice aE A3.length cE) A3) rfl (fun q1 q2 h1 h2 => ownT_join q1 q2 h1 h2) ?_
    by_cases hk3 : k3 = 0
    rotate_left
    · subst htyS
      dsimp only at g2
      rw [if_pos hk3] at g2
      subst g2
      repeat (first | refine zck ?_ | refine zcl ?_ | refine zcm ?_ | refine zcn ?_)
      first | refine zcp (by kernel_rfl) ?_ | refine zcq PP_mixed (by kernel_rfl) (by kernel_rfl) ?_
      repeat' (refine zap rfl ?_; first | refine zan rfl ?_ | refine zbe rfl rfl (by omega) ?_)
      all_goals refine zch ?_
      all_goals repeat (first | refine zck ?_ | refine zcl ?_ | refine zcm ?_ | refine zcn ?_)
      refine zci rfl ?_
      repeat (first | refine zck ?_ | refine zcl ?_ | refine zcm ?_ | refine zcn ?_)
      first | refine zcp (by kernel_rfl) ?_ | refine zcq PP_mixed (by kernel_rfl) (by kernel_rfl) ?_
      repeat' (refine zap rfl ?_; first | refine zan rfl ?_ | refine zan rfl ?_)
      all_goals refine zch ?_
      all_goals repeat (first | refine zck ?_ | refine zcl ?_ | refine zcm ?_ | refine zcn ?_)
      refine run_take [0] rfl ?_
      exact qret2 (fun _ _ h => h) rfl ⟨aE, cE, rfl, rfl⟩
    subst htyS
    dsimp only at g2
    rw [if_neg (fun q => q hk3)] at g2
    repeat (first | refine zck ?_ | refine zcl ?_ | refine zcm ?_ | refine zcn ?_)
    first | refine zcp (by kernel_rfl) ?_ | refine zcq PP_mixed (by kernel_rfl) (by kernel_rfl) ?_
    repeat' (refine zap rfl ?_; first | refine zan rfl ?_ | refine zbf rfl rfl (by omega) ?_)
    all_goals refine zch ?_
    all_goals repeat (first | refine zck ?_ | refine zcl ?_ | refine zcm ?_ | refine zcn ?_)
    refine zcj rfl ?_
    repeat' (first | refine zcp (by kernel_rfl) ?_ | refine zcm ?_ | refine zcn ?_ | (refine zap rfl ?_; first | refine zan rfl ?_ | refine zan rfl ?_ | refine zau rfl rfl (by omega) ?_) | refine zch ?_)
    exact cut_end ⟨rfl, (j + 1, (aE, cE, A3), (a8, c8, T1)), ⟨rfl, rfl, rfl, rfl, int_eq (by dsimp only; omega), trivial⟩, ⟨rfl, by dsimp only; omega, g2, by dsimp only; omega, by dsimp only; omega⟩, by dsimp only; omega⟩
  by_cases h3 : x.kind = 3
  · have hq := hk0 (by omega)
    obtain ⟨rfl, rfl⟩ := hAT (by omega)
    rw [if_neg (fun q => h1 q.1)] at hq
    by_cases htt : tt = 2
    rotate_left
    · rw [if_pos (.inr (.inl ⟨h3, htt⟩))] at hq
      obtain rfl : (17 : Int) = k1 := congrArg (fun z => z.2.2) hq
      rw [if_pos (by decide)] at htyS
      subst htyS
      dsimp only at g2
      rw [if_pos (by decide)] at g2
      subst g2
      repeat (first | refine zck ?_ | refine zcl ?_ | refine zcm ?_ | refine zcn ?_)
      first | refine zcp (by kernel_rfl) ?_ | refine zcq PP_mixed (by kernel_rfl) (by kernel_rfl) ?_
      repeat' (refine zap rfl ?_; first | refine zak rfl ?_ | refine zan rfl ?_ | refine zaa 0 rfl rfl rfl ?_ | refine zao rfl ?_ | refine zbd rfl rfl (by omega) ?_ | refine zbv rfl ?_)
      all_goals refine zch ?_
      all_goals repeat (first | refine zck ?_ | refine zcl ?_ | refine zcm ?_ | refine zcn ?_)
      refine zcj rfl ?_
      repeat (first | refine zck ?_ | refine zcl ?_ | refine zcm ?_ | refine zcn ?_)
      first | refine zcp (by kernel_rfl) ?_ | refine zcq PP_mixed (by kernel_rfl) (by kernel_rfl) ?_
      repeat' (refine zap rfl ?_; first | refine zaj rfl ?_ | refine zak rfl ?_ | refine zal rfl ?_ | refine zan rfl ?_ | refine zaa 0 rfl rfl rfl ?_ | refine zao rfl ?_ | refine zbc rfl rfl (by omega) ?_ | refine zbd rfl rfl (by omega) ?_ | refine zbe rfl rfl (by omega) ?_ | refine zbu rfl ?_ | refine zbv rfl ?_)
      all_goals refine zch ?_
      all_goals repeat (first | refine zck ?_ | refine zcl ?_ | refine zcm ?_ | refine zcn ?_)
      refine zci rfl ?_
      repeat (first | refine zck ?_ | refine zcl ?_ | refine zcm ?_ | refine zcn ?_)
      first | refine zcp (by kernel_rfl) ?_ | refine zcq PP_mixed (by kernel_rfl) (by kernel_rfl) ?_
      repeat' (refine zap rfl ?_; first | refine zan rfl ?_ | refine zan rfl ?_)
      all_goals refine zch ?_
      all_goals repeat (first | refine zck ?_ | refine zcl ?_ | refine zcm ?_ | refine zcn ?_)
      refine run_take [0] rfl ?_
      exact qret2 (fun _ _ h => h) rfl ⟨a6, c6, rfl, rfl⟩
    rw [if_neg (by rintro (⟨q, _⟩ | ⟨_, q⟩ | ⟨q, _⟩); omega; exact q htt; omega)] at hq
    obtain rfl : (0 : Int) = k1 := congrArg (fun z => z.2.2) hq
    rw [if_neg (fun q => q rfl)] at htyS
    repeat (first | refine zck ?_ | refine zcl ?_ | refine zcm ?_ | refine zcn ?_)
    first | refine zcp (by kernel_rfl) ?_ | refine zcq PP_mixed (by kernel_rfl) (by kernel_rfl) ?_
    repeat' (refine zap rfl ?_; first | refine zak rfl ?_ | refine zan rfl ?_ | refine zaa 0 rfl rfl rfl ?_ | refine zao rfl ?_ | refine zbd rfl rfl (by omega) ?_ | refine zbv rfl ?_)
    all_goals refine zch ?_
    all_goals repeat (first | refine zck ?_ | refine zcl ?_ | refine zcm ?_ | refine zcn ?_)
    refine zcj rfl ?_
    repeat (first | refine zck ?_ | refine zcl ?_ | refine zcm ?_ | refine zcn ?_)
    first | refine zcp (by kernel_rfl) ?_ | refine zcq PP_mixed (by kernel_rfl) (by kernel_rfl) ?_
    repeat' (refine zap rfl ?_; first | refine zaj rfl ?_ | refine zak rfl ?_ | refine zan rfl ?_ | refine zaa 0 rfl rfl rfl ?_ | refine zao rfl ?_ | refine zbc rfl rfl (by omega) ?_ | refine zbd rfl rfl (by omega) ?_ | refine zbf rfl rfl (by omega) ?_ | refine zbu rfl ?_ | refine zbv rfl ?_)
    all_goals refine zch ?_
    all_goals repeat (first | refine zck ?_ | refine zcl ?_ | refine zcm ?_ | refine zcn ?_)
    refine zcj rfl ?_
    repeat (first | refine zck ?_ | refine zcl ?_ | refine zcm ?_ | refine zcn ?_ | refine zco ?_)
    repeat (first | refine zck ?_ | refine zcl ?_ | refine zcm ?_ | refine zcn ?_)
    first | refine zcp (by kernel_rfl) ?_ | refine zcq PP_mixed (by kernel_rfl) (by kernel_rfl) ?_
    repeat' (refine zap rfl ?_; first | refine zan rfl ?_ | refine zan rfl ?_ | refine zaa 0 rfl rfl rfl ?_ | refine zaa 1 rfl rfl rfl ?_ | (refine zai [0, 0] hBs rfl rfl rfl hsub1 ?_; rintro v Γ ⟨aB, cB, rfl, rfl⟩) | refine zao rfl ?_ | refine zan rfl ?_)
    all_goals refine zch ?_
    all_goals repeat (first | refine zck ?_ | refine zcl ?_ | refine zcm ?_ | refine zcn ?_)
    refine run_joinR [0, 1] (χ := fun bl => ((.slice aB A2.length cB : Value) = .slice aA A0.length cA ∧ A2 = A0) ∨ RdSl w0 bl encT 2 (.slice aB A2.length cB) A2) rfl (fun q1 q2 h1 h2 => ownT_join q1 q2 h1 h2) ?_
    by_cases hk2 : k2 = 0
    rotate_left
    · rw [if_pos hk2] at htyS
      subst htyS
      dsimp only at g2
      rw [if_pos hk2] at g2
      subst g2
      repeat (first | refine zck ?_ | refine zcl ?_ | refine zcm ?_ | refine zcn ?_)
      first | refine zcp (by kernel_rfl) ?_ | refine zcq PP_mixed (by kernel_rfl) (by kernel_rfl) ?_
      repeat' (refine zap rfl ?_; first | refine zan rfl ?_ | refine zbe rfl rfl (by omega) ?_)
      all_goals refine zch ?_
      all_goals repeat (first | refine zck ?_ | refine zcl ?_ | refine zcm ?_ | refine zcn ?_)
      refine zci rfl ?_
      repeat (first | refine zck ?_ | refine zcl ?_ | refine zcm ?_ | refine zcn ?_)
      first | refine zcp (by kernel_rfl) ?_ | refine zcq PP_mixed (by kernel_rfl) (by kernel_rfl) ?_
      repeat' (refine zap rfl ?_; first | refine zan rfl ?_ | refine zan rfl ?_)
      all_goals refine zch ?_
      all_goals repeat (first | refine zck ?_ | refine zcl ?_ | refine zcm ?_ | refine zcn ?_)
      refine run_take [0] rfl ?_
      exact qret2 (fun _ _ h => h) rfl ⟨aB, cB, rfl, rfl⟩
    rw [if_neg (fun q => q hk2)] at htyS
    repeat (first | refine zck ?_ | refine zcl ?_ | refine zcm ?_ | refine zcn ?_)
    first | refine zcp (by kernel_rfl) ?_ | refine zcq PP_mixed (by kernel_rfl) (by kernel_rfl) ?_
    repeat' (refine zap rfl ?_; first | refine zan rfl ?_ | refine zbf rfl rfl (by omega) ?_)
    all_goals refine zch ?_
    all_goals repeat (first | refine zck ?_ | refine zcl ?_ | refine zcm ?_ | refine zcn ?_)
    refine zcj rfl ?_
    repeat (first | refine zck ?_ | refine zcl ?_ | refine zcm ?_ | refine zcn ?_)
    first | refine zcp (by kernel_rfl) ?_ | refine zcq PP_mixed (by kernel_rfl) (by kernel_rfl) ?_
    repeat' (refine zap rfl ?_; first | refine zan rfl ?_ | refine zan rfl ?_ | refine zaa 0 rfl rfl rfl ?_ | refine zaa 1 rfl rfl rfl ?_ | (refine zai [0, 0] (hEs aB cB) rfl rfl rfl hsub1 ?_; rintro v Γ ⟨aE, cE, rfl, rfl⟩) | refine zao rfl ?_ | refine zan rfl ?_)
    all_goals refine zch ?_
    all_goals repeat (first | refine zck ?_ | refine zcl ?_ | refine zcm ?_ | refine zcn ?_)
    refine run_joinR [0, 1] (χ := fun bl => ((.slice aE A3.length cE : Value) = .slice aA A0.length cA ∧ A3 = A0) ∨ RdSl w0 bl encT 2 (.slice aE A3.length cE) A3) rfl (fun q1 q2 h1 h2 => ownT_join q1 q2 h1 h2) ?_
    by_cases hk3 : k3 = 0
    rotate_left
    · subst htyS
      dsimp only at g2
      rw [if_pos hk3] at g2
      subst g2
      repeat (first | refine zck ?_ | refine zcl ?_ | refine zcm ?_ | refine zcn ?_)
      first | refine zcp (by kernel_rfl) ?_ | refine zcq PP_mixed (by kernel_rfl) (by kernel_rfl) ?_
      repeat' (refine zap rfl ?_; first | refine zan rfl ?_ | refine zbe rfl rfl (by omega) ?_)
      all_goals refine zch ?_
      all_goals repeat (first | refine zck ?_ | refine zcl ?_ | refine zcm ?_ | refine zcn ?_)
      refine zci rfl ?_
      repeat (first | refine zck ?_ | refine zcl ?_ | refine zcm ?_ | refine zcn ?_)
      first | refine zcp (by kernel_rfl) ?_ | refine zcq PP_mixed (by kernel_rfl) (by kernel_rfl) ?_
      repeat' (refine zap rfl ?_; first | refine zan rfl ?_ | refine zan rfl ?_)
      all_goals refine zch ?_
      all_goals repeat (first | refine zck ?_ | refine zcl ?_ | refine zcm ?_ | refine zcn ?_)
      refine run_take [0] rfl ?_
      exact qret2 (fun _ _ h => h) rfl ⟨aE, cE, rfl, rfl⟩
    subst htyS
    dsimp only at g2
    rw [if_neg (fun q => q hk3)] at g2
    repeat (first | refine zck ?_ | refine zcl ?_ | refine zcm ?_ | refine zcn ?_)
    first | refine zcp (by kernel_rfl) ?_ | refine zcq PP_mixed (by kernel_rfl) (by kernel_rfl) ?_
    repeat' (refine zap rfl ?_; first | refine zan rfl ?_ | refine zbf rfl rfl (by omega) ?_)
    all_goals refine zch ?_
    all_goals repeat (first | refine zck ?_ | refine zcl ?_ | refine zcm ?_ | refine zcn ?_)
    refine zcj rfl ?_
    repeat' (first | refine zcp (by kernel_rfl) ?_ | refine zcm ?_ | refine zcn ?_ | (refine zap rfl ?_; first | refine zan rfl ?_ | refine zan rfl ?_ | refine zau rfl rfl (by omega) ?_) | refine zch ?_)
    exact cut_end ⟨rfl, (j + 1, (aE, cE, A3), (a8, c8, T1)), ⟨rfl, rfl, rfl, rfl, int_eq (by dsimp only; omega), trivial⟩, ⟨rfl, by dsimp only; omega, g2, by dsimp only; omega, by dsimp only; omega⟩, by dsimp only; omega⟩
  by_cases h5 : x.kind = 5
  · have hq := hk0 (by omega)
    obtain ⟨rfl, rfl⟩ := hAT (by omega)
    rw [if_neg (fun q => h1 q.1)] at hq
    by_cases htt : tt = 1
    rotate_left
    · rw [if_pos (.inr (.inr ⟨h5, htt⟩))] at hq
      obtain rfl : (17 : Int) = k1 := congrArg (fun z => z.2.2) hq
      rw [if_pos (by decide)] at htyS
      subst htyS
      dsimp only at g2
      rw [if_pos (by decide)] at g2
      subst g2
      repeat (first | refine zck ?_ | refine zcl ?_ | refine zcm ?_ | refine zcn ?_)
      first | refine zcp (by kernel_rfl) ?_ | refine zcq PP_mixed (by kernel_rfl) (by kernel_rfl) ?_
      repeat' (refine zap rfl ?_; first | refine zak rfl ?_ | refine zan rfl ?_ | refine zaa 0 rfl rfl rfl ?_ | refine zao rfl ?_ | refine zbd rfl rfl (by omega) ?_ | refine zbv rfl ?_)
      all_goals refine zch ?_
      all_goals repeat (first | refine zck ?_ | refine zcl ?_ | refine zcm ?_ | refine zcn ?_)
      refine zcj rfl ?_
      repeat (first | refine zck ?_ | refine zcl ?_ | refine zcm ?_ | refine zcn ?_)
      first | refine zcp (by kernel_rfl) ?_ | refine zcq PP_mixed (by kernel_rfl) (by kernel_rfl) ?_
      repeat' (refine zap rfl ?_; first | refine zaj rfl ?_ | refine zak rfl ?_ | refine zan rfl ?_ | refine zaa 0 rfl rfl rfl ?_ | refine zao rfl ?_ | refine zbc rfl rfl (by omega) ?_ | refine zbd rfl rfl (by omega) ?_ | refine zbe rfl rfl (by omega) ?_ | refine zbu rfl ?_ | refine zbv rfl ?_)
      all_goals refine zch ?_
      all_goals repeat (first | refine zck ?_ | refine zcl ?_ | refine zcm ?_ | refine zcn ?_)
      refine zci rfl ?_
      repeat (first | refine zck ?_ | refine zcl ?_ | refine zcm ?_ | refine zcn ?_)
      first | refine zcp (by kernel_rfl) ?_ | refine zcq PP_mixed (by kernel_rfl) (by kernel_rfl) ?_
      repeat' (refine zap rfl ?_; first | refine zan rfl ?_ | refine zan rfl ?_)
      all_goals refine zch ?_
      all_goals repeat (first | refine zck ?_ | refine zcl ?_ | refine zcm ?_ | refine zcn ?_)
      refine run_take [0] rfl ?_
      exact qret2 (fun _ _ h => h) rfl ⟨a6, c6, rfl, rfl⟩
    rw [if_neg (by rintro (⟨q, _⟩ | ⟨q, _⟩ | ⟨_, q⟩); omega; omega; exact q htt)] at hq
    obtain rfl : (0 : Int) = k1 := congrArg (fun z => z.2.2) hq
    rw [if_neg (fun q => q rfl)] at htyS
    repeat (first | refine zck ?_ | refine zcl ?_ | refine zcm ?_ | refine zcn ?_)
    first | refine zcp (by kernel_rfl) ?_ | refine zcq PP_mixed (by kernel_rfl) (by kernel_rfl) ?_
    repeat' (refine zap rfl ?_; first | refine zak rfl ?_ | refine zan rfl ?_ | refine zaa 0 rfl rfl rfl ?_ | refine zao rfl ?_ | refine zbd rfl rfl (by omega) ?_ | refine zbv rfl ?_)
    all_goals refine zch ?_
    all_goals repeat (first | refine zck ?_ | refine zcl ?_ | refine zcm ?_ | refine zcn ?_)
    refine zcj rfl ?_
    repeat (first | refine zck ?_ | refine zcl ?_ | refine zcm ?_ | refine zcn ?_)
    first | refine zcp (by kernel_rfl) ?_ | refine zcq PP_mixed (by kernel_rfl) (by kernel_rfl) ?_
    repeat' (refine zap rfl ?_; first | refine zaj rfl ?_ | refine zak rfl ?_ | refine zan rfl ?_ | refine zaa 0 rfl rfl rfl ?_ | refine zao rfl ?_ | refine zbc rfl rfl (by omega) ?_ | refine zbd rfl rfl (by omega) ?_ | refine zbf rfl rfl (by omega) ?_ | refine zbu rfl ?_ | refine zbv rfl ?_)
    all_goals refine zch ?_
    all_goals repeat (first | refine zck ?_ | refine zcl ?_ | refine zcm ?_ | refine zcn ?_)
    refine zcj rfl ?_
    repeat (first | refine zck ?_ | refine zcl ?_ | refine zcm ?_ | refine zcn ?_ | refine zco ?_)
    repeat (first | refine zck ?_ | refine zcl ?_ | refine zcm ?_ | refine zcn ?_)
    first | refine zcp (by kernel_rfl) ?_ | refine zcq PP_mixed (by kernel_rfl) (by kernel_rfl) ?_
    repeat' (refine zap rfl ?_; first | refine zan rfl ?_ | refine zan rfl ?_ | refine zaa 0 rfl rfl rfl ?_ | refine zaa 1 rfl rfl rfl ?_ | (refine zai [0, 0] hBs rfl rfl rfl hsub1 ?_; rintro v Γ ⟨aB, cB, rfl, rfl⟩) | refine zao rfl ?_ | refine zan rfl ?_)
    all_goals refine zch ?_
    all_goals repeat (first | refine zck ?_ | refine zcl ?_ | refine zcm ?_ | refine zcn ?_)
    refine run_joinR [0, 1] (χ := fun bl => ((.slice aB A2.length cB : Value) = .slice aA A0.length cA ∧ A2 = A0) ∨ RdSl w0 bl encT 2 (.slice aB A2.length cB) A2) rfl (fun q1 q2 h1 h2 => ownT_join q1 q2 h1 h2) ?_
    by_cases hk2 : k2 = 0
    rotate_left
    · rw [if_pos hk2] at htyS
      subst htyS
      dsimp only at g2
      rw [if_pos hk2] at g2
      subst g2
      repeat (first | refine zck ?_ | refine zcl ?_ | refine zcm ?_ | refine zcn ?_)
      first | refine zcp (by kernel_rfl) ?_ | refine zcq PP_mixed (by kernel_rfl) (by kernel_rfl) ?_
      repeat' (refine zap rfl ?_; first | refine zan rfl ?_ | refine zbe rfl rfl (by omega) ?_)
      all_goals refine zch ?_
      all_goals repeat (first | refine zck ?_ | refine zcl ?_ | refine zcm ?_ | refine zcn ?_)
      refine zci rfl ?_
      repeat (first | refine zck ?_ | refine zcl ?_ | refine zcm ?_ | refine zcn ?_)
      first | refine zcp (by kernel_rfl) ?_ | refine zcq PP_mixed (by kernel_rfl) (by kernel_rfl) ?_
      repeat' (refine zap rfl ?_; first | refine zan rfl ?_ | refine zan rfl ?_)
      all_goals refine zch ?_
      all_goals repeat (first | refine zck ?_ | refine zcl ?_ | refine zcm ?_ | refine zcn ?_)
      refine run_take [0] rfl ?_
      exact qret2 (fun _ _ h => h) rfl ⟨aB, cB, rfl, rfl⟩
    rw [if_neg (fun q => q hk2)] at htyS
    repeat (first | refine zck ?_ | refine zcl ?_ | refine zcm ?_ | refine zcn ?_)
    first | refine zcp (by kernel_rfl) ?_ | refine zcq PP_mixed (by kernel_rfl) (by kernel_rfl) ?_
    repeat' (refine zap rfl ?_; first | refine zan rfl ?_ | refine zbf rfl rfl (by omega) ?_)
    all_goals refine zch ?_
    all_goals repeat (first | refine zck ?_ | refine zcl ?_ | refine zcm ?_ | refine zcn ?_)
    refine zcj rfl ?_
    repeat (first | refine zck ?_ | refine zcl ?_ | refine zcm ?_ | refine zcn ?_)
    first | refine zcp (by kernel_rfl) ?_ | refine zcq PP_mixed (by kernel_rfl) (by kernel_rfl) ?_
    repeat' (refine zap rfl ?_; first | refine zan rfl ?_ | refine zan rfl ?_ | refine zaa 0 rfl rfl rfl ?_ | refine zaa 1 rfl rfl rfl ?_ | (refine zai [0, 0] (hEs aB cB) rfl rfl rfl hsub1 ?_; rintro v Γ ⟨aE, cE, rfl, rfl⟩) | refine zao rfl ?_ | refine zan rfl ?_)
    all_goals refine zch ?_
    all_goals repeat (first | refine zck ?_ | refine zcl ?_ | refine zcm ?_ | refine zcn ?_)
    refine run_joinR [0, 1] (χ := fun bl => ((.slice aE A3.length cE : Value) = .slice aA A0.length cA ∧ A3 = A0) ∨ RdSl w0 bl encT 2 (.slice aE A3.length cE) A3) rfl (fun q1 q2 h1 h2 => ownT_join q1 q2 h1 h2) ?_
    by_cases hk3 : k3 = 0
    rotate_left
    · subst htyS
      dsimp only at g2
      rw [if_pos hk3] at g2
      subst g2
      repeat (first | refine zck ?_ | refine zcl ?_ | refine zcm ?_ | refine zcn ?_)
      first | refine zcp (by kernel_rfl) ?_ | refine zcq PP_mixed (by kernel_rfl) (by kernel_rfl) ?_
      repeat' (refine zap rfl ?_; first | refine zan rfl ?_ | refine zbe rfl rfl (by omega) ?_)
      all_goals refine zch ?_
      all_goals repeat (first | refine zck ?_ | refine zcl ?_ | refine zcm ?_ | refine zcn ?_)
      refine zci rfl ?_
      repeat (first | refine zck ?_ | refine zcl ?_ | refine zcm ?_ | refine zcn ?_)
      first | refine zcp (by kernel_rfl) ?_ | refine zcq PP_mixed (by kernel_rfl) (by kernel_rfl) ?_
      repeat' (refine zap rfl ?_; first | refine zan rfl ?_ | refine zan rfl ?_)
      all_goals refine zch ?_
      all_goals repeat (first | refine zck ?_ | refine zcl ?_ | refine zcm ?_ | refine zcn ?_)
      refine run_take [0] rfl ?_
      exact qret2 (fun _ _ h => h) rfl ⟨aE, cE, rfl, rfl⟩
    subst htyS
    dsimp only at g2
    rw [if_neg (fun q => q hk3)] at g2
    repeat (first | refine zck ?_ | refine zcl ?_ | refine zcm ?_ | refine zcn ?_)
    first | refine zcp (by kernel_rfl) ?_ | refine zcq PP_mixed (by kernel_rfl) (by kernel_rfl) ?_
    repeat' (refine zap rfl ?_; first | refine zan rfl ?_ | refine zbf rfl rfl (by omega) ?_)
    all_goals refine zch ?_
    all_goals repeat (first | refine zck ?_ | refine zcl ?_ | refine zcm ?_ | refine zcn ?_)
    refine zcj rfl ?_
    repeat' (first | refine zcp (by kernel_rfl) ?_ | refine zcm ?_ | refine zcn ?_ | (refine zap rfl ?_; first | refine zan rfl ?_ | refine zan rfl ?_ | refine zau rfl rfl (by omega) ?_) | refine zch ?_)
    exact cut_end ⟨rfl, (j + 1, (aE, cE, A3), (a8, c8, T1)), ⟨rfl, rfl, rfl, rfl, int_eq (by dsimp only; omega), trivial⟩, ⟨rfl, by dsimp only; omega, g2, by dsimp only; omega, by dsimp only; omega⟩, by dsimp only; omega⟩
  have hk1 : k1 = 0 := by
    by_cases h0 : x.kind = 0
    · have hty : typT A x.name = 0 := Classical.byContradiction fun q => hbad ⟨h0, q⟩
      rw [if_pos h0, if_neg (fun q => q hty)] at hO1
      cases hO1; rfl
    · have hq := hk0 h0
      rw [if_neg (fun q => h1 q.1), if_neg (by rintro (⟨q, _⟩ | ⟨q, _⟩ | ⟨q, _⟩) <;> omega)] at hq
      cases hq; rfl
  subst hk1
  rw [if_neg (fun q => q rfl)] at htyS
  repeat (first | refine zck ?_ | refine zcl ?_ | refine zcm ?_ | refine zcn ?_)
  first | refine zcp (by kernel_rfl) ?_ | refine zcq PP_mixed (by kernel_rfl) (by kernel_rfl) ?_
  repeat' (refine zap rfl ?_; first | refine zak rfl ?_ | refine zan rfl ?_ | refine zaa 0 rfl rfl rfl ?_ | refine zao rfl ?_ | refine zbd rfl rfl (by omega) ?_ | refine zbv rfl ?_)
  all_goals refine zch ?_
  all_goals repeat (first | refine zck ?_ | refine zcl ?_ | refine zcm ?_ | refine zcn ?_)
  refine zcj rfl ?_
  repeat (first | refine zck ?_ | refine zcl ?_ | refine zcm ?_ | refine zcn ?_)
  first | refine zcp (by kernel_rfl) ?_ | refine zcq PP_mixed (by kernel_rfl) (by kernel_rfl) ?_
  repeat' (refine zap rfl ?_; first | refine zaj rfl ?_ | refine zak rfl ?_ | refine zan rfl ?_ | refine zaa 0 rfl rfl rfl ?_ | refine zao rfl ?_ | refine zbd rfl rfl (by omega) ?_ | refine zbv rfl ?_)
  all_goals refine zch ?_
  all_goals repeat (first | refine zck ?_ | refine zcl ?_ | refine zcm ?_ | refine zcn ?_)
  refine zcj rfl ?_
  repeat (first | refine zck ?_ | refine zcl ?_ | refine zcm ?_ | refine zcn ?_ | refine zco ?_)
  repeat (first | refine zck ?_ | refine zcl ?_ | refine zcm ?_ | refine zcn ?_)
  first | refine zcp (by kernel_rfl) ?_ | refine zcq PP_mixed (by kernel_rfl) (by kernel_rfl) ?_
  repeat' (refine zap rfl ?_; first | refine zan rfl ?_ | refine zan rfl ?_ | refine zaa 0 rfl rfl rfl ?_ | refine zaa 1 rfl rfl rfl ?_ | (refine zai [0, 0] hBs rfl rfl rfl hsub1 ?_; rintro v Γ ⟨aB, cB, rfl, rfl⟩) | refine zao rfl ?_ | refine zan rfl ?_)
  all_goals refine zch ?_
  all_goals repeat (first | refine zck ?_ | refine zcl ?_ | refine zcm ?_ | refine zcn ?_)
  refine run_joinR [0, 1] (χ := fun bl => ((.slice aB A2.length cB : Value) = .slice aA A0.length cA ∧ A2 = A0) ∨ RdSl w0 bl encT 2 (.slice aB A2.length cB) A2) rfl (fun q1 q2 h1 h2 => ownT_join q1 q2 h1 h2) ?_
  by_cases hk2 : k2 = 0
  rotate_left
  · rw [if_pos hk2] at htyS
    subst htyS
    dsimp only at g2
    rw [if_pos hk2] at g2
    subst g2
    repeat (first | refine zck ?_ | refine zcl ?_ | refine zcm ?_ | refine zcn ?_)
    first | refine zcp (by kernel_rfl) ?_ | refine zcq PP_mixed (by kernel_rfl) (by kernel_rfl) ?_
    repeat' (refine zap rfl ?_; first | refine zan rfl ?_ | refine zbe rfl rfl (by omega) ?_)
    all_goals refine zch ?_
    all_goals repeat (first | refine zck ?_ | refine zcl ?_ | refine zcm ?_ | refine zcn ?_)
    refine zci rfl ?_
    repeat (first | refine zck ?_ | refine zcl ?_ | refine zcm ?_ | refine zcn ?_)
    first | refine zcp (by kernel_rfl) ?_ | refine zcq PP_mixed (by kernel_rfl) (by kernel_rfl) ?_
    repeat' (refine zap rfl ?_; first | refine zan rfl ?_ | refine zan rfl ?_)
    all_goals refine zch ?_
    all_goals repeat (first | refine zck ?_ | refine zcl ?_ | refine zcm ?_ | refine zcn ?_)
    refine run_take [0] rfl ?_
    exact qret2 (fun _ _ h => h) rfl ⟨aB, cB, rfl, rfl⟩
  rw [if_neg (fun q => q hk2)] at htyS
  repeat (first | refine zck ?_ | refine zcl ?_ | refine zcm ?_ | refine zcn ?_)
  first | refine zcp (by kernel_rfl) ?_ | refine zcq PP_mixed (by kernel_rfl) (by kernel_rfl) ?_
  repeat' (refine zap rfl ?_; first | refine zan rfl ?_ | refine zbf rfl rfl (by omega) ?_)
  all_goals refine zch ?_
  all_goals repeat (first | refine zck ?_ | refine zcl ?_ | refine zcm ?_ | refine zcn ?_)
  refine zcj rfl ?_
  repeat (first | refine zck ?_ | refine zcl ?_ | refine zcm ?_ | refine zcn ?_)
  first | refine zcp (by kernel_rfl) ?_ | refine zcq PP_mixed (by kernel_rfl) (by kernel_rfl) ?_
  repeat' (refine zap rfl ?_; first | refine zan rfl ?_ | refine zan rfl ?_ | refine zaa 0 rfl rfl rfl ?_ | refine zaa 1 rfl rfl rfl ?_ | (refine zai [0, 0] (hEs aB cB) rfl rfl rfl hsub1 ?_; rintro v Γ ⟨aE, cE, rfl, rfl⟩) | refine zao rfl ?_ | refine zan rfl ?_)
  all_goals refine zch ?_
  all_goals repeat (first | refine zck ?_ | refine zcl ?_ | refine zcm ?_ | refine zcn ?_)
  refine run_joinR [0, 1] (χ := fun bl => ((.slice aE A3.length cE : Value) = .slice aA A0.length cA ∧ A3 = A0) ∨ RdSl w0 bl encT 2 (.slice aE A3.length cE) A3) rfl (fun q1 q2 h1 h2 => ownT_join q1 q2 h1 h2) ?_
  by_cases hk3 : k3 = 0
  rotate_left
  · subst htyS
    dsimp only at g2
    rw [if_pos hk3] at g2
    subst g2
    repeat (first | refine zck ?_ | refine zcl ?_ | refine zcm ?_ | refine zcn ?_)
    first | refine zcp (by kernel_rfl) ?_ | refine zcq PP_mixed (by kernel_rfl) (by kernel_rfl) ?_
    repeat' (refine zap rfl ?_; first | refine zan rfl ?_ | refine zbe rfl rfl (by omega) ?_)
    all_goals refine zch ?_
    all_goals repeat (first | refine zck ?_ | refine zcl ?_ | refine zcm ?_ | refine zcn ?_)
    refine zci rfl ?_
    repeat (first | refine zck ?_ | refine zcl ?_ | refine zcm ?_ | refine zcn ?_)
    first | refine zcp (by kernel_rfl) ?_ | refine zcq PP_mixed (by kernel_rfl) (by kernel_rfl) ?_
    repeat' (refine zap rfl ?_; first | refine zan rfl ?_ | refine zan rfl ?_)
    all_goals refine zch ?_
    all_goals repeat (first | refine zck ?_ | refine zcl ?_ | refine zcm ?_ | refine zcn ?_)
    refine run_take [0] rfl ?_
    exact qret2 (fun _ _ h => h) rfl ⟨aE, cE, rfl, rfl⟩
  subst htyS
  dsimp only at g2
  rw [if_neg (fun q => q hk3)] at g2
  repeat (first | refine zck ?_ | refine zcl ?_ | refine zcm ?_ | refine zcn ?_)
  first | refine zcp (by kernel_rfl) ?_ | refine zcq PP_mixed (by kernel_rfl) (by kernel_rfl) ?_
  repeat' (refine zap rfl ?_; first | refine zan rfl ?_ | refine zbf rfl rfl (by omega) ?_)
  all_goals refine zch ?_
  all_goals repeat (first | refine zck ?_ | refine zcl ?_ | refine zcm ?_ | refine zcn ?_)
  refine zcj rfl ?_
  repeat' (first | refine zcp (by kernel_rfl) ?_ | refine zcm ?_ | refine zcn ?_ | (refine zap rfl ?_; first | refine zan rfl ?_ | refine zan rfl ?_ | refine zau rfl rfl (by omega) ?_) | refine zch ?_)
  exact cut_end ⟨rfl, (j + 1, (aE, cE, A3), (a8, c8, T1)), ⟨rfl, rfl, rfl, rfl, int_eq (by dsimp only; omega), trivial⟩, ⟨rfl, by dsimp only; omega, g2, by dsimp only; omega, by dsimp only; omega⟩, by dsimp only; omega⟩
end Go.Proofs.YtijbnjaackhlcaaGreatDoor

namespace Sim
theorem allA_app : ∀ a b : List (ByteArray × List (ByteArray × Int × Bool)), allA (a ++ b) = allA a ++ allA b
  | [], b => rfl
  | g :: a, b => by rw [List.cons_append, allA, allA, allA_app a b, List.append_assoc]
theorem ctG_at' {k : Nat} (h : k < 10) : ctG[k]? = some (ctName k, ctMeths k) := by
  unfold ctName ctMeths
  rw [if_pos (by omega), if_pos (by omega)]
  unfold ctG
  rw [List.getElem?_map, List.getElem?_range h]
  rfl
theorem allA_next {k : Nat} (h : k < 10) : allA (ctG.take (k + 1)) = allA (ctG.take k) ++ grpA (ctName k) (ctMeths k) := by
  rw [take_snoc (ctG_at' h), allA_app]
  congr 1
  rw [allA, allA, List.append_nil]
theorem allA_all : allA (ctG.take 10) = ctA := rfl
theorem allA_small : ∀ {k : Nat}, k ≤ 10 → (allA (ctG.take k)).length ≤ 10 * k
  | 0, _ => Nat.le_refl _
  | k + 1, h => by
    rw [allA_next (by omega), List.length_append]
    have h1 := allA_small (k := k) (by omega)
    have h2 : (grpA (ctName k) (ctMeths k)).length ≤ 10 := by
      unfold grpA
      rw [List.length_map]
      have h3 : ∀ i : Nat, i < 10 → (ctMeths i).length ≤ 10 := by decide +kernel
      exact h3 k (by omega)
    omega
theorem ctNames_at {k : Nat} (h : k < 10) : ctNames[k]? = some (ctName k) := by
  unfold ctName
  rw [if_pos (by omega)]
  have h3 : ∀ i : Nat, i < 10 → ctNames[i]? = some (ctNames.getD i ⟨#[]⟩) := by decide +kernel
  exact h3 k h
theorem ctNames_all : ctNames.take 10 = ctNames := rfl
theorem ctNames_len : ctNames.length = 10 := rfl
end Sim
namespace Go.Vc
open Sim
abbrev encMM (x : ByteArray × Int × Bool) : List Value := [.string x.1, .int .i64 x.2.1, .bool x.2.2]
end Go.Vc
namespace Go.Proofs.YtijbnjaackhlcaaGreatDoor
open Go.Vc Sim
theorem methods_val (w0 : World) (k : Int) : Vc.Fn PP w0 [] 67 [.int .i64 k] [] (fun v Γ => ∃ a c, v = .slice a (msK k).length c ∧ Γ = [Rds fun bl => RdSl w0 bl encM 4 (.slice a (msK k).length c) (msK k)]) := by
  refine (methods_spec w0 k).know ?_
  rintro v Γ rfl hst
  obtain ⟨bl, hbl⟩ := Rds.st hst
  obtain ⟨a, c, hv, _⟩ := id hbl
  subst hv
  exact ⟨a, c, rfl, rfl⟩
set_option maxHeartbeats 2000000 in
theorem methodsX_spec (w0 : World) (k : Int) : Vc.Fn PP w0 [] 50 [.int .i64 k] [] (fun v Γ => ∃ a c, v = .slice a (ctMeths k).length c ∧ Γ = [Rds fun bl => RdSl w0 bl encMM 3 (.slice a (ctMeths k).length c) (ctMeths k)]) := by
  have hk := methods_val w0 k
  have hn := msK_len k
  have hrows := msK_rows k
  refine fn_of_run en50 fn50 rfl rfl rfl ?_
  repeat (first | refine zck ?_ | refine zcl ?_ | refine zcm ?_ | refine zcn ?_)
  first | refine zcp (by kernel_rfl) ?_ | refine zcq PP_mixed (by kernel_rfl) (by kernel_rfl) ?_
  repeat' (refine zap rfl ?_; first | refine zan rfl ?_)
  all_goals refine zch ?_
  all_goals repeat (first | refine zck ?_ | refine zcl ?_ | refine zcm ?_ | refine zcn ?_)
  repeat (first | refine zck ?_ | refine zcl ?_ | refine zcm ?_ | refine zcn ?_)
  first | refine zcp (by kernel_rfl) ?_ | refine zcq PP_mixed (by kernel_rfl) (by kernel_rfl) ?_
  repeat' (refine zap rfl ?_; first | refine zan rfl ?_)
  all_goals refine zch ?_
  all_goals repeat (first | refine zck ?_ | refine zcl ?_ | refine zcm ?_ | refine zcn ?_)
  repeat (first | refine zck ?_ | refine zcl ?_ | refine zcm ?_ | refine zcn ?_)
  first | refine zcp (by kernel_rfl) ?_ | refine zcq PP_mixed (by kernel_rfl) (by kernel_rfl) ?_
  repeat' (refine zap rfl ?_; first | refine zan rfl ?_ | refine zce rfl ?_ | (refine zai [] hk rfl rfl rfl sub_nil ?_; rintro v Γ ⟨av, cv, rfl, rfl⟩))
  all_goals refine zch ?_
  all_goals repeat (first | refine zck ?_ | refine zcl ?_ | refine zcm ?_ | refine zcn ?_)
  refine run_shareB [0] rfl (fun bl hbl => ?_)
  refine run_nilslice 115 3 ?_
  refine run_loop (S := Nat × Option Addr × Nat) (fun s => [(3, .slice s.2.1 s.1 s.2.2), (7, .slice av (msK k).length cv), (8, .int .i64 (msK k).length), (9, .int .i64 s.1)])
    (fun s Γ => Γ = [SlA 115 3 s.2.1 s.1 s.2.2 ((((msK k).take s.1).map (·.1)).flatMap encMM)] ∧ s.1 ≤ (msK k).length) (fun s => (msK k).length - s.1) (0, none, 0)
    ⟨rfl, rfl, rfl, rfl, trivial⟩ ⟨rfl, Nat.zero_le _⟩ ?_
  rintro ⟨j, a, c⟩ Γ junk ⟨rfl, g1⟩
  dsimp only at g1 ⊢
  by_cases hj : j < (msK k).length
  · obtain ⟨x, hx⟩ : ∃ x, (msK k)[j]? = some x := ⟨_, List.getElem?_eq_getElem hj⟩
    obtain ⟨b, off, cc, T, fr, rfl, e2, e3, _⟩ := hbl.cells hx
    have hm := method_spec w0 x.1 (.func (.func x.2) #[] #[])
    repeat (first | refine zck ?_ | refine zcl ?_ | refine zcm ?_ | refine zcn ?_)
    first | refine zcp (by kernel_rfl) ?_ | refine zcq PP_mixed (by kernel_rfl) (by kernel_rfl) ?_
    repeat' (refine zap rfl ?_; first | refine zbg rfl rfl (by omega) ?_)
    all_goals refine zch ?_
    all_goals repeat (first | refine zck ?_ | refine zcl ?_ | refine zcm ?_ | refine zcn ?_)
    refine zci rfl ?_
    repeat (first | refine zck ?_ | refine zcl ?_ | refine zcm ?_ | refine zcn ?_)
    first | refine zcp (by kernel_rfl) ?_ | refine zcq PP_mixed (by kernel_rfl) (by kernel_rfl) ?_
    repeat' (refine zap rfl ?_; first | refine zad rfl (fun hF Γ w h1 h2 => e2 hF Γ w (fun p hp => h1 p (by simp [hp])) h2) (e3 _ (by omega)) ?_ | refine zae 1 rfl rfl rfl rfl rfl rfl rfl ?_ | refine zas rfl rfl (by omega) ?_ | refine zar (fun nb => ?_))
    all_goals refine zch ?_
    all_goals repeat (first | refine zck ?_ | refine zcl ?_ | refine zcm ?_ | refine zcn ?_)
    repeat (first | refine zck ?_ | refine zcl ?_ | refine zcm ?_ | refine zcn ?_)
    first | refine zcp (by kernel_rfl) ?_ | refine zcq PP_mixed (by kernel_rfl) (by kernel_rfl) ?_
    repeat' (refine zap rfl ?_; first | refine reg_buildSlice rfl rfl rfl rfl rfl rfl (fun nb9 => ?_) | refine zan rfl ?_ | refine zan rfl ?_ | refine zab 1 rfl rfl rfl ?_ | refine zah [] hm rfl rfl rfl sub_nil rfl ?_ | refine reg_append 0 2 rfl rfl rfl rfl rfl rfl rfl rfl (by omega) (fun _ _ => rfl) (fun a5 c5 => ?_))
    all_goals refine zch ?_
    all_goals repeat (first | refine zck ?_ | refine zcl ?_ | refine zcm ?_ | refine zcn ?_)
    refine run_take [0] rfl ?_
    repeat' (first | refine zcp (by kernel_rfl) ?_ | (refine zap rfl ?_; first | refine zan rfl ?_ | refine zau rfl rfl (by omega) ?_) | refine zch ?_)
    refine cut_end ⟨rfl, (j + 1, a5, c5), ⟨rfl, rfl, rfl, int_eq (by dsimp only; omega), trivial⟩, ⟨?_, by dsimp only; omega⟩, by dsimp only; omega⟩
    dsimp only
    rw [take_snoc hx, List.map_append, List.flatMap_append]
    rfl
  · repeat (first | refine zck ?_ | refine zcl ?_ | refine zcm ?_ | refine zcn ?_)
    first | refine zcp (by kernel_rfl) ?_ | refine zcq PP_mixed (by kernel_rfl) (by kernel_rfl) ?_
    repeat' (refine zap rfl ?_; first | refine zbh rfl rfl (by omega) ?_)
    all_goals refine zch ?_
    all_goals repeat (first | refine zck ?_ | refine zcl ?_ | refine zcm ?_ | refine zcn ?_)
    refine zcj rfl ?_
    refine cut_exit rfl rfl ?_
    have hjl : j = (msK k).length := by omega
    subst hjl
    have hl : (ctMeths k).length = (msK k).length := by rw [← hrows, List.length_map]
    rw [hl]
    refine run_slR encMM 0 (l := ctMeths k) rfl (by rw [List.take_of_length_le (Nat.le_refl _), hrows]) (fun _ _ => rfl) hl rfl ?_
    repeat' (first | refine zck ?_ | refine zcp (by kernel_rfl) ?_ | (refine zap rfl ?_; first | refine zan rfl ?_ | refine zan rfl ?_) | refine zch ?_)
    exact ret_tmp1 rfl ⟨a, c, rfl, rfl⟩
set_option maxHeartbeats 4000000 in
theorem world_spec (w0 : World) (sh : Shared) (a : Option Addr) (n c : Nat) : Vc.Fn PP w0 sh 27 [.slice a n c] []
    (fun r Γ => ∃ an cn am cm, r = .agg #[.slice a n c, .slice an ctNames.length cn, .slice am ctA.length cm] ∧ Γ = [Rds fun bl => RdSl w0 bl encY 1 (.slice an ctNames.length cn) ctNames ∧ RdSl w0 bl encMA 3 (.slice am ctA.length cm) ctA]) := by
  refine fn_of_run en27 fn27 rfl rfl rfl ?_
  repeat (first | refine zck ?_ | refine zcl ?_ | refine zcm ?_ | refine zcn ?_)
  first | refine zcp (by kernel_rfl) ?_ | refine zcq PP_mixed (by kernel_rfl) (by kernel_rfl) ?_
  repeat' (refine zap rfl ?_; first | refine zar (fun b2 => ?_))
  all_goals refine zch ?_
  all_goals repeat (first | refine zck ?_ | refine zcl ?_ | refine zcm ?_ | refine zcn ?_)
  repeat (first | refine zck ?_ | refine zcl ?_ | refine zcm ?_ | refine zcn ?_)
  first | refine zcp (by kernel_rfl) ?_ | refine zcq PP_mixed (by kernel_rfl) (by kernel_rfl) ?_
  repeat' (refine zap rfl ?_; first | refine zar (fun b3 => ?_) | refine zan rfl ?_ | refine zae 1 rfl rfl rfl rfl rfl rfl rfl ?_ | refine zcb rfl ?_)
  all_goals refine zch ?_
  all_goals repeat (first | refine zck ?_ | refine zcl ?_ | refine zcm ?_ | refine zcn ?_)
  refine run_nilslice 9 1 ?_
  refine run_nilslice 117 3 ?_
  refine run_take [1, 1, 1, 0] rfl ?_
  repeat (first | refine zck ?_ | refine zcl ?_ | refine zcm ?_ | refine zcn ?_)
  first | refine zcp (by kernel_rfl) ?_ | refine zcq PP_mixed (by kernel_rfl) (by kernel_rfl) ?_
  repeat' (refine zap rfl ?_; first | refine zan rfl ?_)
  all_goals refine zch ?_
  all_goals repeat (first | refine zck ?_ | refine zcl ?_ | refine zcm ?_ | refine zcn ?_)
  refine run_loop (S := Nat × Option Addr × Nat × Option Addr × Nat) (fun s => [(2, .pointer (some ⟨b2, 0, none⟩)), (3, .pointer (some ⟨b3, 0, none⟩)), (9, .int .i64 s.1)])
    (fun s Γ => Γ = [pt b3 (.cells (List.toArray [.slice a n c, .slice s.2.1 s.1 s.2.2.1, .slice s.2.2.2.1 (allA (ctG.take s.1)).length s.2.2.2.2]) 53 (0, 0)), SlA 9 1 s.2.1 s.1 s.2.2.1 ((ctNames.take s.1).flatMap encY), SlA 117 3 s.2.2.2.1 (allA (ctG.take s.1)).length s.2.2.2.2 ((allA (ctG.take s.1)).flatMap encMA), pt b2 (.cells (List.toArray [.slice none 0 0, .slice none 0 0, .slice none 0 0]) 53 (0, 0))] ∧ s.1 ≤ 10) (fun s => 10 - s.1) (0, none, 0, none, 0)
    ⟨rfl, rfl, rfl, trivial⟩ ⟨rfl, Nat.zero_le _⟩ ?_
  rintro ⟨k, an, cn, am, cm⟩ Γ junk2 ⟨rfl, g2⟩
  dsimp only at g2 ⊢
  by_cases hk : k < 10
  · have hmk := methodsX_spec w0 k
    have hnk := name_spec w0 k
    have hsm := allA_small g2
    have hnext := allA_next hk
    have hnt := take_snoc (ctNames_at hk)
    have hlen : (ctMeths k).length ≤ 10 := by
      have h := msK_rows k
      rw [← h, List.length_map]
      exact msK_len k
    generalize ctMeths (k : Int) = ms at *
    generalize ctName (k : Int) = nm at *
    generalize allA (ctG.take k) = M0 at *
    repeat (first | refine zck ?_ | refine zcl ?_ | refine zcm ?_ | refine zcn ?_)
    first | refine zcp (by kernel_rfl) ?_ | refine zcq PP_mixed (by kernel_rfl) (by kernel_rfl) ?_
    repeat' (refine zap rfl ?_; first | refine zbg rfl rfl (by omega) ?_)
    all_goals refine zch ?_
    all_goals repeat (first | refine zck ?_ | refine zcl ?_ | refine zcm ?_ | refine zcn ?_)
    refine zci rfl ?_
    repeat (first | refine zck ?_ | refine zcl ?_ | refine zcm ?_ | refine zcn ?_)
    first | refine zcp (by kernel_rfl) ?_ | refine zcq PP_mixed (by kernel_rfl) (by kernel_rfl) ?_
    repeat' (refine zap rfl ?_; first | refine zan rfl ?_ | refine zan rfl ?_)
    all_goals refine zch ?_
    all_goals repeat (first | refine zck ?_ | refine zcl ?_ | refine zcm ?_ | refine zcn ?_)
    repeat (first | refine zck ?_ | refine zcl ?_ | refine zcm ?_ | refine zcn ?_)
    refine run_drawT [0] [(.quiet, 0), (.quiet, 1), (.quiet, 2), (.loud, 3), (.loud, 4), (.loud, 5)] [(.quiet, 6), (.loud, 7)] PP_mixed (by kernel_rfl) (by kernel_rfl) rfl ?_
    repeat' (refine zap rfl ?_; first | refine reg_buildSlice rfl rfl rfl rfl rfl rfl (fun nb9 => ?_) | refine zan rfl ?_ | refine zaa 0 rfl rfl rfl ?_ | refine zah [] hnk rfl rfl rfl sub_nil rfl ?_ | refine reg_append 0 3 rfl rfl rfl rfl rfl rfl rfl rfl (by omega) (fun _ _ => rfl) (fun a5 c5 => ?_) | refine zao rfl ?_)
    all_goals refine reg_turn ?_
    all_goals repeat' (refine zap rfl ?_; first | refine zao rfl ?_ | refine zae 0 rfl rfl rfl rfl rfl rfl rfl ?_)
    all_goals refine zch ?_
    all_goals repeat (first | refine zck ?_ | refine zcl ?_ | refine zcm ?_ | refine zcn ?_)
    refine run_take [0, 0, 0, 0] rfl ?_
    repeat (first | refine zck ?_ | refine zcl ?_ | refine zcm ?_ | refine zcn ?_)
    first | refine zcp (by kernel_rfl) ?_ | refine zcq PP_mixed (by kernel_rfl) (by kernel_rfl) ?_
    repeat' (refine zap rfl ?_; first | refine zan rfl ?_ | (refine zai [] hmk rfl rfl rfl sub_nil ?_; rintro v Γ ⟨av, cv, rfl, rfl⟩) | refine zce rfl ?_)
    all_goals refine zch ?_
    all_goals repeat (first | refine zck ?_ | refine zcl ?_ | refine zcm ?_ | refine zcn ?_)
    refine run_shareB [0] rfl (fun bl hbl => ?_)
    refine run_loop (S := Nat × Option Addr × Nat) (fun s => [(2, .pointer (some ⟨b2, 0, none⟩)), (3, .pointer (some ⟨b3, 0, none⟩)), (9, .int .i64 k), (4, .int .i64 k), (20, .slice av ms.length cv), (21, .int .i64 ms.length), (22, .int .i64 s.1)])
      (fun s Γ => Γ = [pt b3 (.cells (List.toArray [.slice a n c, .slice a5 (k + 1) c5, .slice s.2.1 (M0 ++ grpA nm (ms.take s.1)).length s.2.2]) 53 (0, 0)), SlA 9 1 a5 (k + 1) c5 ((ctNames.take (k + 1)).flatMap encY), SlA 117 3 s.2.1 (M0 ++ grpA nm (ms.take s.1)).length s.2.2 ((M0 ++ grpA nm (ms.take s.1)).flatMap encMA), pt b2 (.cells (List.toArray [.slice none 0 0, .slice none 0 0, .slice none 0 0]) 53 (0, 0))] ∧ s.1 ≤ ms.length) (fun s => ms.length - s.1) (0, am, cm)
      ⟨rfl, rfl, rfl, rfl, rfl, rfl, rfl, trivial⟩ ⟨by dsimp only; rw [List.take_zero, show M0 ++ grpA nm [] = M0 from List.append_nil _, hnt, List.flatMap_append]; rfl, Nat.zero_le _⟩ ?_
    rintro ⟨i, am2, cm2⟩ Γ junk3 ⟨rfl, g3⟩
    dsimp only at g3 ⊢
    by_cases hi : i < ms.length
    · obtain ⟨x, hx⟩ : ∃ x, ms[i]? = some x := ⟨_, List.getElem?_eq_getElem hi⟩
      obtain ⟨b, off, cc, T, fr, rfl, e2, e3, _⟩ := hbl.cells hx
      have hL : (M0 ++ grpA nm (ms.take (i + 1))) = (M0 ++ grpA nm (ms.take i)) ++ [(nm, x.1, x.2.1)] := by
        rw [take_snoc hx, List.append_assoc]
        unfold grpA
        rw [List.map_append]
        rfl
      have hLn : (M0 ++ grpA nm (ms.take i)).length ≤ 1000 := by
        rw [List.length_append]
        unfold grpA
        rw [List.length_map, List.length_take]
        omega
      repeat (first | refine zck ?_ | refine zcl ?_ | refine zcm ?_ | refine zcn ?_)
      first | refine zcp (by kernel_rfl) ?_ | refine zcq PP_mixed (by kernel_rfl) (by kernel_rfl) ?_
      repeat' (refine zap rfl ?_; first | refine zbg rfl rfl (by omega) ?_)
      all_goals refine zch ?_
      all_goals repeat (first | refine zck ?_ | refine zcl ?_ | refine zcm ?_ | refine zcn ?_)
      refine zci rfl ?_
      generalize M0 ++ grpA nm (ms.take i) = ML at *
      repeat (first | refine zck ?_ | refine zcl ?_ | refine zcm ?_ | refine zcn ?_)
      first | refine zcp (by kernel_rfl) ?_ | refine zcq PP_mixed (by kernel_rfl) (by kernel_rfl) ?_
      repeat' (refine zap rfl ?_; first | refine zad rfl (fun hF Γ w h1 h2 => e2 hF Γ w (fun p hp => h1 p (by simp [hp])) h2) (e3 _ (by omega)) ?_ | refine zar (fun t6 => ?_) | refine zae 4 rfl rfl rfl rfl rfl rfl rfl ?_ | refine zas rfl rfl (by omega) ?_)
      all_goals refine zch ?_
      all_goals repeat (first | refine zck ?_ | refine zcl ?_ | refine zcm ?_ | refine zcn ?_)
      refine run_share [4] rfl ?_
      repeat (first | refine zck ?_ | refine zcl ?_ | refine zcm ?_ | refine zcn ?_)
      refine run_drawT [0] [(.quiet, 0), (.quiet, 1), (.quiet, 2), (.loud, 3), (.quiet, 4), (.quiet, 5), (.quiet, 6), (.quiet, 7), (.quiet, 8), (.loud, 9), (.loud, 10)] [(.quiet, 11), (.loud, 12)] PP_mixed (by kernel_rfl) (by kernel_rfl) rfl ?_
      repeat' (refine zap rfl ?_; first | refine reg_buildSlice rfl rfl rfl rfl rfl rfl (fun nb9 => ?_) | refine zan rfl ?_ | refine zaa 0 rfl rfl rfl ?_ | refine zaa 1 rfl rfl rfl ?_ | refine zah [] hnk rfl rfl rfl sub_nil rfl ?_ | refine reg_append 1 3 rfl rfl rfl rfl rfl rfl rfl rfl (by omega) (fun _ _ => rfl) (fun a6 c6 => ?_) | refine zao rfl ?_ | refine zcb rfl ?_)
      all_goals refine reg_turn ?_
      all_goals repeat' (refine zap rfl ?_; first | refine zao rfl ?_ | refine zae 0 rfl rfl rfl rfl rfl rfl rfl ?_)
      all_goals refine zch ?_
      all_goals repeat (first | refine zck ?_ | refine zcl ?_ | refine zcm ?_ | refine zcn ?_)
      refine run_take [0, 0, 0, 0] rfl ?_
      repeat' (first | refine zcp (by kernel_rfl) ?_ | (refine zap rfl ?_; first | refine zan rfl ?_ | refine zau rfl rfl (by omega) ?_) | refine zch ?_)
      refine cut_end ⟨rfl, (i + 1, a6, c6), ⟨rfl, rfl, rfl, rfl, rfl, rfl, int_eq (by dsimp only; omega), trivial⟩, ⟨?_, by dsimp only; omega⟩, by dsimp only; omega⟩
      dsimp only
      rw [hL, List.length_append, List.flatMap_append]
      rfl
    · repeat (first | refine zck ?_ | refine zcl ?_ | refine zcm ?_ | refine zcn ?_)
      first | refine zcp (by kernel_rfl) ?_ | refine zcq PP_mixed (by kernel_rfl) (by kernel_rfl) ?_
      repeat' (refine zap rfl ?_; first | refine zbh rfl rfl (by omega) ?_)
      all_goals refine zch ?_
      all_goals repeat (first | refine zck ?_ | refine zcl ?_ | refine zcm ?_ | refine zcn ?_)
      refine zcj rfl ?_
      refine cut_exit rfl rfl ?_
      repeat' (first | refine zcp (by kernel_rfl) ?_ | refine zcn ?_ | (refine zap rfl ?_; first | refine zan rfl ?_ | refine zau rfl rfl (by omega) ?_) | refine zch ?_)
      refine cut_end ⟨rfl, (k + 1, a5, c5, am2, cm2), ⟨rfl, rfl, int_eq (by dsimp only; omega), trivial⟩, ⟨?_, by dsimp only; omega⟩, by dsimp only; omega⟩
      dsimp only
      rw [hnext, List.take_of_length_le (show ms.length ≤ i by omega)]
  · have hkl : k = 10 := by omega
    subst hkl
    rw [allA_all, ctNames_all]
    repeat (first | refine zck ?_ | refine zcl ?_ | refine zcm ?_ | refine zcn ?_)
    first | refine zcp (by kernel_rfl) ?_ | refine zcq PP_mixed (by kernel_rfl) (by kernel_rfl) ?_
    repeat' (refine zap rfl ?_; first | refine zbh rfl rfl (by omega) ?_)
    all_goals refine zch ?_
    all_goals repeat (first | refine zck ?_ | refine zcl ?_ | refine zcm ?_ | refine zcn ?_)
    refine zcj rfl ?_
    refine cut_exit rfl rfl ?_
    refine run_slR encY 1 (l := ctNames) rfl rfl (fun _ _ => rfl) rfl rfl ?_
    refine run_slR encMA 2 (l := ctA) rfl rfl (fun _ _ => rfl) rfl rfl ?_
    repeat (first | refine zck ?_ | refine zcl ?_ | refine zcm ?_ | refine zcn ?_)
    first | refine zcp (by kernel_rfl) ?_ | refine zcq PP_mixed (by kernel_rfl) (by kernel_rfl) ?_
    repeat' (refine zap rfl ?_; first | refine zab 0 rfl rfl rfl ?_ | refine zae 3 rfl rfl rfl rfl rfl rfl rfl ?_)
    all_goals refine zch ?_
    all_goals repeat (first | refine zck ?_ | refine zcl ?_ | refine zcm ?_ | refine zcn ?_)
    refine run_joinR [1, 1] (χ := fun bl => RdSl w0 bl encY 1 (.slice an ctNames.length cn) ctNames ∧ RdSl w0 bl encMA 3 (.slice am ctA.length cm) ctA) rfl
      (fun q1 q2 h1 h2 => ⟨h1.mono fun p hp => List.mem_append_left _ hp, h2.mono fun p hp => List.mem_append_right _ hp⟩) ?_
    exact run_ret (leaves_nil (ends_take [0] rfl (ends_one rfl (resOk_pt 2 rfl rfl rfl) ⟨rfl, an, cn, am, cm, rfl, rfl⟩)))
end Go.Proofs.YtijbnjaackhlcaaGreatDoor

