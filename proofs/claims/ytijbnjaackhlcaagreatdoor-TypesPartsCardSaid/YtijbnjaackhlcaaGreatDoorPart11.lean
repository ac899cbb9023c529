import Derived.Test.YtijbnjaackhlcaaGreatDoorPart8
import Derived.Test.YtijbnjaackhlcaaGreatDoorPart10
import Derived.Test.YtijbnjaackhlcaaGreatDoorPart4
import Derived.Test.YtijbnjaackhlcaaGreatDoorPart3
import Derived.Test.YtijbnjaackhlcaaGreatDoorPart1
/- Lemmas and walks for the claims of this seat (own work): Yw3 Sm0 Yw4 Hp1 Yw5 Ty5 Yw6 Yw7. -/
namespace Go.Proofs.YtijbnjaackhlcaaGreatDoor
open Go.Vc Sim
theorem stR_lend (w0 : World) (sh : Shared) (st : List (ByteArray × ByteArray)) (n : Nat) (hS : StR w0 st n) (ast akn aml aA : Option Addr) (cst ckn cml cA : Nat) (A0 : TV) (v : Value) (l : List PS) (hl : PS.sizeL l ≤ n) (hW : RdW w0 sh (.slice ast st.length cst) (.slice akn ctNames.length ckn) (.slice aml ctA.length cml) st) (b1 : A0.length + PS.sizeL l ≤ 500000)
    (A' : TV) (c' : Int) (hr : tySs (fun s => lastK st s none) l A0 A0 = (A', c')) :
    Vc.Fn PP w0 sh 34 [.agg #[.slice ast st.length cst, .slice akn ctNames.length ckn, .slice aml ctA.length cml], .slice aA A0.length cA, .slice aA A0.length cA, v] [Rds fun bl => RdSl w0 bl encT 2 (.slice aA A0.length cA) A0, Rds fun bl => RdSt w0 bl v l]
    (fun r Γ => ∃ a c, r = .tuple #[.slice a A'.length c, .int .i64 c'] ∧ Γ = [OwnT w0 (.slice aA A0.length cA) A0 (.slice a A'.length c) A', Rds fun bl => RdSt w0 bl v l, Rds fun bl => RdSl w0 bl encT 2 (.slice aA A0.length cA) A0]) := by
  refine (Fn.lendR (φ := fun bl => RdSl w0 bl encT 2 (.slice aA A0.length cA) A0) en34 (fun sh1 bl1 h1 h2 h3 => Fn.lendR (φ := fun bl => RdSt w0 bl v l) en34 (fun sh2 bl2 g1 g2 g3 => hS sh2 ast akn aml aA aA cst ckn cml cA cA A0 A0 v l hl ((hW.mono h1).mono g1) ((h3.mono h2).mono g1) ((h3.mono h2).mono g1) (g3.mono g2) b1 b1))).mono ?_
  rintro r Γ ⟨_, ⟨_, ⟨a, c, rfl, rfl⟩, rfl⟩, rfl⟩
  rw [hr]
  exact ⟨a, c, rfl, rfl⟩
set_option maxHeartbeats 8000000 in
theorem lawCheck_spec (w0 : World) (hk : KwOk w0) (v : Value) (p : PP') (oper : ByteArray) (hp : RdP w0 [] v p) (hs : PP'.small p) (hb : ∀ o ∈ p.opers, PS.sizeL o.body ≤ 10000) :
    Vc.Fn PP w0 [] 19 [v, .string oper] [] (fun r Γ => ∃ a c, r = .tuple #[.string (tyP p).1, .int .i64 (tyP p).2, .slice a (wantP p oper).length c] ∧ Γ = [Rds fun bl => RdSl w0 bl encT 2 (.slice a (wantP p oper).length c) (wantP p oper)]) := by
  have hck := check_spec w0 hk [] v p hp hs
  obtain ⟨vs, vo, rfl, h1, h2⟩ := hp
  obtain ⟨a1, c1, hvs, hc1, _⟩ := id h1
  obtain ⟨a2, c2, hvo, hc2⟩ := h2.len
  subst hvs; subst hvo
  obtain ⟨O, hO⟩ : ∃ O, tyP p = O := ⟨_, rfl⟩
  obtain ⟨Wt, hW⟩ : ∃ W, wantP p oper = W := ⟨_, rfl⟩
  unfold wantP at hW
  rw [hO] at hW
  rw [show wantP p oper = Wt by unfold wantP; rw [hO]; exact hW, hO]
  unfold tyP at hO
  refine fn_of_run en19 fn19 rfl rfl rfl ?_
  repeat (first | refine zck ?_ | refine zcl ?_ | refine zcm ?_ | refine zcn ?_)
  first | refine zcp (by kernel_rfl) ?_ | refine zcq PP_mixed (by kernel_rfl) (by kernel_rfl) ?_
  repeat' (refine zap rfl ?_; first | refine zaq (cs := [_, _]) rfl (fun tp => ?_) | refine zan rfl ?_)
  all_goals refine zch ?_
  all_goals repeat (first | refine zck ?_ | refine zcl ?_ | refine zcm ?_ | refine zcn ?_)
  refine run_share [0] rfl ?_
  repeat (first | refine zck ?_ | refine zcl ?_ | refine zcm ?_ | refine zcn ?_)
  first | refine zcp (by kernel_rfl) ?_ | refine zcq PP_mixed (by kernel_rfl) (by kernel_rfl) ?_
  repeat' (refine zap rfl ?_; first | refine zan rfl ?_)
  all_goals refine zch ?_
  all_goals repeat (first | refine zck ?_ | refine zcl ?_ | refine zcm ?_ | refine zcn ?_)
  repeat (first | refine zck ?_ | refine zcl ?_ | refine zcm ?_ | refine zcn ?_)
  first | refine zcp (by kernel_rfl) ?_ | refine zcq PP_mixed (by kernel_rfl) (by kernel_rfl) ?_
  repeat' (refine zap rfl ?_; first | refine zan rfl ?_ | refine zaa 0 rfl rfl rfl ?_ | refine zah [] hck rfl rfl rfl (fun p hp => .tail _ hp) rfl ?_)
  all_goals refine zch ?_
  all_goals repeat (first | refine zck ?_ | refine zcl ?_ | refine zcm ?_ | refine zcn ?_)
  by_cases hC : checkP p = 0
  rotate_left
  · rw [if_pos hC] at hO
    subst hO
    rw [if_pos (show (bs [], checkP p).2 ≠ 0 from hC)] at hW
    subst hW
    repeat (first | refine zck ?_ | refine zcl ?_ | refine zcm ?_ | refine zcn ?_)
    first | refine zcp (by kernel_rfl) ?_ | refine zcq PP_mixed (by kernel_rfl) (by kernel_rfl) ?_
    repeat' (refine zap rfl ?_; first | refine zan rfl ?_ | refine zbe rfl rfl (by omega) ?_)
    all_goals refine zch ?_
    all_goals repeat (first | refine zck ?_ | refine zcl ?_ | refine zcm ?_ | refine zcn ?_)
    refine zci rfl ?_
    refine run_emptyR (fun bl => RdSl w0 bl encT 2 (.slice none 0 0) []) RdSl.nil ?_
    repeat' (first | refine zck ?_ | refine zcp (by kernel_rfl) ?_ | (refine zap rfl ?_; first | refine zan rfl ?_ | refine zan rfl ?_) | refine zch ?_)
    exact ret_tmp3 rfl ⟨none, 0, rfl, rfl⟩
  rw [if_neg (fun q => q hC)] at hO
  obtain ⟨z1, z2, z3, z4, z5⟩ := checkP_iff.1 hC
  have hlk := lastK_fun z3
  have hSt := stmtsR_spec w0 p.stores (by omega) 90000 (Nat.le_refl _)
  repeat (first | refine zck ?_ | refine zcl ?_ | refine zcm ?_ | refine zcn ?_)
  first | refine zcp (by kernel_rfl) ?_ | refine zcq PP_mixed (by kernel_rfl) (by kernel_rfl) ?_
  repeat' (refine zap rfl ?_; first | refine zan rfl ?_ | refine zbf rfl rfl (by omega) ?_)
  all_goals refine zch ?_
  all_goals repeat (first | refine zck ?_ | refine zcl ?_ | refine zcm ?_ | refine zcn ?_)
  refine zcj rfl ?_
  repeat (first | refine zck ?_ | refine zcl ?_ | refine zcm ?_ | refine zcn ?_)
  first | refine zcp (by kernel_rfl) ?_ | refine zcq PP_mixed (by kernel_rfl) (by kernel_rfl) ?_
  repeat' (refine zap rfl ?_; first | refine zan rfl ?_)
  all_goals refine zch ?_
  all_goals repeat (first | refine zck ?_ | refine zcl ?_ | refine zcm ?_ | refine zcn ?_)
  refine run_nilslice 72 2 ?_
  repeat (first | refine zck ?_ | refine zcl ?_ | refine zcm ?_ | refine zcn ?_)
  first | refine zcp (by kernel_rfl) ?_ | refine zcq PP_mixed (by kernel_rfl) (by kernel_rfl) ?_
  repeat' (refine zap rfl ?_; first | refine zan rfl ?_ | refine zaa 0 rfl rfl rfl ?_ | refine zce rfl ?_ | refine zao rfl ?_)
  all_goals refine zch ?_
  all_goals repeat (first | refine zck ?_ | refine zcl ?_ | refine zcm ?_ | refine zcn ?_)
  refine run_loop (S := Nat × Option Addr × Nat) (fun s => [(1, .string oper), (2, .pointer (some ⟨tp, 0, none⟩)), (7, .slice none 0 0), (9, .slice s.2.1 s.1 s.2.2), (28, .slice a1 p.stores.length c1), (29, .int .i64 p.stores.length), (30, .int .i64 s.1)])
    (fun s Γ => Γ = [SlA 72 2 s.2.1 s.1 s.2.2 ((p.stores.take s.1).flatMap encD)] ∧ s.1 ≤ p.stores.length) (fun s => p.stores.length - s.1) (0, none, 0)
    ⟨rfl, rfl, rfl, rfl, rfl, rfl, rfl, trivial⟩ ⟨rfl, Nat.zero_le _⟩ ?_
  rintro ⟨j, a, c⟩ Γ junk ⟨rfl, g1⟩
  dsimp only at g1 ⊢
  by_cases hj : j < p.stores.length
  · obtain ⟨x, hx⟩ : ∃ x, p.stores[j]? = some x := ⟨_, List.getElem?_eq_getElem hj⟩
    obtain ⟨b, off, cc, T, fr, rfl, e2, e3, _⟩ := h1.cells hx
    repeat (first | refine zck ?_ | refine zcl ?_ | refine zcm ?_ | refine zcn ?_)
    first | refine zcp (by kernel_rfl) ?_ | refine zcq PP_mixed (by kernel_rfl) (by kernel_rfl) ?_
    repeat' (refine zap rfl ?_; first | refine zbg rfl rfl (by omega) ?_)
    all_goals refine zch ?_
    all_goals repeat (first | refine zck ?_ | refine zcl ?_ | refine zcm ?_ | refine zcn ?_)
    refine zci rfl ?_
    repeat (first | refine zck ?_ | refine zcl ?_ | refine zcm ?_ | refine zcn ?_)
    first | refine zcp (by kernel_rfl) ?_ | refine zcq PP_mixed (by kernel_rfl) (by kernel_rfl) ?_
    repeat' (refine zap rfl ?_; first | refine zad rfl (fun hF Γ w h1 h2 => e2 hF Γ w (fun p hp => h1 p (.tail _ hp)) h2) (e3 _ (by omega)) ?_ | refine zar (fun t6 => ?_) | refine zae 1 rfl rfl rfl rfl rfl rfl rfl ?_ | refine zas rfl rfl (by omega) ?_)
    all_goals refine zch ?_
    all_goals repeat (first | refine zck ?_ | refine zcl ?_ | refine zcm ?_ | refine zcn ?_)
    refine run_share [1] rfl ?_
    repeat (first | refine zck ?_ | refine zcl ?_ | refine zcm ?_ | refine zcn ?_)
    first | refine zcp (by kernel_rfl) ?_ | refine zcq PP_mixed (by kernel_rfl) (by kernel_rfl) ?_
    repeat' (refine zap rfl ?_; first | refine reg_buildSlice rfl rfl rfl rfl rfl rfl (fun nb9 => ?_) | refine zan rfl ?_ | refine zan rfl ?_ | refine zaa 0 rfl rfl rfl ?_ | refine reg_append 0 1 rfl rfl rfl rfl rfl rfl rfl rfl (by omega) (fun _ _ => rfl) (fun a5 c5 => ?_) | refine zao rfl ?_ | refine reg_buildA rfl ?_)
    all_goals refine zch ?_
    all_goals repeat (first | refine zck ?_ | refine zcl ?_ | refine zcm ?_ | refine zcn ?_)
    refine run_take [0] rfl ?_
    repeat' (first | refine zcp (by kernel_rfl) ?_ | (refine zap rfl ?_; first | refine zan rfl ?_ | refine zau rfl rfl (by omega) ?_) | refine zch ?_)
    refine cut_end ⟨rfl, (j + 1, a5, c5), ⟨rfl, rfl, rfl, rfl, rfl, rfl, int_eq (by dsimp only; omega), trivial⟩, ⟨?_, by dsimp only; omega⟩, by dsimp only; omega⟩
    dsimp only
    rw [take_snoc hx, List.flatMap_append]
    rfl
  have hjl : j = p.stores.length := by omega
  subst hjl
  repeat (first | refine zck ?_ | refine zcl ?_ | refine zcm ?_ | refine zcn ?_)
  first | refine zcp (by kernel_rfl) ?_ | refine zcq PP_mixed (by kernel_rfl) (by kernel_rfl) ?_
  repeat' (refine zap rfl ?_; first | refine zbh rfl rfl (by omega) ?_)
  all_goals refine zch ?_
  all_goals repeat (first | refine zck ?_ | refine zcl ?_ | refine zcm ?_ | refine zcn ?_)
  refine zcj rfl ?_
  refine cut_exit rfl rfl ?_
  refine run_slR encD 0 (l := p.stores) rfl (by rw [List.take_of_length_le (Nat.le_refl _)]) (fun _ _ => rfl) rfl rfl ?_
  refine run_shareB [0] rfl (fun bS hbS => ?_)
  have hwd := world_spec w0 [] a p.stores.length c
  repeat (first | refine zck ?_ | refine zcl ?_ | refine zcm ?_ | refine zcn ?_)
  first | refine zcp (by kernel_rfl) ?_ | refine zcq PP_mixed (by kernel_rfl) (by kernel_rfl) ?_
  repeat' (refine zap rfl ?_; first | refine zar (fun t12 => ?_) | refine zan rfl ?_ | (refine zai [] hwd rfl rfl rfl sub_nil ?_; rintro v Γ ⟨an, cn, am, cm, rfl, rfl⟩) | refine zae 1 rfl rfl rfl rfl rfl rfl rfl ?_)
  all_goals refine zch ?_
  all_goals repeat (first | refine zck ?_ | refine zcl ?_ | refine zcm ?_ | refine zcn ?_)
  refine run_share [1] rfl ?_
  refine run_shareB [0] rfl (fun bW hbW => ?_)
  have hRW : ∀ sh' : Shared, (∀ p ∈ bS, p ∈ sh') → (∀ p ∈ bW, p ∈ sh') → RdW w0 sh' (.slice a p.stores.length c) (.slice an ctNames.length cn) (.slice am ctA.length cm) p.stores := fun sh' q1 q2 => ⟨hbS.mono q1, hbW.1.mono q2, hbW.2.mono q2⟩
  repeat (first | refine zck ?_ | refine zcl ?_ | refine zcm ?_ | refine zcn ?_)
  first | refine zcp (by kernel_rfl) ?_ | refine zcq PP_mixed (by kernel_rfl) (by kernel_rfl) ?_
  repeat' (refine zap rfl ?_; first | refine zan rfl ?_ | refine zaa 1 rfl rfl rfl ?_ | refine zce rfl ?_ | refine zao rfl ?_)
  all_goals refine zch ?_
  all_goals repeat (first | refine zck ?_ | refine zcl ?_ | refine zcm ?_ | refine zcn ?_)
  refine run_loop (S := Nat) (fun j => [(1, .string oper), (2, .pointer (some ⟨tp, 0, none⟩)), (7, .slice none 0 0), (12, .pointer (some ⟨t12, 0, none⟩)), (46, .slice a1 p.stores.length c1), (47, .int .i64 p.stores.length), (48, .int .i64 (j : Int))])
    (fun j Γ => Γ = [] ∧ j ≤ p.stores.length ∧ (p.stores.drop j).find? (fun d => decide (ctKind d.2 = none)) = badStore p) (fun j => p.stores.length - j) 0 ⟨rfl, rfl, rfl, rfl, rfl, rfl, rfl, trivial⟩ ⟨rfl, by omega, rfl⟩ ?_
  rintro j Γ junk ⟨rfl, g1, g2⟩
  by_cases hj : j < p.stores.length
  · obtain ⟨x, hx⟩ : ∃ x, p.stores[j]? = some x := ⟨_, List.getElem?_eq_getElem hj⟩
    obtain ⟨b, off, cc, T, fr, rfl, e2, e3, _⟩ := h1.cells hx
    have hin := fun sh' (q : ∀ p ∈ bW, p ∈ sh') => in_spec w0 sh' (.slice an ctNames.length cn) ctNames x.2 (hbW.1.mono q) (by rw [ctNames_len]; omega)
    rw [badStore_drop hx] at g2
    rw [ctNames_in] at hin
    repeat (first | refine zck ?_ | refine zcl ?_ | refine zcm ?_ | refine zcn ?_)
    first | refine zcp (by kernel_rfl) ?_ | refine zcq PP_mixed (by kernel_rfl) (by kernel_rfl) ?_
    repeat' (refine zap rfl ?_; first | refine zbg rfl rfl (by omega) ?_)
    all_goals refine zch ?_
    all_goals repeat (first | refine zck ?_ | refine zcl ?_ | refine zcm ?_ | refine zcn ?_)
    refine zci rfl ?_
    repeat (first | refine zck ?_ | refine zcl ?_ | refine zcm ?_ | refine zcn ?_)
    first | refine zcp (by kernel_rfl) ?_ | refine zcq PP_mixed (by kernel_rfl) (by kernel_rfl) ?_
    repeat' (refine zap rfl ?_; first | refine zad rfl (fun hF Γ w h1 h2 => e2 hF Γ w (fun p hp => by cases hp) h2) (e3 _ (by omega)) ?_ | refine zar (fun t6 => ?_) | refine zae 0 rfl rfl rfl rfl rfl rfl rfl ?_ | refine zas rfl rfl (by omega) ?_)
    all_goals refine zch ?_
    all_goals repeat (first | refine zck ?_ | refine zcl ?_ | refine zcm ?_ | refine zcn ?_)
    refine run_share [0] rfl ?_
    cases hq : ctKind x.2 with
    | none =>
      rw [hq] at hin g2
      rw [if_pos rfl] at g2
      rw [← g2] at hO
      dsimp only at hO
      subst hO
      rw [if_pos (by show (2 : Int) ≠ 0; decide)] at hW
      subst hW
      repeat (first | refine zck ?_ | refine zcl ?_ | refine zcm ?_ | refine zcn ?_)
      first | refine zcp (by kernel_rfl) ?_ | refine zcq PP_mixed (by kernel_rfl) (by kernel_rfl) ?_
      repeat' (refine zap rfl ?_; first | refine zbx rfl ?_ | refine zaa 0 rfl rfl rfl ?_ | refine zaa 1 rfl rfl rfl ?_ | refine zah [] (hin _ fun p hp => by simp [hp]) rfl rfl rfl (fun _ h => h) rfl ?_ | refine zce rfl ?_ | refine zao rfl ?_)
      all_goals refine zch ?_
      all_goals repeat (first | refine zck ?_ | refine zcl ?_ | refine zcm ?_ | refine zcn ?_)
      refine zci rfl ?_
      repeat (first | refine zck ?_ | refine zcl ?_ | refine zcm ?_ | refine zcn ?_)
      first | refine zcp (by kernel_rfl) ?_ | refine zcq PP_mixed (by kernel_rfl) (by kernel_rfl) ?_
      repeat' (refine zap rfl ?_; first | refine zan rfl ?_ | refine zaa 0 rfl rfl rfl ?_ | refine zao rfl ?_)
      all_goals refine zch ?_
      all_goals repeat (first | refine zck ?_ | refine zcl ?_ | refine zcm ?_ | refine zcn ?_)
      refine run_emptyR (fun bl => RdSl w0 bl encT 2 (.slice none 0 0) []) RdSl.nil ?_
      exact qret3 (fun _ _ h => h) rfl ⟨none, 0, rfl, rfl⟩
    | some i =>
      rw [hq] at hin g2
      rw [if_neg (fun q => by cases q)] at g2
      repeat (first | refine zck ?_ | refine zcl ?_ | refine zcm ?_ | refine zcn ?_)
      first | refine zcp (by kernel_rfl) ?_ | refine zcq PP_mixed (by kernel_rfl) (by kernel_rfl) ?_
      repeat' (refine zap rfl ?_; first | refine zbx rfl ?_ | refine zaa 0 rfl rfl rfl ?_ | refine zaa 1 rfl rfl rfl ?_ | refine zah [] (hin _ fun p hp => by simp [hp]) rfl rfl rfl (fun _ h => h) rfl ?_ | refine zce rfl ?_ | refine zao rfl ?_)
      all_goals refine zch ?_
      all_goals repeat (first | refine zck ?_ | refine zcl ?_ | refine zcm ?_ | refine zcn ?_)
      refine zcj rfl ?_
      repeat' (first | refine zcp (by kernel_rfl) ?_ | refine zcm ?_ | refine zcn ?_ | (refine zap rfl ?_; first | refine zan rfl ?_ | refine zau rfl rfl (by omega) ?_) | refine zch ?_)
      exact cut_end ⟨rfl, j + 1, ⟨rfl, rfl, rfl, rfl, rfl, rfl, int_eq (by omega), trivial⟩, ⟨rfl, by omega, g2⟩, by omega⟩
  rw [List.drop_of_length_le (by omega), List.find?_nil] at g2
  rw [← g2] at hO
  dsimp only at hO
  repeat (first | refine zck ?_ | refine zcl ?_ | refine zcm ?_ | refine zcn ?_)
  first | refine zcp (by kernel_rfl) ?_ | refine zcq PP_mixed (by kernel_rfl) (by kernel_rfl) ?_
  repeat' (refine zap rfl ?_; first | refine zbh rfl rfl (by omega) ?_)
  all_goals refine zch ?_
  all_goals repeat (first | refine zck ?_ | refine zcl ?_ | refine zcm ?_ | refine zcn ?_)
  refine zcj rfl ?_
  refine cut_exit rfl rfl ?_
  repeat (first | refine zck ?_ | refine zcl ?_ | refine zcm ?_ | refine zcn ?_)
  first | refine zcp (by kernel_rfl) ?_ | refine zcq PP_mixed (by kernel_rfl) (by kernel_rfl) ?_
  repeat' (refine zap rfl ?_; first | refine zan rfl ?_ | refine zaa 1 rfl rfl rfl ?_ | refine zce rfl ?_ | refine zao rfl ?_)
  all_goals refine zch ?_
  all_goals repeat (first | refine zck ?_ | refine zcl ?_ | refine zcm ?_ | refine zcn ?_)
  refine run_emptyR (fun bl => RdSl w0 bl encT 2 (.slice none 0 0) (wantL p oper (p.opers.take 0))) RdSl.nil ?_
  refine run_loop (S := Nat × Option Addr × Nat) (fun s => [(1, .string oper), (2, .pointer (some ⟨tp, 0, none⟩)), (7, .slice s.2.1 (wantL p oper (p.opers.take s.1)).length s.2.2), (12, .pointer (some ⟨t12, 0, none⟩)), (62, .slice a2 p.opers.length c2), (63, .int .i64 p.opers.length), (64, .int .i64 (s.1 : Int))])
    (fun s Γ => Γ = [Rds fun bl => RdSl w0 bl encT 2 (.slice s.2.1 (wantL p oper (p.opers.take s.1)).length s.2.2) (wantL p oper (p.opers.take s.1))] ∧ s.1 ≤ p.opers.length ∧ (p.opers.drop s.1).find? (fun o => decide ((tyO p o).2 ≠ 0)) = badOper p) (fun s => p.opers.length - s.1) (0, none, 0) ⟨rfl, rfl, rfl, rfl, rfl, rfl, rfl, trivial⟩ ⟨rfl, Nat.zero_le _, rfl⟩ ?_
  rintro ⟨j, aw, cw⟩ Γ junk2 ⟨rfl, g3, g4⟩
  dsimp only at g3 g4 ⊢
  by_cases hj : j < p.opers.length
  · obtain ⟨o, ho⟩ : ∃ o, p.opers[j]? = some o := ⟨_, List.getElem?_eq_getElem hj⟩
    obtain ⟨b, off, cc, T, fr, cs, rfl, e2, e3, ⟨vp, vb, rfl, r1, r2⟩, _⟩ := h2.at ho
    obtain ⟨a3, c3, hvp, _⟩ := id r1
    obtain ⟨a4, c4, hvb, _⟩ := r2.len
    subst hvp; subst hvb
    have hom := List.mem_of_getElem? ho
    have hbo := hb o hom
    have hgo := z4 o hom
    have hlp : (parV o).length = o.params.length := List.length_map ..
    have hpl := hgo.2.1
    have hnx := wantL_next (p := p) (oper := oper) z5 ho
    have hcv := convS_spec w0 100000 (by omega) [] _ o.body (by omega) r2
    have hst := fun sh' (q1 : ∀ p ∈ bS, p ∈ sh') (q2 : ∀ p ∈ bW, p ∈ sh') aA cA v => stR_lend w0 sh' p.stores 90000 hSt a an am aA c cn cm cA (parV o) v o.body (by omega) (hRW sh' q1 q2) (by omega) (tyO p o).1 (tyO p o).2 (by rw [hlk]; rfl)
    simp only [hlp] at hst
    rw [badOper_drop ho] at g4
    repeat (first | refine zck ?_ | refine zcl ?_ | refine zcm ?_ | refine zcn ?_)
    first | refine zcp (by kernel_rfl) ?_ | refine zcq PP_mixed (by kernel_rfl) (by kernel_rfl) ?_
    repeat' (refine zap rfl ?_; first | refine zbg rfl rfl (by omega) ?_)
    all_goals refine zch ?_
    all_goals repeat (first | refine zck ?_ | refine zcl ?_ | refine zcm ?_ | refine zcn ?_)
    refine zci rfl ?_
    repeat (first | refine zck ?_ | refine zcl ?_ | refine zcm ?_ | refine zcn ?_)
    first | refine zcp (by kernel_rfl) ?_ | refine zcq PP_mixed (by kernel_rfl) (by kernel_rfl) ?_
    repeat' (refine zap rfl ?_; first | refine zad rfl (fun hF Γ w h1 h2 => e2 hF Γ w (fun p hp => by cases hp) h2) (e3 _ (by omega)) ?_ | refine zar (fun t16 => ?_) | refine zae 1 rfl rfl rfl rfl rfl rfl rfl ?_ | refine zas rfl rfl (by omega) ?_)
    all_goals refine zch ?_
    all_goals repeat (first | refine zck ?_ | refine zcl ?_ | refine zcm ?_ | refine zcn ?_)
    refine run_share [1] rfl ?_
    repeat (first | refine zck ?_ | refine zcl ?_ | refine zcm ?_ | refine zcn ?_)
    first | refine zcp (by kernel_rfl) ?_ | refine zcq PP_mixed (by kernel_rfl) (by kernel_rfl) ?_
    repeat' (refine zap rfl ?_; first | refine zan rfl ?_)
    all_goals refine zch ?_
    all_goals repeat (first | refine zck ?_ | refine zcl ?_ | refine zcm ?_ | refine zcn ?_)
    refine run_nilslice 69 2 ?_
    repeat (first | refine zck ?_ | refine zcl ?_ | refine zcm ?_ | refine zcn ?_)
    first | refine zcp (by kernel_rfl) ?_ | refine zcq PP_mixed (by kernel_rfl) (by kernel_rfl) ?_
    repeat' (refine zap rfl ?_; first | refine zan rfl ?_ | refine zaa 0 rfl rfl rfl ?_ | refine zce rfl ?_ | refine zao rfl ?_)
    all_goals refine zch ?_
    all_goals repeat (first | refine zck ?_ | refine zcl ?_ | refine zcm ?_ | refine zcn ?_)
    refine run_loop (S := Nat × Option Addr × Nat) (fun s => [(1, .string oper), (2, .pointer (some ⟨tp, 0, none⟩)), (7, .slice aw (wantL p oper (p.opers.take j)).length cw), (12, .pointer (some ⟨t12, 0, none⟩)), (16, .pointer (some ⟨t16, 0, none⟩)), (17, .slice s.2.1 s.1 s.2.2), (62, .slice (some ⟨b, off, none⟩) p.opers.length c2), (63, .int .i64 p.opers.length), (64, .int .i64 (j : Int)), (69, .slice a3 o.params.length c3), (70, .int .i64 o.params.length), (71, .int .i64 (s.1 : Int))])
      (fun s Γ => Γ = [Rds fun bl => RdSl w0 bl encT 2 (.slice aw (wantL p oper (p.opers.take j)).length cw) (wantL p oper (p.opers.take j)), SlA 69 2 s.2.1 s.1 s.2.2 (((parV o).take s.1).flatMap encT)] ∧ s.1 ≤ o.params.length) (fun s => o.params.length - s.1) (0, none, 0)
      ⟨rfl, rfl, rfl, rfl, rfl, rfl, rfl, rfl, rfl, rfl, rfl, rfl, trivial⟩ ⟨rfl, Nat.zero_le _⟩ ?_
    rintro ⟨i, a6, c6⟩ Γ junk3 ⟨rfl, g5⟩
    dsimp only at g5 ⊢
    by_cases hi : i < o.params.length
    · obtain ⟨x, hx⟩ : ∃ x, o.params[i]? = some x := ⟨_, List.getElem?_eq_getElem hi⟩
      obtain ⟨b', off', cc', T', fr', rfl, e2', _, e4'⟩ := r1.cells hx
      have hpx : (parV o)[i]? = some (x, 1) := by unfold parV; rw [List.getElem?_map, hx]; rfl
      repeat (first | refine zck ?_ | refine zcl ?_ | refine zcm ?_ | refine zcn ?_)
      first | refine zcp (by kernel_rfl) ?_ | refine zcq PP_mixed (by kernel_rfl) (by kernel_rfl) ?_
      repeat' (refine zap rfl ?_; first | refine zbg rfl rfl (by omega) ?_)
      all_goals refine zch ?_
      all_goals repeat (first | refine zck ?_ | refine zcl ?_ | refine zcm ?_ | refine zcn ?_)
      refine zci rfl ?_
      repeat (first | refine zck ?_ | refine zcl ?_ | refine zcm ?_ | refine zcn ?_)
      first | refine zcp (by kernel_rfl) ?_ | refine zcq PP_mixed (by kernel_rfl) (by kernel_rfl) ?_
      repeat' (refine zap rfl ?_; first | refine zad rfl (fun hF Γ w h1 h2 => e2' hF Γ w (fun p hp => by cases hp) h2) (e4' 0 _ rfl _ (by omega)) ?_ | refine zan rfl ?_ | refine zas rfl rfl (by omega) ?_)
      all_goals refine zch ?_
      all_goals repeat (first | refine zck ?_ | refine zcl ?_ | refine zcm ?_ | refine zcn ?_)
      repeat (first | refine zck ?_ | refine zcl ?_ | refine zcm ?_ | refine zcn ?_)
      first | refine zcp (by kernel_rfl) ?_ | refine zcq PP_mixed (by kernel_rfl) (by kernel_rfl) ?_
      repeat' (refine zap rfl ?_; first | refine reg_buildSlice rfl rfl rfl rfl rfl rfl (fun nb9 => ?_) | refine zan rfl ?_ | refine zan rfl ?_ | refine reg_append 1 2 rfl rfl rfl rfl rfl rfl rfl rfl (by omega) (fun _ _ => rfl) (fun a7 c7 => ?_) | refine zcb rfl ?_)
      all_goals refine zch ?_
      all_goals repeat (first | refine zck ?_ | refine zcl ?_ | refine zcm ?_ | refine zcn ?_)
      refine run_take [0, 0] rfl ?_
      repeat' (first | refine zcp (by kernel_rfl) ?_ | (refine zap rfl ?_; first | refine zan rfl ?_ | refine zau rfl rfl (by omega) ?_) | refine zch ?_)
      refine cut_end ⟨rfl, (i + 1, a7, c7), ⟨rfl, rfl, rfl, rfl, rfl, rfl, rfl, rfl, rfl, rfl, rfl, int_eq (by dsimp only; omega), trivial⟩, ⟨?_, by dsimp only; omega⟩, by dsimp only; omega⟩
      dsimp only
      rw [take_snoc hpx, List.flatMap_append]
      rfl
    have hil : i = o.params.length := by omega
    subst hil
    repeat (first | refine zck ?_ | refine zcl ?_ | refine zcm ?_ | refine zcn ?_)
    first | refine zcp (by kernel_rfl) ?_ | refine zcq PP_mixed (by kernel_rfl) (by kernel_rfl) ?_
    repeat' (refine zap rfl ?_; first | refine zbh rfl rfl (by omega) ?_)
    all_goals refine zch ?_
    all_goals repeat (first | refine zck ?_ | refine zcl ?_ | refine zcm ?_ | refine zcn ?_)
    refine zcj rfl ?_
    refine cut_exit rfl rfl ?_
    refine run_slR encT 1 (l := parV o) rfl (by rw [List.take_of_length_le (by omega)]) (fun _ _ => rfl) hlp rfl ?_
    repeat (first | refine zck ?_ | refine zcl ?_ | refine zcm ?_ | refine zcn ?_)
    first | refine zcp (by kernel_rfl) ?_ | refine zcr [(.quiet, 0), (.quiet, 1), (.quiet, 2), (.quiet, 3), (.read, 4), (.loud, 5), (.loud, 6), (.quiet, 7), (.quiet, 8), (.quiet, 9), (.quiet, 10), (.quiet, 11)] PP_mixed (by kernel_rfl) (by kernel_rfl) ?_ | refine run_drawR PP_mixed (by kernel_rfl) (by kernel_rfl) ?_
    repeat' (refine zap rfl ?_; first | refine zan rfl ?_ | refine zan rfl ?_ | refine zaa 0 rfl rfl rfl ?_ | refine zaa 1 rfl rfl rfl ?_ | (refine zai [] hcv rfl rfl rfl sub_nil ?_; rintro v Γ ⟨ab, cb, rfl, rfl⟩) | (refine zai [2, 0] (hst _ (fun p hp => by simp [hp]) (fun p hp => by simp [hp]) a6 c6 _) rfl rfl rfl (fun _ h => h) ?_; rintro v Γ ⟨ar, cr, rfl, rfl⟩) | refine zce rfl ?_ | refine zao rfl ?_ | refine zan rfl ?_)
    all_goals refine zch ?_
    all_goals repeat (first | refine zck ?_ | refine zcl ?_ | refine zcm ?_ | refine zcn ?_)
    refine run_joinR [0, 1] (χ := fun bl => RdSl w0 bl encT 2 (.slice ar (tyO p o).1.length cr) (tyO p o).1) rfl (fun b1 b2 h1 h2 => ?_) ?_
    · rcases h1 with ⟨k1, k2⟩ | h1
      · rw [k1, k2]; exact h2.mono fun p hp => List.mem_append_right _ hp
      · exact h1.mono fun p hp => List.mem_append_left _ hp
    by_cases hq : (tyO p o).2 = 0
    · rw [if_neg (fun q => q hq)] at g4
      repeat (first | refine zck ?_ | refine zcl ?_ | refine zcm ?_ | refine zcn ?_)
      first | refine zcp (by kernel_rfl) ?_ | refine zcq PP_mixed (by kernel_rfl) (by kernel_rfl) ?_
      repeat' (refine zap rfl ?_; first | refine zan rfl ?_ | refine zbf rfl rfl (by omega) ?_)
      all_goals refine zch ?_
      all_goals repeat (first | refine zck ?_ | refine zcl ?_ | refine zcm ?_ | refine zcn ?_)
      refine zcj rfl ?_
      by_cases hno : o.name = oper
      · rw [if_pos hno] at hnx
        repeat (first | refine zck ?_ | refine zcl ?_ | refine zcm ?_ | refine zcn ?_)
        first | refine zcp (by kernel_rfl) ?_ | refine zcq PP_mixed (by kernel_rfl) (by kernel_rfl) ?_
        repeat' (refine zap rfl ?_; first | refine reg_eqST rfl rfl hno ?_ | refine zan rfl ?_ | refine zaa 0 rfl rfl rfl ?_ | refine zao rfl ?_)
        all_goals refine zch ?_
        all_goals repeat (first | refine zck ?_ | refine zcl ?_ | refine zcm ?_ | refine zcn ?_)
        refine zci rfl ?_
        refine run_take [0] rfl ?_
        repeat' (first | refine zcp (by kernel_rfl) ?_ | refine zcn ?_ | (refine zap rfl ?_; first | refine zan rfl ?_ | refine zan rfl ?_ | refine zau rfl rfl (by omega) ?_) | refine zch ?_)
        exact cut_end ⟨rfl, (j + 1, ar, cr), ⟨rfl, rfl, by dsimp only; rw [hnx]; rfl, rfl, rfl, rfl, int_eq (by dsimp only; omega), trivial⟩, ⟨by dsimp only; rw [hnx], by dsimp only; omega, g4⟩, by dsimp only; omega⟩
      · rw [if_neg hno] at hnx
        repeat (first | refine zck ?_ | refine zcl ?_ | refine zcm ?_ | refine zcn ?_)
        first | refine zcp (by kernel_rfl) ?_ | refine zcq PP_mixed (by kernel_rfl) (by kernel_rfl) ?_
        repeat' (refine zap rfl ?_; first | refine reg_eqSF rfl rfl hno ?_ | refine zan rfl ?_ | refine zaa 0 rfl rfl rfl ?_ | refine zao rfl ?_)
        all_goals refine zch ?_
        all_goals repeat (first | refine zck ?_ | refine zcl ?_ | refine zcm ?_ | refine zcn ?_)
        refine zcj rfl ?_
        refine run_take [2] rfl ?_
        repeat' (first | refine zcp (by kernel_rfl) ?_ | refine zcm ?_ | refine zcn ?_ | (refine zap rfl ?_; first | refine zan rfl ?_ | refine zau rfl rfl (by omega) ?_) | refine zch ?_)
        exact cut_end ⟨rfl, (j + 1, aw, cw), ⟨rfl, rfl, by dsimp only; rw [hnx]; rfl, rfl, rfl, rfl, int_eq (by dsimp only; omega), trivial⟩, ⟨by dsimp only; rw [hnx], by dsimp only; omega, g4⟩, by dsimp only; omega⟩
    · rw [if_pos hq] at g4
      rw [← g4] at hO
      dsimp only at hO
      subst hO
      rw [if_pos (show (o.name, (tyO p o).2).2 ≠ 0 from hq)] at hW
      subst hW
      repeat (first | refine zck ?_ | refine zcl ?_ | refine zcm ?_ | refine zcn ?_)
      first | refine zcp (by kernel_rfl) ?_ | refine zcq PP_mixed (by kernel_rfl) (by kernel_rfl) ?_
      repeat' (refine zap rfl ?_; first | refine zan rfl ?_ | refine zbe rfl rfl (by omega) ?_)
      all_goals refine zch ?_
      all_goals repeat (first | refine zck ?_ | refine zcl ?_ | refine zcm ?_ | refine zcn ?_)
      refine zci rfl ?_
      repeat (first | refine zck ?_ | refine zcl ?_ | refine zcm ?_ | refine zcn ?_)
      first | refine zcp (by kernel_rfl) ?_ | refine zcq PP_mixed (by kernel_rfl) (by kernel_rfl) ?_
      repeat' (refine zap rfl ?_; first | refine zan rfl ?_ | refine zan rfl ?_ | refine zaa 0 rfl rfl rfl ?_ | refine zao rfl ?_)
      all_goals refine zch ?_
      all_goals repeat (first | refine zck ?_ | refine zcl ?_ | refine zcm ?_ | refine zcn ?_)
      refine run_take [] rfl ?_
      refine run_emptyR (fun bl => RdSl w0 bl encT 2 (.slice none 0 0) []) RdSl.nil ?_
      exact qret3 (fun _ _ h => h) rfl ⟨none, 0, rfl, rfl⟩
  have hjl : j = p.opers.length := by omega
  subst hjl
  rw [List.drop_of_length_le (Nat.le_refl _), List.find?_nil] at g4
  rw [← g4] at hO
  dsimp only at hO
  subst hO
  rw [if_neg (fun q => q rfl)] at hW
  subst hW
  rw [List.take_of_length_le (Nat.le_refl _)]
  repeat (first | refine zck ?_ | refine zcl ?_ | refine zcm ?_ | refine zcn ?_)
  first | refine zcp (by kernel_rfl) ?_ | refine zcq PP_mixed (by kernel_rfl) (by kernel_rfl) ?_
  repeat' (refine zap rfl ?_; first | refine zbh rfl rfl (by omega) ?_)
  all_goals refine zch ?_
  all_goals repeat (first | refine zck ?_ | refine zcl ?_ | refine zcm ?_ | refine zcn ?_)
  refine zcj rfl ?_
  refine cut_exit rfl rfl ?_
  repeat' (first | refine zck ?_ | refine zcp (by kernel_rfl) ?_ | (refine zap rfl ?_; first | refine zan rfl ?_ | refine zan rfl ?_) | refine zch ?_)
  exact ret_tmp3 rfl ⟨aw, cw, rfl, rfl⟩
end Go.Proofs.YtijbnjaackhlcaaGreatDoor

namespace Go.Proofs.YtijbnjaackhlcaaGreatDoor
open Go.Vc Sim

end Go.Proofs.YtijbnjaackhlcaaGreatDoor

namespace Go.Proofs.YtijbnjaackhlcaaGreatDoor
open Go.Vc Sim
set_option maxHeartbeats 4000000 in
theorem typesCheckLaw_spec (w0 : World) (hk : KwOk w0) (v : Value) (p : PP') (hp : RdP w0 [] v p) (hz : p.sz) :
    FnE PP w0 [] 6 [v] [] (.bool true) [] := by
  have haw := awake_spec w0 hk
  have hgr := greatP_spec w0 [] v p hp hz
  have hp0 := hp
  obtain ⟨vs, vo, rfl, h1, h2⟩ := hp
  obtain ⟨a1, c1, hvs, hc1, _⟩ := id h1
  obtain ⟨a2, c2, hvo, hc2⟩ := h2.len
  subst hvs; subst hvo
  refine fn_of_run en6 fn6 rfl rfl rfl ?_
  repeat (first | refine zck ?_ | refine zcl ?_ | refine zcm ?_ | refine zcn ?_)
  first | refine zcp (by kernel_rfl) ?_ | refine zcq PP_mixed (by kernel_rfl) (by kernel_rfl) ?_
  repeat' (refine zap rfl ?_; first | refine zaq (cs := [_, _]) rfl (fun tp => ?_) | refine zan rfl ?_)
  all_goals refine zch ?_
  all_goals repeat (first | refine zck ?_ | refine zcl ?_ | refine zcm ?_ | refine zcn ?_)
  refine run_share [0] rfl ?_
  repeat (first | refine zck ?_ | refine zcl ?_ | refine zcm ?_ | refine zcn ?_)
  first | refine zcp (by kernel_rfl) ?_ | refine zcq PP_mixed (by kernel_rfl) (by kernel_rfl) ?_
  repeat' (refine zap rfl ?_; first | refine zaa 0 rfl rfl rfl ?_ | (refine zai [] hgr rfl rfl rfl sub_nil ?_; rintro v Γ ⟨rfl, B, rfl, hB⟩))
  all_goals refine zch ?_
  all_goals repeat (first | refine zck ?_ | refine zcl ?_ | refine zcm ?_ | refine zcn ?_)
  cases B with
  | true =>
    refine zci rfl ?_
    repeat' (first | refine zck ?_ | refine zcp (by kernel_rfl) ?_ | (refine zap rfl ?_; first | refine zan rfl ?_ | refine zah [] haw rfl rfl rfl sub_nil rfl ?_) | refine zch ?_)
    exact ret_tmp1 rfl ⟨rfl, rfl⟩
  | false =>
    have hcost := hB rfl
    obtain ⟨sm1, sm2⟩ := small_of hcost
    have hty := typesCheck_spec w0 hk [] _ p hp0 sm1 (fun x hx => Nat.le_trans (sm2 x hx) (by omega))
    have hlc := lawCheck_spec w0 hk _ p (bs []) hp0 sm1 (fun x hx => Nat.le_trans (sm2 x hx) (by omega))
    refine zcj rfl ?_
    repeat (first | refine zck ?_ | refine zcl ?_ | refine zcm ?_ | refine zcn ?_)
    first | refine zcp (by kernel_rfl) ?_ | refine zcq PP_mixed (by kernel_rfl) (by kernel_rfl) ?_
    repeat' (refine zap rfl ?_; first | refine zan rfl ?_ | refine zan rfl ?_ | refine zaa 0 rfl rfl rfl ?_ | refine zah [] hty rfl rfl rfl sub_nil rfl ?_ | refine zan rfl ?_)
    all_goals refine zch ?_
    all_goals repeat (first | refine zck ?_ | refine zcl ?_ | refine zcm ?_ | refine zcn ?_)
    repeat (first | refine zck ?_ | refine zcl ?_ | refine zcm ?_ | refine zcn ?_)
    first | refine zcp (by kernel_rfl) ?_ | refine zcq PP_mixed (by kernel_rfl) (by kernel_rfl) ?_
    repeat' (refine zap rfl ?_; first | refine zan rfl ?_ | refine zan rfl ?_ | refine zaa 0 rfl rfl rfl ?_ | (refine zai [] hlc rfl rfl rfl sub_nil ?_; rintro v Γ ⟨ac, cc, rfl, rfl⟩) | refine zan rfl ?_)
    all_goals refine zch ?_
    all_goals repeat (first | refine zck ?_ | refine zcl ?_ | refine zcm ?_ | refine zcn ?_)
    refine run_take [] rfl ?_
    repeat' (first | refine zcp (by kernel_rfl) ?_ | (refine zap rfl ?_; first | refine reg_eqST rfl rfl rfl ?_ | refine zaj rfl ?_ | refine zan rfl ?_ | refine zan rfl ?_ | refine zah [] haw rfl rfl rfl sub_nil rfl ?_ | refine zbc rfl rfl (by omega) ?_ | refine zbu rfl ?_) | refine zch ?_)
    exact ret_tmp1 rfl ⟨rfl, rfl⟩
end Go.Proofs.YtijbnjaackhlcaaGreatDoor

namespace Go.Proofs.YtijbnjaackhlcaaGreatDoor
open Go.Vc Sim Go.ChangeShapes Go.WideShapes Go.RowKit
set_option maxRecDepth 100000
theorem in_prog {H : Type} {enc : TypeId × Value → H} {w : World} {base : Nat} {spare : Nat → Bool} {held : Bool} {r : Reach} {b0 : Nat} {v : Value} {d : DataW H} {ps : List MemPlace}
    (hval : Value.okWide Tryz.prog w r b0 25 v) (h : DataW.Trod enc Tryz.prog w base spare held 25 v d ps) (hw : ∀ q ∈ d.weights Tryz.prog 25, q ≤ reachBytes) :
    ∃ p : PP', RdP w [] v p ∧ p.sz := by
  obtain ⟨fuel, hf⟩ := h
  simp only [Value.okWide, Tryz.underlying25] at hval
  obtain ⟨cs, rfl, _⟩ := hval
  have hf : DataW.trod enc Tryz.prog w base spare held fuel 25 cs.toList = some (d, ps) := hf
  obtain ⟨a, b, p, e, h1, h2⟩ := in_pp fuel _ _ hf hw
  have e2 : cs = #[a, b] := by rw [← Array.toList_inj, e]
  rw [e2]
  exact ⟨p, h1, h2⟩
end Go.Proofs.YtijbnjaackhlcaaGreatDoor

namespace Sim
theorem lookV_mem {v : ByteArray × Int} : ∀ {l : TV}, (l.map (·.1)).Nodup → v ∈ l → lookV l v.1 = some v.2
  | [], _, h => by cases h
  | u :: l, hn, h => by
    rw [List.map_cons, List.nodup_cons] at hn
    rw [lookV]
    rcases List.mem_cons.1 h with rfl | h
    · rw [if_pos rfl]
    · rw [if_neg (fun e => hn.1 (by rw [e]; exact List.mem_map_of_mem h)), lookV_mem hn.2 h]
end Sim
namespace Go.Vc
section
variable {P : Program} {w0 : World} {n : Nat} {sh : Shared} {Q : Exit → Env → List Deferred → List Asn → Prop} {k : List Item} {ρ : Env} {df : List Deferred} {Γ : List Asn}
variable {ops : Array Oper} {l : List (Fl × Nat × Oper)} {b : Fl} {i d : Nat} {ty : TypeId} {pos : String} {aft : Array Edge} {x : Operand} {t kt et : TypeId}
theorem reg_len_nilmap [hT : TUnd P t (.map kt et)] (hx : ev ρ x = .map none)
    (h : Reg P w0 n sh Q ops l k (ρ.set d (.int .i64 0)) df Γ) : Reg P w0 n sh Q ops ((b, i, ⟨some d, .call ⟨.builtin .len, #[x], #[t]⟩, ty, pos, aft, none⟩) :: l) k ρ df Γ :=
  reg_quiet rfl (fun hF hsh w Γ' hst => ⟨w, by
    simp [execOp, resolve, invoke, builtin, Builtin.len_, hx, run_underlying hT.und, goInt], hst⟩) h
theorem reg_len_mapRn {r m : Nat} {ml : SM} [hT : TUnd P t (.map kt et)] (hR : RdM w0 sh r ml) (hm : ml.length = m) (hx : ev ρ x = .map (some r))
    (h : Reg P w0 n sh Q ops l k (ρ.set d (.int .i64 m)) df Γ) : Reg P w0 n sh Q ops ((b, i, ⟨some d, .call ⟨.builtin .len, #[x], #[t]⟩, ty, pos, aft, none⟩) :: l) k ρ df Γ := by
  subst hm
  exact reg_len_mapR hR hx h
end
end Go.Vc
namespace Go.Proofs.YtijbnjaackhlcaaGreatDoor
open Go.Vc Sim
set_option maxHeartbeats 8000000 in
theorem typesVarsLaw_spec (w0 : World) (hk : KwOk w0) (v : Value) (p : PP') (oper : ByteArray) (hp : RdP w0 [] v p) (hz : p.sz) :
    FnE PP w0 [] 7 [v, .string oper] [] (.bool true) [] := by
  have haw := awake_spec w0 hk
  have hgr := greatP_spec w0 [] v p hp hz
  have hp0 := hp
  obtain ⟨vs, vo, rfl, h1, h2⟩ := hp
  obtain ⟨a1, c1, hvs, hc1, _⟩ := id h1
  obtain ⟨a2, c2, hvo, hc2⟩ := h2.len
  subst hvs; subst hvo
  refine fn_of_run en7 fn7 rfl rfl rfl ?_
  repeat (first | refine zck ?_ | refine zcl ?_ | refine zcm ?_ | refine zcn ?_)
  first | refine zcp (by kernel_rfl) ?_ | refine zcq PP_mixed (by kernel_rfl) (by kernel_rfl) ?_
  repeat' (refine zap rfl ?_; first | refine zaq (cs := [_, _]) rfl (fun tp => ?_) | refine zan rfl ?_)
  all_goals refine zch ?_
  all_goals repeat (first | refine zck ?_ | refine zcl ?_ | refine zcm ?_ | refine zcn ?_)
  refine run_share [0] rfl ?_
  by_cases hn : 300 < oper.size
  · repeat (first | refine zck ?_ | refine zcl ?_ | refine zcm ?_ | refine zcn ?_)
    first | refine zcp (by kernel_rfl) ?_ | refine zcq PP_mixed (by kernel_rfl) (by kernel_rfl) ?_
    repeat' (refine zap rfl ?_; first | refine zaa 0 rfl rfl rfl ?_ | refine zaj rfl ?_ | refine zak rfl ?_ | refine zan rfl ?_ | (refine zai [] hgr rfl rfl rfl sub_nil ?_; rintro v Γ ⟨rfl, B, rfl, hB⟩; cases B) | refine reg_lenS rfl ?_ | refine zbk rfl rfl (by omega) ?_ | refine zbu rfl ?_ | refine zbv rfl ?_)
    all_goals refine zch ?_
    all_goals repeat (first | refine zck ?_ | refine zcl ?_ | refine zcm ?_ | refine zcn ?_)
    all_goals
      repeat' (first | refine zck ?_ | refine zcp (by kernel_rfl) ?_ | (refine zap rfl ?_; first | refine zan rfl ?_ | refine zah [] haw rfl rfl rfl sub_nil rfl ?_) | refine zch ?_ | refine zci rfl ?_)
      exact ret_tmp1 rfl ⟨rfl, rfl⟩
  · repeat (first | refine zck ?_ | refine zcl ?_ | refine zcm ?_ | refine zcn ?_)
    first | refine zcp (by kernel_rfl) ?_ | refine zcq PP_mixed (by kernel_rfl) (by kernel_rfl) ?_
    repeat' (refine zap rfl ?_; first | refine zaa 0 rfl rfl rfl ?_ | refine zaj rfl ?_ | refine zak rfl ?_ | refine zan rfl ?_ | (refine zai [] hgr rfl rfl rfl sub_nil ?_; rintro v Γ ⟨rfl, B, rfl, hB⟩; cases B) | refine reg_lenS rfl ?_ | refine zbl rfl rfl (by omega) ?_ | refine zbu rfl ?_ | refine zbv rfl ?_)
    all_goals refine zch ?_
    all_goals repeat (first | refine zck ?_ | refine zcl ?_ | refine zcm ?_ | refine zcn ?_)
    · refine zcj rfl ?_
      have hcost := hB rfl
      obtain ⟨sm1, sm2⟩ := small_of hcost
      have hva := typesVars_spec w0 hk [] _ p oper hp0 sm1 (fun x hx => Nat.le_trans (sm2 x hx) (by omega))
      have hlc := lawCheck_spec w0 hk _ p oper hp0 sm1 (fun x hx => Nat.le_trans (sm2 x hx) (by omega))
      have hfd := find_spec w0 [] _ p oper hp0 sm1.2.1
      by_cases hC : (tyP p).2 = 0
      rotate_left
      · have hV : tyV p oper = ([], (tyP p).2) := by unfold tyV; rw [if_pos hC]
        have hWt : wantP p oper = [] := by unfold wantP; rw [if_pos hC]
        rw [hV] at hva
        rw [hWt] at hlc
        have hva' := hva.mono (fun v Γ h => h.2 hC)
        repeat (first | refine zck ?_ | refine zcl ?_ | refine zcm ?_ | refine zcn ?_)
        first | refine zcp (by kernel_rfl) ?_ | refine zcq PP_mixed (by kernel_rfl) (by kernel_rfl) ?_
        repeat' (refine zap rfl ?_; first | refine zan rfl ?_ | refine zan rfl ?_ | refine zaa 0 rfl rfl rfl ?_ | (refine zai [] hva' rfl rfl rfl sub_nil ?_; rintro v Γ ⟨rfl, rfl⟩) | refine zan rfl ?_)
        all_goals refine zch ?_
        all_goals repeat (first | refine zck ?_ | refine zcl ?_ | refine zcm ?_ | refine zcn ?_)
        repeat (first | refine zck ?_ | refine zcl ?_ | refine zcm ?_ | refine zcn ?_)
        first | refine zcp (by kernel_rfl) ?_ | refine zcq PP_mixed (by kernel_rfl) (by kernel_rfl) ?_
        repeat' (refine zap rfl ?_; first | refine zan rfl ?_ | refine zan rfl ?_ | refine zaa 0 rfl rfl rfl ?_ | (refine zai [] hlc rfl rfl rfl sub_nil ?_; rintro v Γ ⟨ac, cc, rfl, rfl⟩) | refine zan rfl ?_)
        all_goals refine zch ?_
        all_goals repeat (first | refine zck ?_ | refine zcl ?_ | refine zcm ?_ | refine zcn ?_)
        refine run_take [] rfl ?_
        cases hF : findP p oper with
        | none =>
          rw [hF] at hfd
          dsimp only at hfd
          repeat (first | refine zck ?_ | refine zcl ?_ | refine zcm ?_ | refine zcn ?_)
          first | refine zcp (by kernel_rfl) ?_ | refine zcq PP_mixed (by kernel_rfl) (by kernel_rfl) ?_
          repeat' (refine zap rfl ?_; first | refine zar (fun t10 => ?_) | refine zan rfl ?_ | refine zan rfl ?_ | refine zaa 0 rfl rfl rfl ?_ | (refine zai [] hfd rfl rfl rfl sub_nil ?_; rintro v Γ ⟨rfl, rfl⟩) | refine zan rfl ?_ | refine zae 0 rfl rfl rfl rfl rfl rfl rfl ?_)
          all_goals refine zch ?_
          all_goals repeat (first | refine zck ?_ | refine zcl ?_ | refine zcm ?_ | refine zcn ?_)
          repeat (first | refine zck ?_ | refine zcl ?_ | refine zcm ?_ | refine zcn ?_)
          first | refine zcp (by kernel_rfl) ?_ | refine zcq PP_mixed (by kernel_rfl) (by kernel_rfl) ?_
          repeat' (refine zap rfl ?_; first | refine zak rfl ?_ | refine zan rfl ?_ | refine zbd rfl rfl (by omega) ?_ | refine zbv rfl ?_)
          all_goals refine zch ?_
          all_goals repeat (first | refine zck ?_ | refine zcl ?_ | refine zcm ?_ | refine zcn ?_)
          refine zcj rfl ?_
          repeat (first | refine zck ?_ | refine zcl ?_ | refine zcm ?_ | refine zcn ?_)
          first | refine zcp (by kernel_rfl) ?_ | refine zcq PP_mixed (by kernel_rfl) (by kernel_rfl) ?_
          repeat' (refine zap rfl ?_; first | refine zaj rfl ?_ | refine zan rfl ?_ | refine reg_len_nilmap rfl ?_ | refine zce rfl ?_ | refine zbf rfl rfl (by omega) ?_ | refine zbp rfl rfl ?_ | refine zbv rfl ?_)
          all_goals refine zch ?_
          all_goals repeat (first | refine zck ?_ | refine zcl ?_ | refine zcm ?_ | refine zcn ?_)
          refine zcj rfl ?_
          repeat (first | refine zck ?_ | refine zcl ?_ | refine zcm ?_ | refine zcn ?_)
          first | refine zcp (by kernel_rfl) ?_ | refine zcq PP_mixed (by kernel_rfl) (by kernel_rfl) ?_
          repeat' (refine zap rfl ?_; first | refine zan rfl ?_ | refine zce rfl ?_)
          all_goals refine zch ?_
          all_goals repeat (first | refine zck ?_ | refine zcl ?_ | refine zcm ?_ | refine zcn ?_)
          refine run_loop (S := Unit) (fun _ => [(58, .int .i64 0), (59, .int .i64 0)]) (fun _ Γ => True) (fun _ => 0) () ⟨rfl, rfl, trivial⟩ trivial ?_
          rintro _ Γ junk _
          repeat (first | refine zck ?_ | refine zcl ?_ | refine zcm ?_ | refine zcn ?_)
          first | refine zcp (by kernel_rfl) ?_ | refine zcq PP_mixed (by kernel_rfl) (by kernel_rfl) ?_
          repeat' (refine zap rfl ?_; first | refine zbh rfl rfl (by omega) ?_)
          all_goals refine zch ?_
          all_goals repeat (first | refine zck ?_ | refine zcl ?_ | refine zcm ?_ | refine zcn ?_)
          refine zcj rfl ?_
          refine cut_exit rfl rfl ?_
          repeat' (first | refine zck ?_ | refine zcp (by kernel_rfl) ?_ | (refine zap rfl ?_; first | refine zan rfl ?_ | refine zah [] haw rfl rfl rfl sub_nil rfl ?_) | refine zch ?_)
          refine run_take [] rfl ?_
          exact ret_tmp1 rfl ⟨rfl, rfl⟩
        | some o =>
          rw [hF] at hfd
          dsimp only at hfd
          repeat (first | refine zck ?_ | refine zcl ?_ | refine zcm ?_ | refine zcn ?_)
          first | refine zcp (by kernel_rfl) ?_ | refine zcq PP_mixed (by kernel_rfl) (by kernel_rfl) ?_
          repeat' (refine zap rfl ?_; first | refine zar (fun t10 => ?_) | refine zan rfl ?_ | refine zan rfl ?_ | refine zaa 0 rfl rfl rfl ?_ | (refine zai [] hfd rfl rfl rfl sub_nil ?_; rintro v Γ ⟨rfl, v, rfl, cs, rfl, vp, vb, rfl, r1, r2⟩; obtain ⟨a3, c3, hvp, _⟩ := id r1; obtain ⟨a4, c4, hvb, _⟩ := r2.len; subst hvp; subst hvb) | refine zan rfl ?_ | refine zae 0 rfl rfl rfl rfl rfl rfl rfl ?_)
          all_goals refine zch ?_
          all_goals repeat (first | refine zck ?_ | refine zcl ?_ | refine zcm ?_ | refine zcn ?_)
          repeat (first | refine zck ?_ | refine zcl ?_ | refine zcm ?_ | refine zcn ?_)
          first | refine zcp (by kernel_rfl) ?_ | refine zcq PP_mixed (by kernel_rfl) (by kernel_rfl) ?_
          repeat' (refine zap rfl ?_; first | refine zak rfl ?_ | refine zan rfl ?_ | refine zbd rfl rfl (by omega) ?_ | refine zbv rfl ?_)
          all_goals refine zch ?_
          all_goals repeat (first | refine zck ?_ | refine zcl ?_ | refine zcm ?_ | refine zcn ?_)
          refine zcj rfl ?_
          repeat (first | refine zck ?_ | refine zcl ?_ | refine zcm ?_ | refine zcn ?_)
          first | refine zcp (by kernel_rfl) ?_ | refine zcq PP_mixed (by kernel_rfl) (by kernel_rfl) ?_
          repeat' (refine zap rfl ?_; first | refine zaj rfl ?_ | refine zan rfl ?_ | refine reg_len_nilmap rfl ?_ | refine zce rfl ?_ | refine zbf rfl rfl (by omega) ?_ | refine zbp rfl rfl ?_ | refine zbv rfl ?_)
          all_goals refine zch ?_
          all_goals repeat (first | refine zck ?_ | refine zcl ?_ | refine zcm ?_ | refine zcn ?_)
          refine zcj rfl ?_
          repeat (first | refine zck ?_ | refine zcl ?_ | refine zcm ?_ | refine zcn ?_)
          first | refine zcp (by kernel_rfl) ?_ | refine zcq PP_mixed (by kernel_rfl) (by kernel_rfl) ?_
          repeat' (refine zap rfl ?_; first | refine zan rfl ?_ | refine zce rfl ?_)
          all_goals refine zch ?_
          all_goals repeat (first | refine zck ?_ | refine zcl ?_ | refine zcm ?_ | refine zcn ?_)
          refine run_loop (S := Unit) (fun _ => [(58, .int .i64 0), (59, .int .i64 0)]) (fun _ Γ => True) (fun _ => 0) () ⟨rfl, rfl, trivial⟩ trivial ?_
          rintro _ Γ junk _
          repeat (first | refine zck ?_ | refine zcl ?_ | refine zcm ?_ | refine zcn ?_)
          first | refine zcp (by kernel_rfl) ?_ | refine zcq PP_mixed (by kernel_rfl) (by kernel_rfl) ?_
          repeat' (refine zap rfl ?_; first | refine zbh rfl rfl (by omega) ?_)
          all_goals refine zch ?_
          all_goals repeat (first | refine zck ?_ | refine zcl ?_ | refine zcm ?_ | refine zcn ?_)
          refine zcj rfl ?_
          refine cut_exit rfl rfl ?_
          repeat' (first | refine zck ?_ | refine zcp (by kernel_rfl) ?_ | (refine zap rfl ?_; first | refine zan rfl ?_ | refine zah [] haw rfl rfl rfl sub_nil rfl ?_) | refine zch ?_)
          refine run_take [] rfl ?_
          exact ret_tmp1 rfl ⟨rfl, rfl⟩
      cases hF : findP p oper with
      | none =>
        rw [hF] at hfd
        dsimp only at hfd
        have hV : tyV p oper = ([], 10) := by unfold tyV; rw [if_neg (fun q => q hC), hF]
        rw [hV] at hva
        have hva' := hva.mono (fun v Γ h => h.2 (by decide))
        repeat (first | refine zck ?_ | refine zcl ?_ | refine zcm ?_ | refine zcn ?_)
        first | refine zcp (by kernel_rfl) ?_ | refine zcq PP_mixed (by kernel_rfl) (by kernel_rfl) ?_
        repeat' (refine zap rfl ?_; first | refine zan rfl ?_ | refine zan rfl ?_ | refine zaa 0 rfl rfl rfl ?_ | (refine zai [] hva' rfl rfl rfl sub_nil ?_; rintro v Γ ⟨rfl, rfl⟩) | refine zan rfl ?_)
        all_goals refine zch ?_
        all_goals repeat (first | refine zck ?_ | refine zcl ?_ | refine zcm ?_ | refine zcn ?_)
        repeat (first | refine zck ?_ | refine zcl ?_ | refine zcm ?_ | refine zcn ?_)
        first | refine zcp (by kernel_rfl) ?_ | refine zcq PP_mixed (by kernel_rfl) (by kernel_rfl) ?_
        repeat' (refine zap rfl ?_; first | refine zan rfl ?_ | refine zan rfl ?_ | refine zaa 0 rfl rfl rfl ?_ | (refine zai [] hlc rfl rfl rfl sub_nil ?_; rintro v Γ ⟨ac, cc, rfl, rfl⟩) | refine zan rfl ?_)
        all_goals refine zch ?_
        all_goals repeat (first | refine zck ?_ | refine zcl ?_ | refine zcm ?_ | refine zcn ?_)
        refine run_take [] rfl ?_
        repeat (first | refine zck ?_ | refine zcl ?_ | refine zcm ?_ | refine zcn ?_)
        first | refine zcp (by kernel_rfl) ?_ | refine zcq PP_mixed (by kernel_rfl) (by kernel_rfl) ?_
        repeat' (refine zap rfl ?_; first | refine zar (fun t10 => ?_) | refine zan rfl ?_ | refine zan rfl ?_ | refine zaa 0 rfl rfl rfl ?_ | (refine zai [] hfd rfl rfl rfl sub_nil ?_; rintro v Γ ⟨rfl, rfl⟩) | refine zan rfl ?_ | refine zae 0 rfl rfl rfl rfl rfl rfl rfl ?_)
        all_goals refine zch ?_
        all_goals repeat (first | refine zck ?_ | refine zcl ?_ | refine zcm ?_ | refine zcn ?_)
        repeat (first | refine zck ?_ | refine zcl ?_ | refine zcm ?_ | refine zcn ?_)
        first | refine zcp (by kernel_rfl) ?_ | refine zcq PP_mixed (by kernel_rfl) (by kernel_rfl) ?_
        repeat' (refine zap rfl ?_; first | refine zaj rfl ?_ | refine zan rfl ?_ | refine zbc rfl rfl (by omega) ?_ | refine zbx rfl ?_ | refine zbu rfl ?_)
        all_goals refine zch ?_
        all_goals repeat (first | refine zck ?_ | refine zcl ?_ | refine zcm ?_ | refine zcn ?_)
        refine zci rfl ?_
        repeat (first | refine zck ?_ | refine zcl ?_ | refine zcm ?_ | refine zcn ?_)
        first | refine zcp (by kernel_rfl) ?_ | refine zcq PP_mixed (by kernel_rfl) (by kernel_rfl) ?_
        repeat' (refine zap rfl ?_; first | refine zan rfl ?_)
        all_goals refine zch ?_
        all_goals repeat (first | refine zck ?_ | refine zcl ?_ | refine zcm ?_ | refine zcn ?_)
        repeat (first | refine zck ?_ | refine zcl ?_ | refine zcm ?_ | refine zcn ?_)
        first | refine zcp (by kernel_rfl) ?_ | refine zcq PP_mixed (by kernel_rfl) (by kernel_rfl) ?_
        repeat' (refine zap rfl ?_; first | refine zaj rfl ?_ | refine zan rfl ?_ | refine reg_len_nilmap rfl ?_ | refine zce rfl ?_ | refine zbf rfl rfl (by omega) ?_ | refine zbv rfl ?_)
        all_goals refine zch ?_
        all_goals repeat (first | refine zck ?_ | refine zcl ?_ | refine zcm ?_ | refine zcn ?_)
        refine zcj rfl ?_
        repeat (first | refine zck ?_ | refine zcl ?_ | refine zcm ?_ | refine zcn ?_)
        first | refine zcp (by kernel_rfl) ?_ | refine zcq PP_mixed (by kernel_rfl) (by kernel_rfl) ?_
        repeat' (refine zap rfl ?_; first | refine zan rfl ?_ | refine zce rfl ?_)
        all_goals refine zch ?_
        all_goals repeat (first | refine zck ?_ | refine zcl ?_ | refine zcm ?_ | refine zcn ?_)
        refine run_loop (S := Unit) (fun _ => [(58, .int .i64 0), (59, .int .i64 0)]) (fun _ Γ => True) (fun _ => 0) () ⟨rfl, rfl, trivial⟩ trivial ?_
        rintro _ Γ junk _
        repeat (first | refine zck ?_ | refine zcl ?_ | refine zcm ?_ | refine zcn ?_)
        first | refine zcp (by kernel_rfl) ?_ | refine zcq PP_mixed (by kernel_rfl) (by kernel_rfl) ?_
        repeat' (refine zap rfl ?_; first | refine zbh rfl rfl (by omega) ?_)
        all_goals refine zch ?_
        all_goals repeat (first | refine zck ?_ | refine zcl ?_ | refine zcm ?_ | refine zcn ?_)
        refine zcj rfl ?_
        refine cut_exit rfl rfl ?_
        repeat' (first | refine zck ?_ | refine zcp (by kernel_rfl) ?_ | (refine zap rfl ?_; first | refine zan rfl ?_ | refine zah [] haw rfl rfl rfl sub_nil rfl ?_) | refine zch ?_)
        refine run_take [] rfl ?_
        exact ret_tmp1 rfl ⟨rfl, rfl⟩
      | some o =>
        rw [hF] at hfd
        dsimp only at hfd
        have hW := wellP_iff.1 hC
        have hom : o ∈ p.opers := List.mem_of_find?_eq_some hF
        have hz0 := hW.opers o hom
        have hgo := (checkP_iff.1 hW.check).2.2.2.1 o hom
        have hV : tyV p oper = tyO p o := by unfold tyV; rw [if_neg (fun q => q hC), hF]
        have hWt : wantP p oper = (tyO p o).1 := by unfold wantP wantL; rw [if_neg (fun q => q hC), show p.opers.find? (fun o => decide (o.name = oper)) = some o from hF]
        have hnd : ((tyO p o).1.map (·.1)).Nodup := by
          obtain ⟨m, i1, i2⟩ := tySs_st (K := lookK p.stores) o.body (parV_st hgo)
          unfold tyO
          rw [i1]; exact i2.ndA
        have hbd : (tyO p o).1.length ≤ 10000 := by
          have q1 : (tyO p o).1.length ≤ (parV o).length + PS.sizeL o.body := tySs_len _ _ _ _
          have q2 : (parV o).length = o.params.length := List.length_map ..
          have q3 := hgo.2.1
          have q4 := sm2 o hom
          omega
        rw [hV] at hva
        rw [hWt, hC] at hlc
        have hva' := hva.mono (fun v Γ h => h.1 hz0)
        generalize (tyO p o).1 = all at *
        repeat (first | refine zck ?_ | refine zcl ?_ | refine zcm ?_ | refine zcn ?_)
        first | refine zcp (by kernel_rfl) ?_ | refine zcq PP_mixed (by kernel_rfl) (by kernel_rfl) ?_
        repeat' (refine zap rfl ?_; first | refine zan rfl ?_ | refine zan rfl ?_ | refine zaa 0 rfl rfl rfl ?_ | (refine zai [] hva' rfl rfl rfl sub_nil ?_; rintro v Γ ⟨ma, rfl, rfl⟩) | refine zan rfl ?_)
        all_goals refine zch ?_
        all_goals repeat (first | refine zck ?_ | refine zcl ?_ | refine zcm ?_ | refine zcn ?_)
        repeat (first | refine zck ?_ | refine zcl ?_ | refine zcm ?_ | refine zcn ?_)
        first | refine zcp (by kernel_rfl) ?_ | refine zcq PP_mixed (by kernel_rfl) (by kernel_rfl) ?_
        repeat' (refine zap rfl ?_; first | refine zan rfl ?_ | refine zan rfl ?_ | refine zaa 0 rfl rfl rfl ?_ | (refine zai [] hlc rfl rfl rfl sub_nil ?_; rintro v Γ ⟨ac, cc, rfl, rfl⟩) | refine zan rfl ?_)
        all_goals refine zch ?_
        all_goals repeat (first | refine zck ?_ | refine zcl ?_ | refine zcm ?_ | refine zcn ?_)
        refine run_shareB [0] rfl (fun bl hbl => ?_)
        refine run_shareMB [0] rfl (fun sh' hsub hR => ?_)
        have hlen : (tvS all).length = all.length := List.length_map ..
        have hbl' := hbl.mono fun p hp => hsub p (List.mem_append_right _ hp)
        repeat (first | refine zck ?_ | refine zcl ?_ | refine zcm ?_ | refine zcn ?_)
        first | refine zcp (by kernel_rfl) ?_ | refine zcq PP_mixed (by kernel_rfl) (by kernel_rfl) ?_
        repeat' (refine zap rfl ?_; first | refine zad rfl (fun hF Γ w h1 h2 => (h2.frame (h1 _ (hsub _ (.head _)))).2) rfl ?_ | refine zar (fun t10 => ?_) | refine zan rfl ?_ | refine zan rfl ?_ | (refine zai [] hfd rfl rfl rfl sub_nil ?_; rintro v Γ ⟨rfl, v, rfl, cs, rfl, vp, vb, rfl, r1, r2⟩; obtain ⟨a3, c3, hvp, _⟩ := id r1; obtain ⟨a4, c4, hvb, _⟩ := r2.len; subst hvp; subst hvb) | refine zan rfl ?_ | refine zae 0 rfl rfl rfl rfl rfl rfl rfl ?_)
        all_goals refine zch ?_
        all_goals repeat (first | refine zck ?_ | refine zcl ?_ | refine zcm ?_ | refine zcn ?_)
        refine run_take [] rfl ?_
        repeat (first | refine zck ?_ | refine zcl ?_ | refine zcm ?_ | refine zcn ?_)
        first | refine zcp (by kernel_rfl) ?_ | refine zcq PP_mixed (by kernel_rfl) (by kernel_rfl) ?_
        repeat' (refine zap rfl ?_; first | refine zaj rfl ?_ | refine zan rfl ?_ | refine zbc rfl rfl (by omega) ?_ | refine zbx rfl ?_ | refine zbu rfl ?_)
        all_goals refine zch ?_
        all_goals repeat (first | refine zck ?_ | refine zcl ?_ | refine zcm ?_ | refine zcn ?_)
        refine zcj rfl ?_
        repeat (first | refine zck ?_ | refine zcl ?_ | refine zcm ?_ | refine zcn ?_)
        first | refine zcp (by kernel_rfl) ?_ | refine zcq PP_mixed (by kernel_rfl) (by kernel_rfl) ?_
        repeat' (refine zap rfl ?_; first | refine zaj rfl ?_ | refine zan rfl ?_ | refine reg_len_mapRn hR hlen rfl ?_ | refine zce rfl ?_ | refine zbf rfl rfl (by omega) ?_ | refine zbv rfl ?_)
        all_goals refine zch ?_
        all_goals repeat (first | refine zck ?_ | refine zcl ?_ | refine zcm ?_ | refine zcn ?_)
        refine zcj rfl ?_
        repeat (first | refine zck ?_ | refine zcl ?_ | refine zcm ?_ | refine zcn ?_)
        first | refine zcp (by kernel_rfl) ?_ | refine zcq PP_mixed (by kernel_rfl) (by kernel_rfl) ?_
        repeat' (refine zap rfl ?_; first | refine zan rfl ?_ | refine zce rfl ?_)
        all_goals refine zch ?_
        all_goals repeat (first | refine zck ?_ | refine zcl ?_ | refine zcm ?_ | refine zcn ?_)
        refine run_loop (S := Nat) (fun j => [(5, .map (some ma)), (57, .slice ac all.length cc), (58, .int .i64 all.length), (59, .int .i64 (j : Int))]) (fun j Γ => Γ = [] ∧ j ≤ all.length) (fun j => all.length - j) 0 ⟨rfl, rfl, rfl, rfl, trivial⟩ ⟨rfl, Nat.zero_le _⟩ ?_
        rintro j Γ junk ⟨rfl, g1⟩
        by_cases hj : j < all.length
        · obtain ⟨x, hx⟩ : ∃ x, all[j]? = some x := ⟨_, List.getElem?_eq_getElem hj⟩
          obtain ⟨b, off, cc', T, fr, rfl, e2, e3, _⟩ := hbl'.cells hx
          have hlk : (lookS (tvS all) x.1).getD (.int .i64 0) = .int .i64 x.2 := by rw [lookV_get, lookV_mem hnd (List.mem_of_getElem? hx)]; rfl
          repeat (first | refine zck ?_ | refine zcl ?_ | refine zcm ?_ | refine zcn ?_)
          first | refine zcp (by kernel_rfl) ?_ | refine zcq PP_mixed (by kernel_rfl) (by kernel_rfl) ?_
          repeat' (refine zap rfl ?_; first | refine zbg rfl rfl (by omega) ?_)
          all_goals refine zch ?_
          all_goals repeat (first | refine zck ?_ | refine zcl ?_ | refine zcm ?_ | refine zcn ?_)
          refine zci rfl ?_
          repeat (first | refine zck ?_ | refine zcl ?_ | refine zcm ?_ | refine zcn ?_)
          first | refine zcp (by kernel_rfl) ?_ | refine zcq PP_mixed (by kernel_rfl) (by kernel_rfl) ?_
          repeat' (refine zap rfl ?_; first | refine zad rfl e2 (e3 _ (by omega)) ?_ | refine zar (fun t13 => ?_) | refine zae 0 rfl rfl rfl rfl rfl rfl rfl ?_ | refine zas rfl rfl (by omega) ?_)
          all_goals refine zch ?_
          all_goals repeat (first | refine zck ?_ | refine zcl ?_ | refine zcm ?_ | refine zcn ?_)
          refine run_share [0] rfl ?_
          repeat (first | refine zck ?_ | refine zcl ?_ | refine zcm ?_ | refine zcn ?_)
          first | refine zcp (by kernel_rfl) ?_ | refine zcq PP_mixed (by kernel_rfl) (by kernel_rfl) ?_
          repeat' (refine zap rfl ?_; first | refine reg_lookupR (v := .int .i64 x.2) (hR.mono fun p hp => .tail _ hp) rfl rfl hlk ?_ | refine zan rfl ?_ | refine zaa 0 rfl rfl rfl ?_ | refine zao rfl ?_ | refine zbf rfl rfl (by omega) ?_)
          all_goals refine zch ?_
          all_goals repeat (first | refine zck ?_ | refine zcl ?_ | refine zcm ?_ | refine zcn ?_)
          refine zcj rfl ?_
          repeat' (first | refine zcp (by kernel_rfl) ?_ | refine zcm ?_ | refine zcn ?_ | (refine zap rfl ?_; first | refine zan rfl ?_ | refine zau rfl rfl (by omega) ?_) | refine zch ?_)
          exact cut_end ⟨rfl, j + 1, ⟨rfl, rfl, rfl, int_eq (by omega), trivial⟩, ⟨rfl, by omega⟩, by omega⟩
        · repeat (first | refine zck ?_ | refine zcl ?_ | refine zcm ?_ | refine zcn ?_)
          first | refine zcp (by kernel_rfl) ?_ | refine zcq PP_mixed (by kernel_rfl) (by kernel_rfl) ?_
          repeat' (refine zap rfl ?_; first | refine zbh rfl rfl (by omega) ?_)
          all_goals refine zch ?_
          all_goals repeat (first | refine zck ?_ | refine zcl ?_ | refine zcm ?_ | refine zcn ?_)
          refine zcj rfl ?_
          refine cut_exit rfl rfl ?_
          repeat' (first | refine zck ?_ | refine zcp (by kernel_rfl) ?_ | (refine zap rfl ?_; first | refine zan rfl ?_ | refine zah [] haw rfl rfl rfl sub_nil rfl ?_) | refine zch ?_)
          exact ret_tmp1 rfl ⟨rfl, rfl⟩
    · repeat' (first | refine zck ?_ | refine zcp (by kernel_rfl) ?_ | (refine zap rfl ?_; first | refine zan rfl ?_ | refine zah [] haw rfl rfl rfl sub_nil rfl ?_) | refine zch ?_ | refine zci rfl ?_)
      exact ret_tmp1 rfl ⟨rfl, rfl⟩
end Go.Proofs.YtijbnjaackhlcaaGreatDoor

namespace Sim
open Go Go.Vc
def insV : TV → ByteArray → Int → TV
  | [], n, t => [(n, t)]
  | v :: l, n, t => if v.1 = n then (v.1, t) :: l else v :: insV l n t
def insK : List (ByteArray × ByteArray) → ByteArray → ByteArray → List (ByteArray × ByteArray)
  | [], n, t => [(n, t)]
  | v :: l, n, t => if v.1 = n then (v.1, t) :: l else v :: insK l n t
def mkV (l : TV) : TV := l.foldl (fun m v => insV m v.1 v.2) []
def mkK (l : List (ByteArray × ByteArray)) : List (ByteArray × ByteArray) := l.foldl (fun m v => insK m v.1 v.2) []
theorem insV_S (n : ByteArray) (t : Int) : ∀ l : TV, insS (tvS l) n (.int .i64 t) = tvS (insV l n t)
  | [] => rfl
  | v :: l => by
    show insS ((v.1, .int .i64 v.2) :: tvS l) n (.int .i64 t) = _
    rw [insS, insV]
    by_cases h : v.1 = n
    · rw [if_pos h, if_pos h]; rfl
    · rw [if_neg h, if_neg h, insV_S n t l]; rfl
theorem insK_S (n t : ByteArray) : ∀ l : List (ByteArray × ByteArray), insS (kS l) n (.string t) = kS (insK l n t)
  | [] => rfl
  | v :: l => by
    show insS ((v.1, .string v.2) :: kS l) n (.string t) = _
    rw [insS, insK]
    by_cases h : v.1 = n
    · rw [if_pos h, if_pos h]; rfl
    · rw [if_neg h, if_neg h, insK_S n t l]; rfl
theorem lookV_insV (n s : ByteArray) (t : Int) : ∀ l : TV, lookV (insV l n t) s = if n = s then some t else lookV l s
  | [] => by rw [insV, lookV, lookV]; rfl
  | v :: l => by
    rw [insV]
    by_cases h : v.1 = n
    · rw [if_pos h, lookV, lookV, h]
      by_cases h2 : n = s
      · rw [if_pos h2, if_pos h2]
      · rw [if_neg h2, if_neg h2, if_neg h2]
    · rw [if_neg h, lookV, lookV, lookV_insV n s t l]
      by_cases h2 : v.1 = s
      · rw [if_pos h2, if_neg (fun e => h (h2.trans e.symm)), if_pos h2]
      · rw [if_neg h2, if_neg h2]
theorem lookK_insK (n s : ByteArray) (t : ByteArray) : ∀ l : List (ByteArray × ByteArray), lookK (insK l n t) s = if n = s then some t else lookK l s
  | [] => by rw [insK, lookK, lookK]; rfl
  | v :: l => by
    rw [insK]
    by_cases h : v.1 = n
    · rw [if_pos h, lookK, lookK, h]
      by_cases h2 : n = s
      · rw [if_pos h2, if_pos h2]
      · rw [if_neg h2, if_neg h2, if_neg h2]
    · rw [if_neg h, lookK, lookK, lookK_insK n s t l]
      by_cases h2 : v.1 = s
      · rw [if_pos h2, if_neg (fun e => h (h2.trans e.symm)), if_pos h2]
      · rw [if_neg h2, if_neg h2]
theorem foldV_look (s : ByteArray) : ∀ (l m : TV), (lookV (l.foldl (fun m v => insV m v.1 v.2) m) s).getD 0 = lastT l s ((lookV m s).getD 0)
  | [], m => rfl
  | v :: l, m => by
    rw [List.foldl_cons, foldV_look s l, lookV_insV, lastT]
    by_cases h : v.1 = s
    · rw [if_pos h, if_pos h]; rfl
    · rw [if_neg h, if_neg h]
theorem foldK_look (s : ByteArray) : ∀ (l m : List (ByteArray × ByteArray)), lookK (l.foldl (fun m v => insK m v.1 v.2) m) s = lastK l s (lookK m s)
  | [], m => rfl
  | v :: l, m => by
    rw [List.foldl_cons, foldK_look s l, lookK_insK, lastK]
theorem env_mk (vs : TV) (st : List (ByteArray × ByteArray)) : envM (mkV vs) (mkK st) = envR st vs := by
  unfold envM envR mkV mkK
  congr 1
  · funext s; rw [foldV_look]; rfl
  · funext s; rw [foldK_look]; rfl
theorem mkV_next {l : TV} {j : Nat} {x : ByteArray × Int} (h : l[j]? = some x) : mkV (l.take (j + 1)) = insV (mkV (l.take j)) x.1 x.2 := by
  unfold mkV
  rw [take_snoc h, List.foldl_append]
  rfl
theorem mkK_next {l : List (ByteArray × ByteArray)} {j : Nat} {x : ByteArray × ByteArray} (h : l[j]? = some x) : mkK (l.take (j + 1)) = insK (mkK (l.take j)) x.1 x.2 := by
  unfold mkK
  rw [take_snoc h, List.foldl_append]
  rfl
end Sim

namespace Go.Vc
section
variable {P : Program} {w0 : World} {sh : Shared} {ρ : Env} {Γ : List Asn} {fn : Func} {R : Value → List Asn → Prop}
theorem ends_four {r1 r2 r3 r4 : ResultVar} {v1 v2 v3 v4 : Value} (hr : fn.results = #[r1, r2, r3, r4]) (h1 : ResOk P w0 sh ρ Γ r1 v1) (h2 : ResOk P w0 sh ρ Γ r2 v2) (h3 : ResOk P w0 sh ρ Γ r3 v3) (h4 : ResOk P w0 sh ρ Γ r4 v4)
    (h : R (.tuple #[v1, v2, v3, v4]) Γ) : Ends P w0 sh fn ρ Γ R :=
  fun hF a w hsh ha hst => ⟨_, Γ, by
    rw [results_eq, hr]
    have e1 := resOk_run h1 hsh ha hst
    have e2 := resOk_run h2 hsh ha hst
    have e3 := resOk_run h3 hsh ha hst
    have e4 := resOk_run h4 hsh ha hst
    simp only [Array.mapM_eq_mapM_toList, List.mapM_cons, List.mapM_nil, Sem.run_bind, Sem.run_map, Sem.run_pure, Result.andThen_ok, e1, e2, e3, e4]
    rfl, h, hst⟩
end
end Go.Vc
namespace Go.Proofs.YtijbnjaackhlcaaGreatDoor
open Go.Vc Sim
set_option maxHeartbeats 8000000 in
theorem maps_spec (w0 : World) (sh : Shared) (vv vk : Value) (vs : TV) (st : List (ByteArray × ByteArray)) (h1 : RdSl w0 sh encT 2 vv vs) (h2 : RdSl w0 sh encD 2 vk st) (b1 : vs.length ≤ 5864062014634) (b2 : st.length ≤ 4398046510976) :
    Vc.Fn PP w0 sh 15 [.agg #[vv, vk]] [] (fun r Γ => ∃ mv mk av cv aS cS an cn am cm, r = .tuple #[.map (some mv), .map (some mk), .slice av vs.length cv, .agg #[.slice aS st.length cS, .slice an ctNames.length cn, .slice am ctA.length cm]] ∧
      Γ = [MapB mv (tvS (mkV vs)), MapB mk (kS (mkK st)), Rds fun bl => RdSl w0 bl encT 2 (.slice av vs.length cv) vs, Rds fun bl => RdW w0 bl (.slice aS st.length cS) (.slice an ctNames.length cn) (.slice am ctA.length cm) st]) := by
  obtain ⟨a1, c1, rfl, hc1, _⟩ := id h1
  obtain ⟨a2, c2, rfl, hc2, _⟩ := id h2
  refine fn_of_run en15 fn15 rfl rfl rfl ?_
  repeat (first | refine zck ?_ | refine zcl ?_ | refine zcm ?_ | refine zcn ?_)
  first | refine zcp (by kernel_rfl) ?_ | refine zcq PP_mixed (by kernel_rfl) (by kernel_rfl) ?_
  repeat' (refine zap rfl ?_; first | refine zaq (cs := [_, _]) rfl (fun tp => ?_) | refine zar (fun t5 => ?_) | refine zan rfl ?_)
  all_goals refine zch ?_
  all_goals repeat (first | refine zck ?_ | refine zcl ?_ | refine zcm ?_ | refine zcn ?_)
  refine run_share [0] rfl ?_
  repeat (first | refine zck ?_ | refine zcl ?_ | refine zcm ?_ | refine zcn ?_)
  first | refine zcp (by kernel_rfl) ?_ | refine zcq PP_mixed (by kernel_rfl) (by kernel_rfl) ?_
  repeat' (refine zap rfl ?_; first | refine zcc (fun mm => ?_) | refine zan rfl ?_)
  all_goals refine zch ?_
  all_goals repeat (first | refine zck ?_ | refine zcl ?_ | refine zcm ?_ | refine zcn ?_)
  rename_i mv
  obtain ⟨mk, hmk⟩ : ∃ mk, mk = mm := ⟨_, rfl⟩
  subst hmk
  refine run_exch 1 (MapB mv (tvS (mkV (vs.take 0)))) rfl (mapB_make mv) rfl ?_
  refine run_exch 2 (MapB mk (kS (mkK (st.take 0)))) rfl (mapB_make mk) rfl ?_
  repeat (first | refine zck ?_ | refine zcl ?_ | refine zcm ?_ | refine zcn ?_)
  first | refine zcp (by kernel_rfl) ?_ | refine zcq PP_mixed (by kernel_rfl) (by kernel_rfl) ?_
  repeat' (refine zap rfl ?_; first | refine zan rfl ?_)
  all_goals refine zch ?_
  all_goals repeat (first | refine zck ?_ | refine zcl ?_ | refine zcm ?_ | refine zcn ?_)
  refine run_nilslice 69 2 ?_
  repeat (first | refine zck ?_ | refine zcl ?_ | refine zcm ?_ | refine zcn ?_)
  first | refine zcp (by kernel_rfl) ?_ | refine zcq PP_mixed (by kernel_rfl) (by kernel_rfl) ?_
  repeat' (refine zap rfl ?_; first | refine zan rfl ?_ | refine zaa 0 rfl rfl rfl ?_ | refine zce rfl ?_ | refine zao rfl ?_)
  all_goals refine zch ?_
  all_goals repeat (first | refine zck ?_ | refine zcl ?_ | refine zcm ?_ | refine zcn ?_)
  refine run_loop (S := Nat × Option Addr × Nat) (fun s => [(1, .pointer (some ⟨tp, 0, none⟩)), (5, .pointer (some ⟨t5, 0, none⟩)), (6, .map (some mv)), (7, .map (some mk)), (8, .slice s.2.1 s.1 s.2.2), (17, .slice a1 vs.length c1), (18, .int .i64 vs.length), (19, .int .i64 (s.1 : Int))])
    (fun s Γ => Γ = [pt t5 (.cells (List.toArray [.slice none 0 0, .slice none 0 0, .slice none 0 0]) 53 (0, 0)), MapB mv (tvS (mkV (vs.take s.1))), MapB mk (kS (mkK (st.take 0))), SlA 69 2 s.2.1 s.1 s.2.2 ((vs.take s.1).flatMap encT)] ∧ s.1 ≤ vs.length) (fun s => vs.length - s.1) (0, none, 0) ⟨rfl, rfl, rfl, rfl, rfl, rfl, rfl, rfl, trivial⟩ ⟨rfl, Nat.zero_le _⟩ ?_
  rintro ⟨j, a, c⟩ Γ junk ⟨rfl, g1⟩
  dsimp only at g1 ⊢
  by_cases hj : j < vs.length
  · obtain ⟨x, hx⟩ : ∃ x, vs[j]? = some x := ⟨_, List.getElem?_eq_getElem hj⟩
    obtain ⟨b, off, cc, T, fr, rfl, e2, e3, _⟩ := h1.cells hx
    have hput : ∀ A B C : Asn, putAt 1 (MapB mv (insS (tvS (mkV (vs.take j))) x.1 (.int .i64 x.2))) [A, MapB mv (tvS (mkV (vs.take j))), B, C] = some [A, MapB mv (tvS (mkV (vs.take (j + 1)))), B, C] := fun A B C => by rw [insV_S, ← mkV_next hx]; rfl
    repeat (first | refine zck ?_ | refine zcl ?_ | refine zcm ?_ | refine zcn ?_)
    first | refine zcp (by kernel_rfl) ?_ | refine zcq PP_mixed (by kernel_rfl) (by kernel_rfl) ?_
    repeat' (refine zap rfl ?_; first | refine zbg rfl rfl (by omega) ?_)
    all_goals refine zch ?_
    all_goals repeat (first | refine zck ?_ | refine zcl ?_ | refine zcm ?_ | refine zcn ?_)
    refine zci rfl ?_
    repeat (first | refine zck ?_ | refine zcl ?_ | refine zcm ?_ | refine zcn ?_)
    first | refine zcp (by kernel_rfl) ?_ | refine zcq PP_mixed (by kernel_rfl) (by kernel_rfl) ?_
    repeat' (refine zap rfl ?_; first | refine zad rfl (fun hF Γ w h1 h2 => e2 hF Γ w (fun p hp => h1 p (.tail _ hp)) h2) (e3 _ (by omega)) ?_ | refine zar (fun t10 => ?_) | refine zae 4 rfl rfl rfl rfl rfl rfl rfl ?_ | refine zas rfl rfl (by omega) ?_)
    all_goals refine zch ?_
    all_goals repeat (first | refine zck ?_ | refine zcl ?_ | refine zcm ?_ | refine zcn ?_)
    refine run_share [4] rfl ?_
    repeat (first | refine zck ?_ | refine zcl ?_ | refine zcm ?_ | refine zcn ?_)
    first | refine zcp (by kernel_rfl) ?_ | refine zcq PP_mixed (by kernel_rfl) (by kernel_rfl) ?_
    repeat' (refine zap rfl ?_; first | refine reg_mapUpdateB 1 (u := .int .i64 x.2) rfl rfl rfl rfl (hput _ _ _) ?_ | refine zan rfl ?_ | refine zaa 0 rfl rfl rfl ?_ | refine zao rfl ?_)
    all_goals refine zch ?_
    all_goals repeat (first | refine zck ?_ | refine zcl ?_ | refine zcm ?_ | refine zcn ?_)
    repeat (first | refine zck ?_ | refine zcl ?_ | refine zcm ?_ | refine zcn ?_)
    first | refine zcp (by kernel_rfl) ?_ | refine zcq PP_mixed (by kernel_rfl) (by kernel_rfl) ?_
    repeat' (refine zap rfl ?_; first | refine reg_buildSlice rfl rfl rfl rfl rfl rfl (fun nb9 => ?_) | refine zan rfl ?_ | refine zan rfl ?_ | refine zaa 0 rfl rfl rfl ?_ | refine reg_append 3 4 rfl rfl rfl rfl rfl rfl rfl rfl (by omega) (fun _ _ => rfl) (fun a5 c5 => ?_))
    all_goals refine zch ?_
    all_goals repeat (first | refine zck ?_ | refine zcl ?_ | refine zcm ?_ | refine zcn ?_)
    refine run_take [0, 0, 0, 0] rfl ?_
    repeat' (first | refine zcp (by kernel_rfl) ?_ | (refine zap rfl ?_; first | refine zan rfl ?_ | refine zau rfl rfl (by omega) ?_) | refine zch ?_)
    refine cut_end ⟨rfl, (j + 1, a5, c5), ⟨rfl, rfl, rfl, rfl, rfl, rfl, rfl, int_eq (by dsimp only; omega), trivial⟩, ⟨?_, by dsimp only; omega⟩, by dsimp only; omega⟩
    dsimp only
    rw [take_snoc hx, List.flatMap_append]
    rfl
  have hjl : j = vs.length := by omega
  subst hjl
  rw [List.take_of_length_le (Nat.le_refl _)]
  repeat (first | refine zck ?_ | refine zcl ?_ | refine zcm ?_ | refine zcn ?_)
  first | refine zcp (by kernel_rfl) ?_ | refine zcq PP_mixed (by kernel_rfl) (by kernel_rfl) ?_
  repeat' (refine zap rfl ?_; first | refine zbh rfl rfl (by omega) ?_)
  all_goals refine zch ?_
  all_goals repeat (first | refine zck ?_ | refine zcl ?_ | refine zcm ?_ | refine zcn ?_)
  refine zcj rfl ?_
  refine cut_exit rfl rfl ?_
  refine run_slR encT 3 (l := vs) rfl rfl (fun _ _ => rfl) rfl rfl ?_
  repeat (first | refine zck ?_ | refine zcl ?_ | refine zcm ?_ | refine zcn ?_)
  first | refine zcp (by kernel_rfl) ?_ | refine zcq PP_mixed (by kernel_rfl) (by kernel_rfl) ?_
  repeat' (refine zap rfl ?_; first | refine zan rfl ?_)
  all_goals refine zch ?_
  all_goals repeat (first | refine zck ?_ | refine zcl ?_ | refine zcm ?_ | refine zcn ?_)
  refine run_nilslice 72 2 ?_
  repeat (first | refine zck ?_ | refine zcl ?_ | refine zcm ?_ | refine zcn ?_)
  first | refine zcp (by kernel_rfl) ?_ | refine zcq PP_mixed (by kernel_rfl) (by kernel_rfl) ?_
  repeat' (refine zap rfl ?_; first | refine zan rfl ?_ | refine zaa 0 rfl rfl rfl ?_ | refine zce rfl ?_ | refine zao rfl ?_)
  all_goals refine zch ?_
  all_goals repeat (first | refine zck ?_ | refine zcl ?_ | refine zcm ?_ | refine zcn ?_)
  refine run_loop (S := Nat × Option Addr × Nat) (fun s => [(1, .pointer (some ⟨tp, 0, none⟩)), (5, .pointer (some ⟨t5, 0, none⟩)), (6, .map (some mv)), (7, .map (some mk)), (8, .slice a vs.length c), (11, .slice s.2.1 s.1 s.2.2), (34, .slice a2 st.length c2), (35, .int .i64 st.length), (36, .int .i64 (s.1 : Int))])
    (fun s Γ => Γ = [pt t5 (.cells (List.toArray [.slice none 0 0, .slice none 0 0, .slice none 0 0]) 53 (0, 0)), MapB mv (tvS (mkV vs)), MapB mk (kS (mkK (st.take s.1))), Rds (fun bl => RdSl w0 bl encT 2 (.slice a vs.length c) vs), SlA 72 2 s.2.1 s.1 s.2.2 ((st.take s.1).flatMap encD)] ∧ s.1 ≤ st.length) (fun s => st.length - s.1) (0, none, 0) ⟨rfl, rfl, rfl, rfl, rfl, rfl, rfl, rfl, rfl, trivial⟩ ⟨rfl, Nat.zero_le _⟩ ?_
  rintro ⟨j, a6, c6⟩ Γ junk2 ⟨rfl, g2⟩
  dsimp only at g2 ⊢
  by_cases hj : j < st.length
  · obtain ⟨x, hx⟩ : ∃ x, st[j]? = some x := ⟨_, List.getElem?_eq_getElem hj⟩
    obtain ⟨b, off, cc, T, fr, rfl, e2, e3, _⟩ := h2.cells hx
    have hput : ∀ A B C D : Asn, putAt 2 (MapB mk (insS (kS (mkK (st.take j))) x.1 (.string x.2))) [A, B, MapB mk (kS (mkK (st.take j))), C, D] = some [A, B, MapB mk (kS (mkK (st.take (j + 1)))), C, D] := fun A B C D => by rw [insK_S, ← mkK_next hx]; rfl
    repeat (first | refine zck ?_ | refine zcl ?_ | refine zcm ?_ | refine zcn ?_)
    first | refine zcp (by kernel_rfl) ?_ | refine zcq PP_mixed (by kernel_rfl) (by kernel_rfl) ?_
    repeat' (refine zap rfl ?_; first | refine zbg rfl rfl (by omega) ?_)
    all_goals refine zch ?_
    all_goals repeat (first | refine zck ?_ | refine zcl ?_ | refine zcm ?_ | refine zcn ?_)
    refine zci rfl ?_
    repeat (first | refine zck ?_ | refine zcl ?_ | refine zcm ?_ | refine zcn ?_)
    first | refine zcp (by kernel_rfl) ?_ | refine zcq PP_mixed (by kernel_rfl) (by kernel_rfl) ?_
    repeat' (refine zap rfl ?_; first | refine zad rfl (fun hF Γ w h1 h2 => e2 hF Γ w (fun p hp => h1 p (.tail _ hp)) h2) (e3 _ (by omega)) ?_ | refine zar (fun t13 => ?_) | refine zae 5 rfl rfl rfl rfl rfl rfl rfl ?_ | refine zas rfl rfl (by omega) ?_)
    all_goals refine zch ?_
    all_goals repeat (first | refine zck ?_ | refine zcl ?_ | refine zcm ?_ | refine zcn ?_)
    refine run_share [5] rfl ?_
    repeat (first | refine zck ?_ | refine zcl ?_ | refine zcm ?_ | refine zcn ?_)
    first | refine zcp (by kernel_rfl) ?_ | refine zcq PP_mixed (by kernel_rfl) (by kernel_rfl) ?_
    repeat' (refine zap rfl ?_; first | refine reg_mapUpdateB 2 (u := .string x.2) rfl rfl rfl rfl (hput _ _ _ _) ?_ | refine zan rfl ?_ | refine zaa 0 rfl rfl rfl ?_ | refine zat rfl rfl (by omega) ?_)
    all_goals refine zch ?_
    all_goals repeat (first | refine zck ?_ | refine zcl ?_ | refine zcm ?_ | refine zcn ?_)
    repeat (first | refine zck ?_ | refine zcl ?_ | refine zcm ?_ | refine zcn ?_)
    first | refine zcp (by kernel_rfl) ?_ | refine zcq PP_mixed (by kernel_rfl) (by kernel_rfl) ?_
    repeat' (refine zap rfl ?_; first | refine reg_buildSlice rfl rfl rfl rfl rfl rfl (fun nb9 => ?_) | refine zan rfl ?_ | refine zan rfl ?_ | refine zaa 0 rfl rfl rfl ?_ | refine reg_append 4 5 rfl rfl rfl rfl rfl rfl rfl rfl (by omega) (fun _ _ => rfl) (fun a5 c5 => ?_))
    all_goals refine zch ?_
    all_goals repeat (first | refine zck ?_ | refine zcl ?_ | refine zcm ?_ | refine zcn ?_)
    refine run_take [0, 0, 0, 0, 0] rfl ?_
    repeat' (first | refine zcp (by kernel_rfl) ?_ | (refine zap rfl ?_; first | refine zan rfl ?_ | refine zau rfl rfl (by omega) ?_) | refine zch ?_)
    refine cut_end ⟨rfl, (j + 1, a5, c5), ⟨rfl, rfl, rfl, rfl, rfl, rfl, rfl, rfl, int_eq (by dsimp only; omega), trivial⟩, ⟨?_, by dsimp only; omega⟩, by dsimp only; omega⟩
    dsimp only
    rw [take_snoc hx, List.flatMap_append]
    rfl
  have hjl : j = st.length := by omega
  subst hjl
  rw [List.take_of_length_le (Nat.le_refl _)]
  have hwd := fun sh' => world_spec w0 sh' a6 st.length c6
  repeat (first | refine zck ?_ | refine zcl ?_ | refine zcm ?_ | refine zcn ?_)
  first | refine zcp (by kernel_rfl) ?_ | refine zcq PP_mixed (by kernel_rfl) (by kernel_rfl) ?_
  repeat' (refine zap rfl ?_; first | refine zbh rfl rfl (by omega) ?_)
  all_goals refine zch ?_
  all_goals repeat (first | refine zck ?_ | refine zcl ?_ | refine zcm ?_ | refine zcn ?_)
  refine zcj rfl ?_
  refine cut_exit rfl rfl ?_
  refine run_slR encD 4 (l := st) rfl rfl (fun _ _ => rfl) rfl rfl ?_
  repeat (first | refine zck ?_ | refine zcl ?_ | refine zcm ?_ | refine zcn ?_)
  first | refine zcp (by kernel_rfl) ?_ | refine zcq PP_mixed (by kernel_rfl) (by kernel_rfl) ?_
  repeat' (refine zap rfl ?_; first | refine zan rfl ?_ | refine zan rfl ?_ | (refine zai [] (hwd _) rfl rfl rfl (fun _ h => h) ?_; rintro v Γ ⟨an, cn, am, cm, rfl, rfl⟩) | refine zae 1 rfl rfl rfl rfl rfl rfl rfl ?_)
  all_goals refine zch ?_
  all_goals repeat (first | refine zck ?_ | refine zcl ?_ | refine zcm ?_ | refine zcn ?_)
  refine run_joinR [0, 4] (χ := fun bl => RdW w0 bl (.slice a6 st.length c6) (.slice an ctNames.length cn) (.slice am ctA.length cm) st) rfl (fun q1 q2 h1 h2 => ⟨h2.mono fun p hp => List.mem_append_right _ hp, h1.1.mono fun p hp => List.mem_append_left _ hp, h1.2.mono fun p hp => List.mem_append_left _ hp⟩) ?_
  exact run_ret (leaves_nil (ends_take [2, 2, 2, 0] rfl (ends_four rfl rfl rfl rfl (resOk_pt 1 rfl rfl rfl) ⟨rfl, mv, mk, a, c, a6, c6, an, cn, am, cm, rfl, rfl⟩)))
end Go.Proofs.YtijbnjaackhlcaaGreatDoor

namespace Go.Proofs.YtijbnjaackhlcaaGreatDoor
open Go.Vc Sim
def grS (e : PE) : PS := .mk 0 (bs []) 0 e [] []
def grP (e : PE) : PP' := ⟨[], [⟨bs [], [], [grS e]⟩]⟩
theorem grP_size {e : PE} (h : PO.costL (grP e).opers + (grP e).stores.length ≤ 400) : e.size ≤ 400 := by
  simp only [grP, grS, PO.costL, PO.cost, PS.sizeL, PS.size, List.length_nil] at h
  omega
theorem grP_sz {e : PE} (h : e.sz) : (grP e).sz := by
  unfold PP'.sz
  refine ⟨fun d hd => (by cases hd), Nat.zero_le _, (show (1 : Nat) ≤ 1125899906842624 by decide), fun o ho => ?_⟩
  rw [List.mem_singleton.1 ho]
  refine ⟨(show (0 : Nat) ≤ 4611686018427387904 by decide), fun s hs => (by cases hs), Nat.zero_le _, ?_⟩
  show PS.szL [grS e]
  unfold PS.szL grS PS.sz
  exact ⟨⟨(show (0 : Nat) ≤ 4611686018427387904 by decide), h, (by unfold PS.szL; trivial), (by unfold PS.szL; trivial)⟩, (by unfold PS.szL; trivial)⟩
theorem grP_own (w0 : World) (sh : Shared) (e : PE) (va vo : Value) (ha : RdEl w0 sh va e.args) (ho : RdEl w0 sh vo e.or) (hz : e.sz) (s1 s2 : Nat) :
    Vc.Fn PP w0 sh 9 [.agg #[nilS, sl1 s2]] [pt s1 (.cells (List.toArray (psC (grS e) va vo nilS nilS ++ [])) 43 (0, 0)), pt s2 (.cells (List.toArray ([.string (bs []), nilS, sl1 s1] ++ [])) 34 (0, 0))]
      (fun v Γ => ∃ B, v = .bool B ∧ Γ = [pt s2 (.cells (List.toArray ([.string (bs []), nilS, sl1 s1] ++ [])) 34 (0, 0)), pt s1 (.cells (List.toArray (psC (grS e) va vo nilS nilS ++ [])) 43 (0, 0))] ∧ (B = false → e.size ≤ 400)) := by
  have hS : RdSt w0 ((s2, .cells (List.toArray ([.string (bs []), nilS, sl1 s1] ++ [])) 34 (0, 0)) :: (s1, .cells (List.toArray (psC (grS e) va vo nilS nilS ++ [])) 43 (0, 0)) :: sh) (sl1 s1) [grS e] :=
    RdSt.one (RdS.of (s := grS e) (ha.mono fun p hp => .tail _ (.tail _ hp)) (ho.mono fun p hp => .tail _ (.tail _ hp)) RdSt.nil0 RdSt.nil0) rfl (.tail _ (.head _))
  refine (greatP_spec w0 ((s2, .cells (List.toArray ([.string (bs []), nilS, sl1 s1] ++ [])) 34 (0, 0)) :: (s1, .cells (List.toArray (psC (grS e) va vo nilS nilS ++ [])) 43 (0, 0)) :: sh) (.agg #[nilS, sl1 s2]) (grP e)
    ⟨_, _, rfl, RdSl.nil, RdOl.one (o := ⟨bs [], [], [grS e]⟩) ⟨_, _, rfl, RdSl.nil, hS⟩ rfl (.head _)⟩ (grP_sz hz)).owned.owned.mono ?_
  rintro v Γ ⟨_, ⟨_, ⟨rfl, B, rfl, hB⟩, rfl⟩, rfl⟩
  exact ⟨B, rfl, rfl, fun h => grP_size (hB h)⟩
set_option maxHeartbeats 8000000 in
theorem greatT_spec (w0 : World) (sh : Shared) (e : PE) (va vo vv vk : Value) (vs : TV) (st : List (ByteArray × ByteArray)) (ha : RdEl w0 sh va e.args) (ho : RdEl w0 sh vo e.or) (hz : e.sz) (h1 : RdSl w0 sh encT 2 vv vs) (h2 : RdSl w0 sh encD 2 vk st) (b1 : vs.length ≤ 1125899906842624) (b2 : st.length ≤ 1125899906842624) :
    Vc.Fn PP w0 sh 14 [.agg (List.toArray (peC e.kind e.num e.name e.meth va vo)), .agg #[vv, vk]] [] (fun v Γ => Γ = [] ∧ ∃ B, v = .bool B ∧ (B = false → e.size ≤ 400)) := by
  obtain ⟨a1, c1, rfl, hc1, _⟩ := id h1
  obtain ⟨a2, c2, rfl, hc2, _⟩ := id h2
  refine fn_of_run en14 fn14 rfl rfl rfl ?_
  repeat (first | refine zck ?_ | refine zcl ?_ | refine zcm ?_ | refine zcn ?_)
  first | refine zcp (by kernel_rfl) ?_ | refine zcq PP_mixed (by kernel_rfl) (by kernel_rfl) ?_
  repeat' (refine zap rfl ?_; first | refine zaq (cs := [_, _, _, _, _, _]) rfl (fun te => ?_) | refine zaq (cs := [_, _]) rfl (fun tp => ?_) | refine zan rfl ?_)
  all_goals refine zch ?_
  all_goals repeat (first | refine zck ?_ | refine zcl ?_ | refine zcm ?_ | refine zcn ?_)
  refine run_share [0] rfl ?_
  refine run_share [0] rfl ?_
  repeat (first | refine zck ?_ | refine zcl ?_ | refine zcm ?_ | refine zcn ?_)
  first | refine zcp (by kernel_rfl) ?_ | refine zcq PP_mixed (by kernel_rfl) (by kernel_rfl) ?_
  repeat' (refine zap rfl ?_; first | refine zan rfl ?_)
  all_goals refine zch ?_
  all_goals repeat (first | refine zck ?_ | refine zcl ?_ | refine zcm ?_ | refine zcn ?_)
  repeat (first | refine zck ?_ | refine zcl ?_ | refine zcm ?_ | refine zcn ?_)
  first | refine zcp (by kernel_rfl) ?_ | refine zcq PP_mixed (by kernel_rfl) (by kernel_rfl) ?_
  repeat' (refine zap rfl ?_; first | refine zan rfl ?_ | refine zaa 0 rfl rfl rfl ?_ | refine zce rfl ?_ | refine zao rfl ?_)
  all_goals refine zch ?_
  all_goals repeat (first | refine zck ?_ | refine zcl ?_ | refine zcm ?_ | refine zcn ?_)
  refine run_loop (S := Nat × Int) (fun s => [(2, .pointer (some ⟨te, 0, none⟩)), (3, .pointer (some ⟨tp, 0, none⟩)), (5, .int .i64 s.2), (11, .slice a1 vs.length c1), (12, .int .i64 vs.length), (13, .int .i64 (s.1 : Int))])
    (fun s Γ => Γ = [] ∧ s.1 ≤ vs.length) (fun s => vs.length - s.1) (0, 0) ⟨rfl, rfl, rfl, rfl, rfl, rfl, trivial⟩ ⟨rfl, Nat.zero_le _⟩ ?_
  rintro ⟨j, z⟩ Γ junk ⟨rfl, g1⟩
  dsimp only at g1 ⊢
  by_cases hj : j < vs.length
  · obtain ⟨x, hx⟩ : ∃ x, vs[j]? = some x := ⟨_, List.getElem?_eq_getElem hj⟩
    obtain ⟨b, off, cc, T, fr, rfl, e2, e3, _⟩ := h1.cells hx
    repeat (first | refine zck ?_ | refine zcl ?_ | refine zcm ?_ | refine zcn ?_)
    first | refine zcp (by kernel_rfl) ?_ | refine zcq PP_mixed (by kernel_rfl) (by kernel_rfl) ?_
    repeat' (refine zap rfl ?_; first | refine zbg rfl rfl (by omega) ?_)
    all_goals refine zch ?_
    all_goals repeat (first | refine zck ?_ | refine zcl ?_ | refine zcm ?_ | refine zcn ?_)
    refine zci rfl ?_
    repeat (first | refine zck ?_ | refine zcl ?_ | refine zcm ?_ | refine zcn ?_)
    first | refine zcp (by kernel_rfl) ?_ | refine zcq PP_mixed (by kernel_rfl) (by kernel_rfl) ?_
    repeat' (refine zap rfl ?_; first | refine zad rfl (fun hF Γ w h1 h2 => e2 hF Γ w (fun p hp => h1 p (.tail _ (.tail _ hp))) h2) (e3 _ (by omega)) ?_ | refine zar (fun t7 => ?_) | refine zae 0 rfl rfl rfl rfl rfl rfl rfl ?_ | refine zas rfl rfl (by omega) ?_)
    all_goals refine zch ?_
    all_goals repeat (first | refine zck ?_ | refine zcl ?_ | refine zcm ?_ | refine zcn ?_)
    refine run_share [0] rfl ?_
    repeat (first | refine zck ?_ | refine zcl ?_ | refine zcm ?_ | refine zcn ?_)
    first | refine zcp (by kernel_rfl) ?_ | refine zcq PP_mixed (by kernel_rfl) (by kernel_rfl) ?_
    repeat' (refine zap rfl ?_; first | refine reg_add rfl rfl ?_ | refine zan rfl ?_ | refine zan rfl ?_ | refine zaa 0 rfl rfl rfl ?_ | refine reg_lenS rfl ?_ | refine zao rfl ?_)
    all_goals refine zch ?_
    all_goals repeat (first | refine zck ?_ | refine zcl ?_ | refine zcm ?_ | refine zcn ?_)
    repeat' (first | refine zcp (by kernel_rfl) ?_ | (refine zap rfl ?_; first | refine zan rfl ?_ | refine zau rfl rfl (by omega) ?_) | refine zch ?_)
    exact cut_end ⟨rfl, (j + 1, _), ⟨rfl, rfl, rfl, rfl, rfl, int_eq (by dsimp only; omega), trivial⟩, ⟨rfl, by dsimp only; omega⟩, by dsimp only; omega⟩
  repeat (first | refine zck ?_ | refine zcl ?_ | refine zcm ?_ | refine zcn ?_)
  first | refine zcp (by kernel_rfl) ?_ | refine zcq PP_mixed (by kernel_rfl) (by kernel_rfl) ?_
  repeat' (refine zap rfl ?_; first | refine zbh rfl rfl (by omega) ?_)
  all_goals refine zch ?_
  all_goals repeat (first | refine zck ?_ | refine zcl ?_ | refine zcm ?_ | refine zcn ?_)
  refine zcj rfl ?_
  refine cut_exit rfl rfl ?_
  repeat (first | refine zck ?_ | refine zcl ?_ | refine zcm ?_ | refine zcn ?_)
  first | refine zcp (by kernel_rfl) ?_ | refine zcq PP_mixed (by kernel_rfl) (by kernel_rfl) ?_
  repeat' (refine zap rfl ?_; first | refine zan rfl ?_ | refine zaa 0 rfl rfl rfl ?_ | refine zce rfl ?_ | refine zao rfl ?_)
  all_goals refine zch ?_
  all_goals repeat (first | refine zck ?_ | refine zcl ?_ | refine zcm ?_ | refine zcn ?_)
  refine run_loop (S := Nat × Int) (fun s => [(2, .pointer (some ⟨te, 0, none⟩)), (3, .pointer (some ⟨tp, 0, none⟩)), (5, .int .i64 s.2), (25, .slice a2 st.length c2), (26, .int .i64 st.length), (27, .int .i64 (s.1 : Int))])
    (fun s Γ => Γ = [] ∧ s.1 ≤ st.length) (fun s => st.length - s.1) (0, z) ⟨rfl, rfl, rfl, rfl, rfl, rfl, trivial⟩ ⟨rfl, Nat.zero_le _⟩ ?_
  rintro ⟨i, y⟩ Γ junk2 ⟨rfl, g2⟩
  dsimp only at g2 ⊢
  by_cases hi : i < st.length
  · obtain ⟨x, hx⟩ : ∃ x, st[i]? = some x := ⟨_, List.getElem?_eq_getElem hi⟩
    obtain ⟨b, off, cc, T, fr, rfl, e2, e3, _⟩ := h2.cells hx
    repeat (first | refine zck ?_ | refine zcl ?_ | refine zcm ?_ | refine zcn ?_)
    first | refine zcp (by kernel_rfl) ?_ | refine zcq PP_mixed (by kernel_rfl) (by kernel_rfl) ?_
    repeat' (refine zap rfl ?_; first | refine zbg rfl rfl (by omega) ?_)
    all_goals refine zch ?_
    all_goals repeat (first | refine zck ?_ | refine zcl ?_ | refine zcm ?_ | refine zcn ?_)
    refine zci rfl ?_
    repeat (first | refine zck ?_ | refine zcl ?_ | refine zcm ?_ | refine zcn ?_)
    first | refine zcp (by kernel_rfl) ?_ | refine zcq PP_mixed (by kernel_rfl) (by kernel_rfl) ?_
    repeat' (refine zap rfl ?_; first | refine zad rfl (fun hF Γ w h1 h2 => e2 hF Γ w (fun p hp => h1 p (.tail _ (.tail _ hp))) h2) (e3 _ (by omega)) ?_ | refine zar (fun t9 => ?_) | refine zae 0 rfl rfl rfl rfl rfl rfl rfl ?_ | refine zas rfl rfl (by omega) ?_)
    all_goals refine zch ?_
    all_goals repeat (first | refine zck ?_ | refine zcl ?_ | refine zcm ?_ | refine zcn ?_)
    refine run_share [0] rfl ?_
    repeat (first | refine zck ?_ | refine zcl ?_ | refine zcm ?_ | refine zcn ?_)
    first | refine zcp (by kernel_rfl) ?_ | refine zcq PP_mixed (by kernel_rfl) (by kernel_rfl) ?_
    repeat' (refine zap rfl ?_; first | refine reg_add rfl rfl ?_ | refine zan rfl ?_ | refine zan rfl ?_ | refine zaa 0 rfl rfl rfl ?_ | refine reg_lenS rfl ?_ | refine zat rfl rfl (by omega) ?_)
    all_goals refine zch ?_
    all_goals repeat (first | refine zck ?_ | refine zcl ?_ | refine zcm ?_ | refine zcn ?_)
    repeat' (first | refine zcp (by kernel_rfl) ?_ | (refine zap rfl ?_; first | refine zan rfl ?_ | refine zau rfl rfl (by omega) ?_) | refine zch ?_)
    exact cut_end ⟨rfl, (i + 1, _), ⟨rfl, rfl, rfl, rfl, rfl, int_eq (by dsimp only; omega), trivial⟩, ⟨rfl, by dsimp only; omega⟩, by dsimp only; omega⟩
  repeat (first | refine zck ?_ | refine zcl ?_ | refine zcm ?_ | refine zcn ?_)
  first | refine zcp (by kernel_rfl) ?_ | refine zcq PP_mixed (by kernel_rfl) (by kernel_rfl) ?_
  repeat' (refine zap rfl ?_; first | refine zbh rfl rfl (by omega) ?_)
  all_goals refine zch ?_
  all_goals repeat (first | refine zck ?_ | refine zcl ?_ | refine zcm ?_ | refine zcn ?_)
  refine zcj rfl ?_
  refine cut_exit rfl rfl ?_
  have hg := fun sh' (q : ∀ p ∈ sh, p ∈ sh') s1 s2 => grP_own w0 sh' e va vo (ha.mono q) (ho.mono q) hz s1 s2
  by_cases hy : 400 < y
  · repeat' (first | refine zck ?_ | refine zcp (by kernel_rfl) ?_ | (refine zap rfl ?_; first | refine zak rfl ?_ | refine zan rfl ?_ | refine zan rfl ?_ | refine zbk rfl rfl (by omega) ?_ | refine zbu rfl ?_) | refine zch ?_)
    refine run_take [] rfl ?_
    exact ret_tmp1 rfl ⟨rfl, true, rfl, fun h => by cases h⟩
  · repeat' (first | refine zck ?_ | refine zcp (by kernel_rfl) ?_ | (refine zap rfl ?_; first | refine reg_buildSlice rfl rfl rfl rfl rfl rfl (fun nb9 => ?_) | refine zaj rfl ?_ | refine zan rfl ?_ | refine zan rfl ?_ | refine zaa 1 rfl rfl rfl ?_ | (refine zai [0, 0] (hg _ (fun p hp => .tail _ (.tail _ hp)) _ _) rfl rfl rfl (fun _ h => h) ?_; rintro v Γ ⟨B, rfl, rfl, hB⟩) | refine zbl rfl rfl (by omega) ?_ | refine zbv rfl ?_ | refine zcb rfl ?_) | refine zch ?_)
    refine run_take [] rfl ?_
    exact ret_tmp1 rfl ⟨rfl, B, rfl, hB⟩
end Go.Proofs.YtijbnjaackhlcaaGreatDoor

