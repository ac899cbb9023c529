import Derived.Test.YtfnjeldpfilplaaGreatDoorPart11
/- Lemmas and walks for the claims of this seat (own work): Pb3. -/
namespace Go.Vc
open Sim
theorem lookS_insS (a : ByteArray) (u : Value) (b : ByteArray) : ∀ l : SM, lookS (insS l a u) b = if a = b then some u else lookS l b
  | [] => rfl
  | (c, v) :: l => by
    unfold insS
    by_cases h : c = a
    · subst h
      rw [if_pos rfl]
      unfold lookS
      by_cases hb : c = b
      · rw [if_pos hb, if_pos hb]
      · rw [if_neg hb, if_neg hb, if_neg hb]
    · rw [if_neg h]
      unfold lookS
      rw [lookS_insS a u b l]
      by_cases hb : c = b
      · subst hb
        rw [if_pos rfl, if_neg (fun q => h q.symm), if_pos rfl]
      · rw [if_neg hb, if_neg hb]
theorem lookK_mem : ∀ {l : List (ByteArray × ByteArray)} {s : ByteArray}, (lookK l s).isSome = true → ∃ d ∈ l, d.1 = s
  | [], s, h => by cases h
  | (n, t) :: l, s, h => by
    unfold lookK at h
    by_cases hn : n = s
    · exact ⟨_, .head _, hn⟩
    · rw [if_neg hn] at h
      obtain ⟨d, hd, e⟩ := lookK_mem h
      exact ⟨d, .tail _ hd, e⟩
theorem rot_get {α : Type} {l : List α} {n i : Nat} (hn : n < l.length) (hi : i < l.length) : (l.drop n ++ l.take n)[i]? = l[(i + n) % l.length]? := by
  by_cases h : i < l.length - n
  · rw [List.getElem?_append_left (by rw [List.length_drop]; exact h), List.getElem?_drop, Nat.mod_eq_of_lt (by omega), Nat.add_comm]
  · have h2 : (i + n) % l.length = i + n - l.length := by rw [Nat.mod_eq_sub_mod (by omega)]; exact Nat.mod_eq_of_lt (by omega)
    rw [List.getElem?_append_right (by rw [List.length_drop]; omega), List.length_drop, h2, List.getElem?_take_of_lt (by omega), show i - (l.length - n) = i + n - l.length by omega]
section
variable {P : Program} {w0 : World} {n : Nat} {sh : Shared} {Q : Exit → Env → List Deferred → List Asn → Prop} {k : List Item} {ρ : Env} {df : List Deferred} {Γ : List Asn}
variable {ops : Array Oper} {l : List (Fl × Nat × Oper)} {i : Nat} {ty yt t : TypeId} {pos : String} {aft : Array Edge}
variable {f : Fl} {x y : Operand} {d : Tmp} {a b : ByteArray}
theorem reg_geS (hx : ev ρ x = .string a) (hy : ev ρ y = .string b) (h : Reg P w0 n sh Q ops l k (ρ.set d (.bool (!Op.bytesLess a.toList b.toList))) df Γ) :
    Reg P w0 n sh Q ops ((f, i, ⟨some d, .binOp .geq t x y yt, ty, pos, aft, none⟩) :: l) k ρ df Γ :=
  reg_quiet rfl (fun hF _ => quiet_of_run fun w => by simp [execOp, hx, hy, go_sem]) h
theorem reg_neBF2 {u v : Bool} [hT : TUnd P t .bool] (hx : ev ρ x = .bool u) (hy : ev ρ y = .bool v) (he : u = v) (h : Reg P w0 n sh Q ops l k (ρ.set d (.bool false)) df Γ) :
    Reg P w0 n sh Q ops ((f, i, ⟨some d, .binOp .neq t x y yt, ty, pos, aft, none⟩) :: l) k ρ df Γ :=
  reg_ne_gen (q := true) hx hy (eqGuard_at_bool ..) rfl (fun d w => by simp [Op.equalIn, Sem.run_bind, run_underlying hT.und, he]) h
theorem reg_geSF (hx : ev ρ x = .string a) (hy : ev ρ y = .string b) (hl : ltS a b) (h : Reg P w0 n sh Q ops l k (ρ.set d (.bool false)) df Γ) :
    Reg P w0 n sh Q ops ((f, i, ⟨some d, .binOp .geq t x y yt, ty, pos, aft, none⟩) :: l) k ρ df Γ :=
  reg_geS hx hy (by rw [bytesLess_lt, decide_eq_true hl]; exact h)
end
end Go.Vc
namespace Go.Proofs.YtfnjeldpfilplaaGreatDoor
open Go.Vc Sim
set_option maxHeartbeats 16000000 in
theorem planShape_spec (w0 : World) (hk : KwOk w0) (ht : TabOk w0) (hwd : WordsOk w0) (v : Value) (p : PP') (k8 : Nat) (hp : RdP w0 [] v p) (hz : p.sz) (hk8 : k8 ≤ 255) :
    FnE PP w0 [] 5 [v, .int .u8 (k8 : Int)] [] (.bool true) [] := by
  have haw := awake_spec w0 hk ht hwd
  have hgr := greatP_spec w0 [] v p hp hz
  have hp0 := hp
  obtain ⟨vs, vo, rfl, h1, h2⟩ := hp
  obtain ⟨a1, c1, hvs, hc1, _⟩ := id h1
  obtain ⟨a2, c2, hvo, hc2⟩ := h2.len
  subst hvs; subst hvo
  have hlen := hz.2.2.1
  refine fn_of_run en5 fn5 rfl rfl rfl ?_
  repeat (first | refine zck ?_ | refine zcl ?_ | refine zcm ?_ | refine zcn ?_)
  first | refine zcp (by kernel_rfl) ?_ | refine zcq PP_mixed (by kernel_rfl) (by kernel_rfl) ?_
  repeat' (refine zap rfl ?_; first | refine zaq (cs := [_, _]) rfl (fun tp => ?_) | refine zan rfl ?_)
  all_goals refine zch ?_
  all_goals repeat (first | refine zck ?_ | refine zcl ?_ | refine zcm ?_ | refine zcn ?_)
  refine run_share [0] rfl ?_
  by_cases hn : p.opers.length = 0
  · repeat (first | refine zck ?_ | refine zcl ?_ | refine zcm ?_ | refine zcn ?_)
    first | refine zcp (by kernel_rfl) ?_ | refine zcq PP_mixed (by kernel_rfl) (by kernel_rfl) ?_
    repeat' (refine zap rfl ?_; first | refine zaa 0 rfl rfl rfl ?_ | refine zaj rfl ?_ | refine zak rfl ?_ | refine zan rfl ?_ | (refine zai [] hgr rfl rfl rfl sub_nil ?_; rintro v Γ ⟨rfl, B, rfl, hB⟩; cases B) | refine zce rfl ?_ | refine zao rfl ?_ | refine zbc rfl rfl (by omega) ?_ | refine zbu rfl ?_ | refine zbv rfl ?_)
    all_goals refine zch ?_
    all_goals repeat (first | refine zck ?_ | refine zcl ?_ | refine zcm ?_ | refine zcn ?_)
    all_goals
      repeat' (first | refine zck ?_ | refine zcp (by kernel_rfl) ?_ | (refine zap rfl ?_; first | refine zan rfl ?_ | refine zah [] haw rfl rfl rfl sub_nil rfl ?_) | refine zch ?_ | refine zci rfl ?_)
      exact ret_tmp1 rfl ⟨rfl, rfl⟩
  repeat (first | refine zck ?_ | refine zcl ?_ | refine zcm ?_ | refine zcn ?_)
  first | refine zcp (by kernel_rfl) ?_ | refine zcq PP_mixed (by kernel_rfl) (by kernel_rfl) ?_
  repeat' (refine zap rfl ?_; first | refine zaa 0 rfl rfl rfl ?_ | refine zaj rfl ?_ | refine zak rfl ?_ | refine zan rfl ?_ | (refine zai [] hgr rfl rfl rfl sub_nil ?_; rintro v Γ ⟨rfl, B, rfl, hB⟩; cases B) | refine zce rfl ?_ | refine zao rfl ?_ | refine zbd rfl rfl (by omega) ?_ | refine zbu rfl ?_ | refine zbv rfl ?_)
  all_goals refine zch ?_
  all_goals repeat (first | refine zck ?_ | refine zcl ?_ | refine zcm ?_ | refine zcn ?_)
  rotate_left
  · repeat' (first | refine zck ?_ | refine zcp (by kernel_rfl) ?_ | (refine zap rfl ?_; first | refine zan rfl ?_ | refine zah [] haw rfl rfl rfl sub_nil rfl ?_) | refine zch ?_ | refine zci rfl ?_)
    exact ret_tmp1 rfl ⟨rfl, rfl⟩
  refine zcj rfl ?_
  have hcost := hB rfl
  obtain ⟨sm1, sm2⟩ := small_of hcost
  have sm3 : ∀ x ∈ p.opers, PS.sizeL x.body ≤ 10000 := fun x hx => Nat.le_trans (sm2 x hx) (by omega)
  have n400 : p.opers.length ≤ 400 := by have := PO.costL_len p.opers; omega
  have hal := planAll_spec w0 hk [] _ p hp0 sm1 sm3
  by_cases hC : (tyP p).2 = 0
  rotate_left
  · rw [planA_ill hC] at hal
    dsimp only at hal
    repeat (first | refine zck ?_ | refine zcl ?_ | refine zcm ?_ | refine zcn ?_)
    first | refine zcp (by kernel_rfl) ?_ | refine zcq PP_mixed (by kernel_rfl) (by kernel_rfl) ?_
    repeat' (refine zap rfl ?_; first | refine zaa 0 rfl rfl rfl ?_ | refine zan rfl ?_ | refine zan rfl ?_ | (refine zai [] hal rfl rfl rfl sub_nil ?_; rintro v Γ ⟨a, c, rfl, rfl⟩) | refine zan rfl ?_)
    all_goals refine zch ?_
    all_goals repeat (first | refine zck ?_ | refine zcl ?_ | refine zcm ?_ | refine zcn ?_)
    refine run_take [] rfl ?_
    repeat (first | refine zck ?_ | refine zcl ?_ | refine zcm ?_ | refine zcn ?_ | refine zco ?_)
    repeat (first | refine zck ?_ | refine zcl ?_ | refine zcm ?_ | refine zcn ?_)
    first | refine zcp (by kernel_rfl) ?_ | refine zcq PP_mixed (by kernel_rfl) (by kernel_rfl) ?_
    repeat' (refine zap rfl ?_; first | refine zan rfl ?_ | refine zbe rfl rfl (by omega) ?_)
    all_goals refine zch ?_
    all_goals repeat (first | refine zck ?_ | refine zcl ?_ | refine zcm ?_ | refine zcn ?_)
    refine zci rfl ?_
    repeat' (first | refine zck ?_ | refine zcp (by kernel_rfl) ?_ | (refine zap rfl ?_; first | refine zan rfl ?_ | refine zah [] haw rfl rfl rfl sub_nil rfl ?_) | refine zch ?_)
    exact ret_tmp1 rfl ⟨rfl, rfl⟩
  have hW : WellP p := wellP_iff.1 hC
  have hml : (p.opers.map (planO p)).length = p.opers.length := List.length_map ..
  rw [planA_well hW] at hal
  dsimp only at hal
  rw [hml] at hal
  repeat (first | refine zck ?_ | refine zcl ?_ | refine zcm ?_ | refine zcn ?_)
  first | refine zcp (by kernel_rfl) ?_ | refine zcq PP_mixed (by kernel_rfl) (by kernel_rfl) ?_
  repeat' (refine zap rfl ?_; first | refine zaa 0 rfl rfl rfl ?_ | refine zan rfl ?_ | refine zan rfl ?_ | (refine zai [] hal rfl rfl rfl sub_nil ?_; rintro v Γ ⟨a, c, rfl, rfl⟩) | refine zan rfl ?_)
  all_goals refine zch ?_
  all_goals repeat (first | refine zck ?_ | refine zcl ?_ | refine zcm ?_ | refine zcn ?_)
  refine run_shareB [0] rfl (fun bl hbl => ?_)
  repeat (first | refine zck ?_ | refine zcl ?_ | refine zcm ?_ | refine zcn ?_ | refine zco ?_)
  obtain ⟨L', hL', hLs, hLr⟩ := hbl
  have hnl : L'.length = p.opers.length := by have := congrArg List.length hL'; rw [List.length_map, List.length_map] at this; exact this
  repeat (first | refine zck ?_ | refine zcl ?_ | refine zcm ?_ | refine zcn ?_)
  first | refine zcp (by kernel_rfl) ?_ | refine zcq PP_mixed (by kernel_rfl) (by kernel_rfl) ?_
  repeat' (refine zap rfl ?_; first | refine zan rfl ?_ | refine zbf rfl rfl (by omega) ?_)
  all_goals refine zch ?_
  all_goals repeat (first | refine zck ?_ | refine zcl ?_ | refine zcm ?_ | refine zcn ?_)
  refine zcj rfl ?_
  repeat (first | refine zck ?_ | refine zcl ?_ | refine zcm ?_ | refine zcn ?_)
  first | refine zcp (by kernel_rfl) ?_ | refine zcq PP_mixed (by kernel_rfl) (by kernel_rfl) ?_
  repeat' (refine zap rfl ?_; first | refine zcc (fun mm => ?_) | refine zan rfl ?_)
  all_goals refine zch ?_
  all_goals repeat (first | refine zck ?_ | refine zcl ?_ | refine zcm ?_ | refine zcn ?_)
  obtain ⟨mp, hmp⟩ : ∃ mp, mp = mm := ⟨_, rfl⟩
  subst hmp
  refine run_exch 0 (MapB mp []) rfl (mapB_make mp) rfl ?_
  repeat (first | refine zck ?_ | refine zcl ?_ | refine zcm ?_ | refine zcn ?_ | refine zco ?_)
  repeat (first | refine zck ?_ | refine zcl ?_ | refine zcm ?_ | refine zcn ?_)
  first | refine zcp (by kernel_rfl) ?_ | refine zcq PP_mixed (by kernel_rfl) (by kernel_rfl) ?_
  repeat' (refine zap rfl ?_; first | refine zaa 0 rfl rfl rfl ?_ | refine zan rfl ?_ | refine zce rfl ?_ | refine zao rfl ?_)
  all_goals refine zch ?_
  all_goals repeat (first | refine zck ?_ | refine zcl ?_ | refine zcm ?_ | refine zcn ?_)
  refine run_loop (S := Nat × SM) (fun s => [(1, .int .u8 (k8 : Int)), (2, .pointer (some ⟨tp, 0, none⟩)), (5, .slice a p.opers.length c), (7, .map (some mp)), (38, .slice a1 p.stores.length c1), (39, .int .i64 p.stores.length), (40, .int .i64 (s.1 : Int))])
    (fun s Γ => Γ = [MapB mp s.2] ∧ s.1 ≤ p.stores.length ∧ ∀ d ∈ p.stores.take s.1, lookS s.2 d.1 = some (.bool true)) (fun s => p.stores.length - s.1) (0, []) ⟨rfl, rfl, rfl, rfl, rfl, rfl, rfl, trivial⟩ ⟨rfl, Nat.zero_le _, fun d hd => by cases hd⟩ ?_
  rintro ⟨j, M⟩ Γ junk ⟨rfl, g1, g2⟩
  dsimp only at g1 g2 ⊢
  by_cases hj : j < p.stores.length
  · obtain ⟨d, hd⟩ : ∃ d, p.stores[j]? = some d := ⟨_, List.getElem?_eq_getElem hj⟩
    obtain ⟨b, off, cc, T, fr, rfl, e2, e3, _⟩ := h1.cells hd
    repeat (first | refine zck ?_ | refine zcl ?_ | refine zcm ?_ | refine zcn ?_)
    first | refine zcp (by kernel_rfl) ?_ | refine zcq PP_mixed (by kernel_rfl) (by kernel_rfl) ?_
    repeat' (refine zap rfl ?_; first | refine zbg rfl rfl (by omega) ?_)
    all_goals refine zch ?_
    all_goals repeat (first | refine zck ?_ | refine zcl ?_ | refine zcm ?_ | refine zcn ?_)
    refine zci rfl ?_
    repeat (first | refine zck ?_ | refine zcl ?_ | refine zcm ?_ | refine zcn ?_)
    first | refine zcp (by kernel_rfl) ?_ | refine zcq PP_mixed (by kernel_rfl) (by kernel_rfl) ?_
    repeat' (refine zap rfl ?_; first | refine zad rfl (fun hF Γ w h1 h2 => e2 hF Γ w (fun p hp => by cases hp) h2) (e3 _ (by omega)) ?_ | refine zar (fun t9 => ?_) | refine zae 1 rfl rfl rfl rfl rfl rfl rfl ?_ | refine zas rfl rfl (by omega) ?_)
    all_goals refine zch ?_
    all_goals repeat (first | refine zck ?_ | refine zcl ?_ | refine zcm ?_ | refine zcn ?_)
    refine run_share [1] rfl ?_
    repeat (first | refine zck ?_ | refine zcl ?_ | refine zcm ?_ | refine zcn ?_ | refine zco ?_)
    repeat (first | refine zck ?_ | refine zcl ?_ | refine zcm ?_ | refine zcn ?_)
    first | refine zcp (by kernel_rfl) ?_ | refine zcq PP_mixed (by kernel_rfl) (by kernel_rfl) ?_
    repeat' (refine zap rfl ?_; first | refine zaa 0 rfl rfl rfl ?_ | refine reg_mapUpdateB 0 (u := .bool true) rfl rfl rfl rfl rfl ?_ | refine zan rfl ?_ | refine zao rfl ?_)
    all_goals refine zch ?_
    all_goals repeat (first | refine zck ?_ | refine zcl ?_ | refine zcm ?_ | refine zcn ?_)
    repeat' (first | refine zcp (by kernel_rfl) ?_ | (refine zap rfl ?_; first | refine zan rfl ?_ | refine zau rfl rfl (by omega) ?_) | refine zch ?_)
    refine cut_end ⟨rfl, (j + 1, insS M d.1 (.bool true)), ⟨rfl, rfl, rfl, rfl, rfl, rfl, int_eq (by dsimp only; omega), trivial⟩, ⟨rfl, by dsimp only; omega, fun x hx => ?_⟩, by dsimp only; omega⟩
    rw [take_snoc hd, List.mem_append] at hx
    dsimp only
    rw [lookS_insS]
    by_cases hxd : d.1 = x.1
    · rw [if_pos hxd]
    · rw [if_neg hxd]
      rcases hx with hx | hx
      · exact g2 x hx
      · exact absurd (by rw [List.mem_singleton.1 hx]) hxd
  have hjl : j = p.stores.length := by omega
  subst hjl
  rw [List.take_of_length_le (Nat.le_refl _)] at g2
  repeat (first | refine zck ?_ | refine zcl ?_ | refine zcm ?_ | refine zcn ?_)
  first | refine zcp (by kernel_rfl) ?_ | refine zcq PP_mixed (by kernel_rfl) (by kernel_rfl) ?_
  repeat' (refine zap rfl ?_; first | refine zbh rfl rfl (by omega) ?_)
  all_goals refine zch ?_
  all_goals repeat (first | refine zck ?_ | refine zcl ?_ | refine zcm ?_ | refine zcn ?_)
  refine zcj rfl ?_
  refine cut_exit rfl rfl ?_
  repeat (first | refine zck ?_ | refine zcl ?_ | refine zcm ?_ | refine zcn ?_ | refine zco ?_)
  have hdcl : ∀ s, (lookK p.stores s).isSome = true → lookS M s = some (.bool true) := fun s h => by
    obtain ⟨d, hd, rfl⟩ := lookK_mem h
    exact g2 d hd
  clear g2
  repeat (first | refine zck ?_ | refine zcl ?_ | refine zcm ?_ | refine zcn ?_)
  first | refine zcp (by kernel_rfl) ?_ | refine zcq PP_mixed (by kernel_rfl) (by kernel_rfl) ?_
  repeat' (refine zap rfl ?_; first | refine zan rfl ?_ | refine zce rfl ?_)
  all_goals refine zch ?_
  all_goals repeat (first | refine zck ?_ | refine zcl ?_ | refine zcm ?_ | refine zcn ?_)
  refine run_loop (S := Nat) (fun j => [(1, .int .u8 (k8 : Int)), (2, .pointer (some ⟨tp, 0, none⟩)), (5, .slice a p.opers.length c), (7, .map (some mp)), (48, .slice a p.opers.length c), (49, .int .i64 p.opers.length), (50, .int .i64 (j : Int))])
    (fun j Γ => Γ = [MapB mp M] ∧ j ≤ p.opers.length) (fun j => p.opers.length - j) 0 ⟨rfl, rfl, rfl, rfl, rfl, rfl, rfl, trivial⟩ ⟨rfl, Nat.zero_le _⟩ ?_
  rintro j Γ junk ⟨rfl, hj0⟩
  by_cases hj : j < p.opers.length
  · obtain ⟨o, ho⟩ : ∃ o, p.opers[j]? = some o := ⟨_, List.getElem?_eq_getElem hj⟩
    have hom := List.mem_of_getElem? ho
    obtain ⟨y, hy⟩ : ∃ y, L'[j]? = some y := ⟨_, List.getElem?_eq_getElem (by omega)⟩
    have hyo : y.1 = planO p o := by
      have h := congrArg (·[j]?) hL'
      simp only [List.getElem?_map, hy, ho, Option.map_some, Option.some.injEq] at h
      exact h
    obtain ⟨k1, k2, k3, k4⟩ := planO_law hW hom
    have hyr := hLr _ (List.mem_of_getElem? hy)
    obtain ⟨b', off', cc', T', fr', hab, g2, g3, _⟩ := hLs.cells hy
    subst hab
    obtain ⟨Y, r⟩ := y
    dsimp only at hyo
    subst hyo
    have hsl : (planO p o).stores.length ≤ 1000000000 := by
      have hE4 : (ofP p o.name).1.sm 400 := ofP_sm sm2
      rw [ofP_well hW hom] at hE4
      have := hE4.1
      show (stmtEs p.stores o.body zeroE 0).1.reads.length ≤ _
      dsimp only at this
      omega
    generalize planO p o = Yo at k1 k2 k3 k4 hyr g3 hsl
    obtain ⟨op, cl, ss, cs⟩ := Yo
    dsimp only at k1 k2 k3 k4 hyr hsl
    have g3 : ∀ o', o' = off' + j * 4 → rd true 4 cc'.toList o' = some (.agg (List.toArray [.string op, .int .i64 cl, .slice r.1 ss.length r.2, .int .i64 cs])) := g3
    repeat (first | refine zck ?_ | refine zcl ?_ | refine zcm ?_ | refine zcn ?_)
    first | refine zcp (by kernel_rfl) ?_ | refine zcq PP_mixed (by kernel_rfl) (by kernel_rfl) ?_
    repeat' (refine zap rfl ?_; first | refine zbg rfl rfl (by omega) ?_)
    all_goals refine zch ?_
    all_goals repeat (first | refine zck ?_ | refine zcl ?_ | refine zcm ?_ | refine zcn ?_)
    refine zci rfl ?_
    repeat (first | refine zck ?_ | refine zcl ?_ | refine zcm ?_ | refine zcn ?_)
    first | refine zcp (by kernel_rfl) ?_ | refine zcq PP_mixed (by kernel_rfl) (by kernel_rfl) ?_
    repeat' (refine zap rfl ?_; first | refine zad rfl (fun hF Γ w h1 h2 => g2 hF Γ w (fun p hp => h1 p (by simp [hp])) h2) (g3 _ (by omega)) ?_ | refine zar (fun t11 => ?_) | refine zae 1 rfl rfl rfl rfl rfl rfl rfl ?_ | refine zas rfl rfl (by omega) ?_)
    all_goals refine zch ?_
    all_goals repeat (first | refine zck ?_ | refine zcl ?_ | refine zcm ?_ | refine zcn ?_)
    refine run_share [1] rfl ?_
    repeat (first | refine zck ?_ | refine zcl ?_ | refine zcm ?_ | refine zcn ?_ | refine zco ?_)
    repeat (first | refine zck ?_ | refine zcl ?_ | refine zcm ?_ | refine zcn ?_)
    first | refine zcp (by kernel_rfl) ?_ | refine zcq PP_mixed (by kernel_rfl) (by kernel_rfl) ?_
    repeat' (refine zap rfl ?_; first | refine zan rfl ?_ | refine zaa 0 rfl rfl rfl ?_ | refine zce rfl ?_ | refine zao rfl ?_)
    all_goals refine zch ?_
    all_goals repeat (first | refine zck ?_ | refine zcl ?_ | refine zcm ?_ | refine zcn ?_)
    refine run_loop (S := Nat) (fun q => [(1, .int .u8 (k8 : Int)), (2, .pointer (some ⟨tp, 0, none⟩)), (5, .slice (some ⟨b', off', none⟩) p.opers.length c), (7, .map (some mp)), (11, .pointer (some ⟨t11, 0, none⟩)), (48, .slice (some ⟨b', off', none⟩) p.opers.length c), (49, .int .i64 p.opers.length), (50, .int .i64 (j : Int)), (55, .slice r.1 ss.length r.2), (56, .int .i64 ss.length), (57, .int .i64 (q : Int))])
      (fun q Γ => Γ = [MapB mp M] ∧ q ≤ ss.length) (fun q => ss.length - q) 0 ⟨rfl, rfl, rfl, rfl, rfl, rfl, rfl, rfl, rfl, rfl, rfl, trivial⟩ ⟨rfl, Nat.zero_le _⟩ ?_
    rintro q Γ junk2 ⟨rfl, hq0⟩
    by_cases hq : q < ss.length
    · obtain ⟨s, hs⟩ : ∃ s, ss[q]? = some s := ⟨_, List.getElem?_eq_getElem hq⟩
      obtain ⟨bs', offs, ccs, Ts, frs, hrs, u2, _, u4⟩ := hyr.cells hs
      have hlk := hdcl s (k2 s (List.mem_of_getElem? hs))
      repeat (first | refine zck ?_ | refine zcl ?_ | refine zcm ?_ | refine zcn ?_)
      first | refine zcp (by kernel_rfl) ?_ | refine zcq PP_mixed (by kernel_rfl) (by kernel_rfl) ?_
      repeat' (refine zap rfl ?_; first | refine zbg rfl rfl (by omega) ?_)
      all_goals refine zch ?_
      all_goals repeat (first | refine zck ?_ | refine zcl ?_ | refine zcm ?_ | refine zcn ?_)
      refine zci rfl ?_
      obtain ⟨r1, r2⟩ := r
      dsimp only at hrs
      subst hrs
      repeat (first | refine zck ?_ | refine zcl ?_ | refine zcm ?_ | refine zcn ?_)
      first | refine zcp (by kernel_rfl) ?_ | refine zcq PP_mixed (by kernel_rfl) (by kernel_rfl) ?_
      repeat' (refine zap rfl ?_; first | refine zad rfl (fun hF Γ w h1 h2 => u2 hF Γ w (fun p hp => h1 p (by simp [hp])) h2) (u4 0 _ rfl _ (by omega)) ?_ | refine zan rfl ?_ | refine zan rfl ?_ | refine zas rfl rfl (by omega) ?_)
      all_goals refine zch ?_
      all_goals repeat (first | refine zck ?_ | refine zcl ?_ | refine zcm ?_ | refine zcn ?_)
      by_cases hq1 : q = 0
      · repeat (first | refine zck ?_ | refine zcl ?_ | refine zcm ?_ | refine zcn ?_)
        first | refine zcp (by kernel_rfl) ?_ | refine zcq PP_mixed (by kernel_rfl) (by kernel_rfl) ?_
        repeat' (refine zap rfl ?_; first | refine reg_lookupB 0 (v := .bool true) rfl rfl rfl (by rw [hlk]; rfl) ?_ | refine zbx rfl ?_ | refine zaj rfl ?_ | refine zak rfl ?_ | refine zan rfl ?_ | refine zbl rfl rfl (by omega) ?_ | refine zbv rfl ?_)
        all_goals refine zch ?_
        all_goals repeat (first | refine zck ?_ | refine zcl ?_ | refine zcm ?_ | refine zcn ?_)
        refine zcj rfl ?_
        repeat' (first | refine zcp (by kernel_rfl) ?_ | refine zcm ?_ | refine zcn ?_ | (refine zap rfl ?_; first | refine zan rfl ?_ | refine zau rfl rfl (by omega) ?_) | refine zch ?_)
        exact cut_end ⟨rfl, q + 1, ⟨rfl, rfl, rfl, rfl, rfl, rfl, rfl, rfl, rfl, rfl, int_eq (by omega), trivial⟩, ⟨rfl, by omega⟩, by omega⟩
      · obtain ⟨s', hs'⟩ : ∃ s', ss[q - 1]? = some s' := ⟨_, List.getElem?_eq_getElem (by omega)⟩
        obtain ⟨bs2, offs2, ccs2, Ts2, frs2, hrs2, v2, _, v4⟩ := hyr.cells hs'
        cases hrs2
        have hlt : ltS s' s := by
          rw [List.getElem?_eq_some_iff] at hs hs'
          obtain ⟨l1, rfl⟩ := hs
          obtain ⟨l2, rfl⟩ := hs'
          exact List.pairwise_iff_getElem.1 k1 _ _ _ _ (by omega)
        repeat (first | refine zck ?_ | refine zcl ?_ | refine zcm ?_ | refine zcn ?_)
        first | refine zcp (by kernel_rfl) ?_ | refine zcq PP_mixed (by kernel_rfl) (by kernel_rfl) ?_
        repeat' (refine zap rfl ?_; first | refine reg_lookupB 0 (v := .bool true) rfl rfl rfl (by rw [hlk]; rfl) ?_ | refine zbx rfl ?_ | refine reg_geSF rfl rfl hlt ?_ | refine zad rfl (fun hF Γ w h1 h2 => v2 hF Γ w (fun p hp => h1 p (by simp [hp])) h2) (v4 0 _ rfl _ (by omega)) ?_ | refine zaj rfl ?_ | refine zan rfl ?_ | refine zaa 0 rfl rfl rfl ?_ | refine zao rfl ?_ | refine zbk rfl rfl (by omega) ?_ | refine zav rfl rfl (by omega) ?_ | refine zbu rfl ?_ | refine zbv rfl ?_ | refine zas rfl rfl (by omega) ?_)
        all_goals refine zch ?_
        all_goals repeat (first | refine zck ?_ | refine zcl ?_ | refine zcm ?_ | refine zcn ?_)
        refine zcj rfl ?_
        repeat' (first | refine zcp (by kernel_rfl) ?_ | refine zcm ?_ | refine zcn ?_ | (refine zap rfl ?_; first | refine zan rfl ?_ | refine zau rfl rfl (by omega) ?_) | refine zch ?_)
        exact cut_end ⟨rfl, q + 1, ⟨rfl, rfl, rfl, rfl, rfl, rfl, rfl, rfl, rfl, rfl, int_eq (by omega), trivial⟩, ⟨rfl, by omega⟩, by omega⟩
    · repeat (first | refine zck ?_ | refine zcl ?_ | refine zcm ?_ | refine zcn ?_)
      first | refine zcp (by kernel_rfl) ?_ | refine zcq PP_mixed (by kernel_rfl) (by kernel_rfl) ?_
      repeat' (refine zap rfl ?_; first | refine zbh rfl rfl (by omega) ?_)
      all_goals refine zch ?_
      all_goals repeat (first | refine zck ?_ | refine zcl ?_ | refine zcm ?_ | refine zcn ?_)
      refine zcj rfl ?_
      refine cut_exit rfl rfl ?_
      repeat (first | refine zck ?_ | refine zcl ?_ | refine zcm ?_ | refine zcn ?_ | refine zco ?_)
      by_cases hs0 : ss.length = 0
      · have q3 := k3.2 hs0
        have q4 := k4.2 hs0
        repeat (first | refine zck ?_ | refine zcl ?_ | refine zcm ?_ | refine zcn ?_)
        first | refine zcp (by kernel_rfl) ?_ | refine zcq PP_mixed (by kernel_rfl) (by kernel_rfl) ?_
        repeat' (refine zap rfl ?_; first | refine reg_neBF2 rfl rfl rfl ?_ | refine zaj rfl ?_ | refine zan rfl ?_ | refine zaa 0 rfl rfl rfl ?_ | refine zce rfl ?_ | refine zao rfl ?_ | refine zbc rfl rfl (by omega) ?_ | refine zbv rfl ?_)
        all_goals refine zch ?_
        all_goals repeat (first | refine zck ?_ | refine zcl ?_ | refine zcm ?_ | refine zcn ?_)
        refine zcj rfl ?_
        repeat' (first | refine zcp (by kernel_rfl) ?_ | refine zcm ?_ | refine zcn ?_ | (refine zap rfl ?_; first | refine zan rfl ?_ | refine zau rfl rfl (by omega) ?_) | refine zch ?_)
        exact cut_end ⟨rfl, j + 1, ⟨rfl, rfl, rfl, rfl, rfl, rfl, int_eq (by omega), trivial⟩, ⟨rfl, by omega⟩, by omega⟩
      · have q3 : ¬ cl = 0 := fun h => hs0 (k3.1 h)
        have q4 : ¬ cs = 0 := fun h => hs0 (k4.1 h)
        repeat (first | refine zck ?_ | refine zcl ?_ | refine zcm ?_ | refine zcn ?_)
        first | refine zcp (by kernel_rfl) ?_ | refine zcq PP_mixed (by kernel_rfl) (by kernel_rfl) ?_
        repeat' (refine zap rfl ?_; first | refine reg_neBF2 rfl rfl rfl ?_ | refine zaj rfl ?_ | refine zan rfl ?_ | refine zaa 0 rfl rfl rfl ?_ | refine zce rfl ?_ | refine zao rfl ?_ | refine zbd rfl rfl (by omega) ?_ | refine zbv rfl ?_)
        all_goals refine zch ?_
        all_goals repeat (first | refine zck ?_ | refine zcl ?_ | refine zcm ?_ | refine zcn ?_)
        refine zcj rfl ?_
        repeat' (first | refine zcp (by kernel_rfl) ?_ | refine zcm ?_ | refine zcn ?_ | (refine zap rfl ?_; first | refine zan rfl ?_ | refine zau rfl rfl (by omega) ?_) | refine zch ?_)
        exact cut_end ⟨rfl, j + 1, ⟨rfl, rfl, rfl, rfl, rfl, rfl, int_eq (by omega), trivial⟩, ⟨rfl, by omega⟩, by omega⟩
  repeat (first | refine zck ?_ | refine zcl ?_ | refine zcm ?_ | refine zcn ?_)
  first | refine zcp (by kernel_rfl) ?_ | refine zcq PP_mixed (by kernel_rfl) (by kernel_rfl) ?_
  repeat' (refine zap rfl ?_; first | refine zbh rfl rfl (by omega) ?_)
  all_goals refine zch ?_
  all_goals repeat (first | refine zck ?_ | refine zcl ?_ | refine zcm ?_ | refine zcn ?_)
  refine zcj rfl ?_
  refine cut_exit rfl rfl ?_
  refine run_take [] rfl ?_
  repeat (first | refine zck ?_ | refine zcl ?_ | refine zcm ?_ | refine zcn ?_ | refine zco ?_)
  have n0 : 0 < p.opers.length := by omega
  obtain ⟨nI, hnI⟩ : ∃ nI, nI = k8 % p.opers.length := ⟨_, rfl⟩
  have hnl2 : nI < p.opers.length := by rw [hnI]; exact Nat.mod_lt _ n0
  have hnm : (k8 : Int) % (p.opers.length : Int) = (nI : Int) := by rw [hnI]; rfl
  clear hnI
  obtain ⟨cl, hcl, hos⟩ := id h2
  have hcn := hos.len
  have hcl' : RdSl w0 [] (fun x : List Value => x) 3 (.slice a2 cl.length c2) cl := by rw [hcn]; exact hcl
  have rB1 := hcl'.tail (q := nI) (by omega)
  have rB2 := hcl'.head (q := nI) (by omega)
  rw [hcn] at rB1
  obtain ⟨oB1, _⟩ := (hos.drop nI).flat
  obtain ⟨oB2, _⟩ := (hos.take nI).flat
  have hosB : RdOs w0 [] (turnP p nI).opers (cl.drop nI ++ cl.take nI) := (hos.drop nI).app (hos.take nI)
  obtain ⟨_, h3B⟩ := hosB.flat
  have tB1 : (cl.drop nI).length ≤ 400 := by rw [List.length_drop]; omega
  have tB2 : (cl.take nI).length ≤ 400 := by rw [List.length_take]; omega
  repeat (first | refine zck ?_ | refine zcl ?_ | refine zcm ?_ | refine zcn ?_)
  first | refine zcp (by kernel_rfl) ?_ | refine zcq PP_mixed (by kernel_rfl) (by kernel_rfl) ?_
  repeat' (refine zap rfl ?_; first | refine zaa 0 rfl rfl rfl ?_ | refine reg_rem64e (r := (nI : Int)) rfl rfl (by omega) hnm ?_ | refine zan rfl ?_ | refine zan rfl ?_ | refine zce rfl ?_ | refine zao rfl ?_ | refine zbz rfl (by omega) ?_)
  all_goals refine zch ?_
  all_goals repeat (first | refine zck ?_ | refine zcl ?_ | refine zcm ?_ | refine zcn ?_)
  repeat (first | refine zck ?_ | refine zcl ?_ | refine zcm ?_ | refine zcn ?_)
  first | refine zcp (by kernel_rfl) ?_ | refine zcq PP_mixed (by kernel_rfl) (by kernel_rfl) ?_
  repeat' (refine zap rfl ?_; first | refine zaa 0 rfl rfl rfl ?_ | refine zar (fun t15 => ?_) | refine zae 0 rfl rfl rfl rfl rfl rfl rfl ?_)
  all_goals refine zch ?_
  all_goals repeat (first | refine zck ?_ | refine zcl ?_ | refine zcm ?_ | refine zcn ?_)
  repeat (first | refine zck ?_ | refine zcl ?_ | refine zcm ?_ | refine zcn ?_)
  first | refine zcp (by kernel_rfl) ?_ | refine zcq PP_mixed (by kernel_rfl) (by kernel_rfl) ?_
  repeat' (refine zap rfl ?_; first | refine zaa 0 rfl rfl rfl ?_ | refine reg_buildSlice rfl rfl rfl rfl rfl rfl (fun nb => ?_) | refine reg_slice2 (sz := 3) rfl rfl (by omega) ?_ | refine reg_sliceT (sz := 3) rfl rfl ⟨by omega, by omega⟩ ?_ | refine zae 0 rfl rfl rfl rfl rfl rfl rfl ?_ | refine zan rfl ?_ | (refine reg_own 1 rfl rfl (len := 0) (cap := 0) (sz := 3) ⟨rfl, Nat.le_refl _, Nat.le_refl _⟩ rfl ?_; refine reg_append_rdE 1 rfl rfl (rB1.mono sub_nil) (by decide) oB1 rfl rfl (by omega) (fun _ _ => rfl) (fun a7 c7 => ?_)) | refine reg_append_rdE 1 rfl rfl (rB2.mono sub_nil) (by decide) oB2 rfl rfl (by omega) (fun _ _ => rfl) (fun a8 c8 => ?_) | refine zao rfl ?_)
  all_goals refine zch ?_
  all_goals repeat (first | refine zck ?_ | refine zcl ?_ | refine zcm ?_ | refine zcn ?_)
  obtain ⟨nB, hnB⟩ : ∃ nB, nB = 0 + (cl.drop nI).length + (cl.take nI).length := ⟨_, rfl⟩
  refine run_slR (fun x : List Value => x) 1 (l := cl.drop nI ++ cl.take nI) rfl (by rw [List.flatMap_append]; rfl) h3B (by rw [List.length_append, Nat.zero_add]) rfl ?_
  refine run_shareB [1] rfl (fun zB hzB => ?_)
  refine run_exch 0 (pt t15 (.cells (List.toArray [.slice a1 p.stores.length c1, .slice a8 nB c8]) 33 (0, 0))) rfl (fun g hg => by rw [hnB]; exact hg) rfl ?_
  refine run_share [0] rfl ?_
  repeat (first | refine zck ?_ | refine zcl ?_ | refine zcm ?_ | refine zcn ?_ | refine zco ?_)
  rw [← hnB] at hzB
  have hnB2 : nB = p.opers.length := by rw [hnB, List.length_drop, List.length_take]; omega
  subst hnB2
  have hPt : RdP w0 zB (.agg #[.slice a1 p.stores.length c1, .slice a8 p.opers.length c8]) (turnP p nI) := ⟨_, _, rfl, h1.mono sub_nil, _, hzB, hosB.mono sub_nil⟩
  have hsb : ∀ o ∈ (turnP p nI).opers, o ∈ p.opers := fun o ho => (turn_perm p.opers nI).mem_iff.1 ho
  have hal2 := planAll_spec w0 hk zB _ _ hPt ⟨sm1.1, Nat.le_trans (Nat.le_of_eq (turn_perm p.opers nI).length_eq) sm1.2.1, fun o ho => sm1.2.2 o (hsb o ho)⟩ (fun o ho => sm3 o (hsb o ho))
  have hml2 : ((p.opers.drop nI ++ p.opers.take nI).map (planO p)).length = p.opers.length := by rw [List.length_map, (turn_perm p.opers nI).length_eq]
  rw [planA_turn hW nI] at hal2
  dsimp only at hal2
  rw [hml2] at hal2
  repeat (first | refine zck ?_ | refine zcl ?_ | refine zcm ?_ | refine zcn ?_)
  first | refine zcp (by kernel_rfl) ?_ | refine zcq PP_mixed (by kernel_rfl) (by kernel_rfl) ?_
  repeat' (refine zap rfl ?_; first | refine zaa 0 rfl rfl rfl ?_ | refine zan rfl ?_ | refine zan rfl ?_ | (refine zai [] hal2 rfl rfl rfl (fun p hp => by simp [hp]) ?_; rintro v Γ ⟨a9, c9, rfl, rfl⟩) | refine zce rfl ?_ | refine zan rfl ?_)
  all_goals refine zch ?_
  all_goals repeat (first | refine zck ?_ | refine zcl ?_ | refine zcm ?_ | refine zcn ?_)
  refine run_shareB [0] rfl (fun bl2 hbl2 => ?_)
  obtain ⟨M', hM', hMs, hMr⟩ := hbl2
  repeat (first | refine zck ?_ | refine zcl ?_ | refine zcm ?_ | refine zcn ?_ | refine zco ?_)
  repeat (first | refine zck ?_ | refine zcl ?_ | refine zcm ?_ | refine zcn ?_)
  first | refine zcp (by kernel_rfl) ?_ | refine zcq PP_mixed (by kernel_rfl) (by kernel_rfl) ?_
  repeat' (refine zap rfl ?_; first | refine zaj rfl ?_ | refine zan rfl ?_ | refine zce rfl ?_ | refine zbf rfl rfl (by omega) ?_ | refine zbv rfl ?_)
  all_goals refine zch ?_
  all_goals repeat (first | refine zck ?_ | refine zcl ?_ | refine zcm ?_ | refine zcn ?_)
  refine zcj rfl ?_
  repeat (first | refine zck ?_ | refine zcl ?_ | refine zcm ?_ | refine zcn ?_)
  first | refine zcp (by kernel_rfl) ?_ | refine zcq PP_mixed (by kernel_rfl) (by kernel_rfl) ?_
  repeat' (refine zap rfl ?_; first | refine zan rfl ?_ | refine zce rfl ?_)
  all_goals refine zch ?_
  all_goals repeat (first | refine zck ?_ | refine zcl ?_ | refine zcm ?_ | refine zcn ?_)
  refine run_loop (S := Nat) (fun j => [(5, .slice a p.opers.length c), (14, .int .i64 (nI : Int)), (16, .slice a9 p.opers.length c9), (133, .slice a9 p.opers.length c9), (134, .int .i64 p.opers.length), (135, .int .i64 (j : Int))])
    (fun j Γ => Γ = [] ∧ j ≤ p.opers.length) (fun j => p.opers.length - j) 0 ⟨rfl, rfl, rfl, rfl, rfl, rfl, trivial⟩ ⟨rfl, Nat.zero_le _⟩ ?_
  rintro j Γ junk ⟨rfl, hj0⟩
  by_cases hj : j < p.opers.length
  · have hnm : M'.length = p.opers.length := by have := congrArg List.length hM'; rw [hml2, List.length_map] at this; exact this
    obtain ⟨r, hr⟩ : ∃ r, r = (j + nI) % p.opers.length := ⟨_, rfl⟩
    have hrl : r < p.opers.length := by rw [hr]; exact Nat.mod_lt _ n0
    have hrm : ((j : Int) + (nI : Int)) % (p.opers.length : Int) = (r : Int) := by rw [hr]; rfl
    obtain ⟨o, ho⟩ : ∃ o, p.opers[r]? = some o := ⟨_, List.getElem?_eq_getElem hrl⟩
    have hom := List.mem_of_getElem? ho
    obtain ⟨y, hy⟩ : ∃ y, L'[r]? = some y := ⟨_, List.getElem?_eq_getElem (by omega)⟩
    obtain ⟨z, hz⟩ : ∃ z, M'[j]? = some z := ⟨_, List.getElem?_eq_getElem (by omega)⟩
    have hyo : y.1 = planO p o := by
      have h := congrArg (·[r]?) hL'
      simp only [List.getElem?_map, hy, ho, Option.map_some, Option.some.injEq] at h
      exact h
    have hzo : z.1 = planO p o := by
      have h := congrArg (·[j]?) hM'
      simp only [List.getElem?_map, hz, rot_get hnl2 hj, ← hr, ho, Option.map_some, Option.some.injEq] at h
      exact h
    have hyr := hLr _ (List.mem_of_getElem? hy)
    have hzr := hMr _ (List.mem_of_getElem? hz)
    obtain ⟨b', off', cc', T', fr', hab, g2, g3, _⟩ := hLs.cells hy
    subst hab
    obtain ⟨b3, off3, cc3, T3, fr3, hab, f2, f3, _⟩ := hMs.cells hz
    subst hab
    obtain ⟨Y, u⟩ := y
    obtain ⟨Z, w⟩ := z
    dsimp only at hyo hzo
    subst hyo
    have hsl : (planO p o).stores.length ≤ 1000000000 := by
      have hE4 : (ofP p o.name).1.sm 400 := ofP_sm sm2
      rw [ofP_well hW hom] at hE4
      have := hE4.1
      show (stmtEs p.stores o.body zeroE 0).1.reads.length ≤ _
      dsimp only at this
      omega
    generalize planO p o = Yo at hyr g3 hzo hsl
    subst hzo
    have hA1 := fun sh (k1 : ∀ p ∈ bl2, p ∈ sh) (k2 : ∀ p ∈ bl, p ∈ sh) => alike_spec w0 sh Z w u (hzr.mono k1) (hyr.mono k2) hsl
    obtain ⟨op, cl, ss, cs⟩ := Z
    have g3 : ∀ o', o' = off' + r * 4 → rd true 4 cc'.toList o' = some (.agg (List.toArray [.string op, .int .i64 cl, .slice u.1 ss.length u.2, .int .i64 cs])) := g3
    have f3 : ∀ o', o' = off3 + j * 4 → rd true 4 cc3.toList o' = some (.agg (List.toArray [.string op, .int .i64 cl, .slice w.1 ss.length w.2, .int .i64 cs])) := f3
    repeat (first | refine zck ?_ | refine zcl ?_ | refine zcm ?_ | refine zcn ?_)
    first | refine zcp (by kernel_rfl) ?_ | refine zcq PP_mixed (by kernel_rfl) (by kernel_rfl) ?_
    repeat' (refine zap rfl ?_; first | refine zbg rfl rfl (by omega) ?_)
    all_goals refine zch ?_
    all_goals repeat (first | refine zck ?_ | refine zcl ?_ | refine zcm ?_ | refine zcn ?_)
    refine zci rfl ?_
    repeat (first | refine zck ?_ | refine zcl ?_ | refine zcm ?_ | refine zcn ?_)
    first | refine zcp (by kernel_rfl) ?_ | refine zcq PP_mixed (by kernel_rfl) (by kernel_rfl) ?_
    repeat' (refine zap rfl ?_; first | refine zan rfl ?_ | refine zan rfl ?_)
    all_goals refine zch ?_
    all_goals repeat (first | refine zck ?_ | refine zcl ?_ | refine zcm ?_ | refine zcn ?_)
    repeat (first | refine zck ?_ | refine zcl ?_ | refine zcm ?_ | refine zcn ?_)
    first | refine zcp (by kernel_rfl) ?_ | refine zcq PP_mixed (by kernel_rfl) (by kernel_rfl) ?_
    repeat' (refine zap rfl ?_; first | refine reg_rem64e (r := (r : Int)) rfl rfl (by omega) hrm ?_ | refine zad rfl (fun hF Γ w h1 h2 => g2 hF Γ w (fun p hp => h1 p (by simp [hp])) h2) (g3 _ (by omega)) ?_ | refine zad rfl (fun hF Γ w h1 h2 => f2 hF Γ w (fun p hp => h1 p (by simp [hp])) h2) (f3 _ (by omega)) ?_ | refine zbx rfl ?_ | refine zan rfl ?_ | refine zce rfl ?_ | refine zah [] (hA1 _ (fun p hp => by simp [hp]) (fun p hp => by simp [hp])) rfl rfl rfl (fun _ h => h) rfl ?_ | refine zce rfl ?_ | refine zau rfl rfl (by omega) ?_ | refine zas rfl rfl (by omega) ?_)
    all_goals refine zch ?_
    all_goals repeat (first | refine zck ?_ | refine zcl ?_ | refine zcm ?_ | refine zcn ?_)
    refine zcj rfl ?_
    repeat' (first | refine zcp (by kernel_rfl) ?_ | refine zcm ?_ | refine zcn ?_ | (refine zap rfl ?_; first | refine zan rfl ?_ | refine zau rfl rfl (by omega) ?_) | refine zch ?_)
    exact cut_end ⟨rfl, j + 1, ⟨rfl, rfl, rfl, rfl, rfl, int_eq (by omega), trivial⟩, ⟨rfl, by omega⟩, by omega⟩
  · repeat (first | refine zck ?_ | refine zcl ?_ | refine zcm ?_ | refine zcn ?_)
    first | refine zcp (by kernel_rfl) ?_ | refine zcq PP_mixed (by kernel_rfl) (by kernel_rfl) ?_
    repeat' (refine zap rfl ?_; first | refine zbh rfl rfl (by omega) ?_)
    all_goals refine zch ?_
    all_goals repeat (first | refine zck ?_ | refine zcl ?_ | refine zcm ?_ | refine zcn ?_)
    refine zcj rfl ?_
    refine cut_exit rfl rfl ?_
    repeat' (first | refine zck ?_ | refine zcp (by kernel_rfl) ?_ | (refine zap rfl ?_; first | refine zan rfl ?_ | refine zah [] haw rfl rfl rfl sub_nil rfl ?_) | refine zch ?_)
    exact ret_tmp1 rfl ⟨rfl, rfl⟩
end Go.Proofs.YtfnjeldpfilplaaGreatDoor

