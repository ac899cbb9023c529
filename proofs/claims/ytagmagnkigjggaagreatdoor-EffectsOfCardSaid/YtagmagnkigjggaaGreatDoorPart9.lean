import Derived.Test.YtagmagnkigjggaaGreatDoorPart8
import Derived.Test.YtagmagnkigjggaaGreatDoorPart5
import Derived.Test.YtagmagnkigjggaaGreatDoorPart6
import Derived.Test.YtagmagnkigjggaaGreatDoorPart7
/- Lemmas and walks for the claims of this seat (own work): Eo11 Pp2 Eo12 Gp1. -/
namespace Sim
theorem allM_app : ∀ a b : List (ByteArray × List (ByteArray × Int × Bool)), allM (a ++ b) = allM a ++ allM b
  | [], b => rfl
  | g :: a, b => by rw [List.cons_append, allM, allM, allM_app a b, List.append_assoc]
theorem ctG_at {k : Nat} (h : k < 10) : ctG[k]? = some (ctName k, ctMeths k) := by
  unfold ctName ctMeths
  rw [if_pos (by omega), if_pos (by omega)]
  unfold ctG
  rw [List.getElem?_map, List.getElem?_range h]
  rfl
theorem allM_next {k : Nat} (h : k < 10) : allM (ctG.take (k + 1)) = allM (ctG.take k) ++ grpM (ctName k) (ctMeths k) := by
  rw [take_snoc (ctG_at h), allM_app]
  congr 1
  rw [allM, allM, List.append_nil]
theorem allM_all : allM (ctG.take 10) = ctM := rfl
theorem allM_small : ∀ {k : Nat}, k ≤ 10 → (allM (ctG.take k)).length ≤ 10 * k
  | 0, _ => Nat.le_refl _
  | k + 1, h => by
    rw [allM_next (by omega), List.length_append]
    have h1 := allM_small (k := k) (by omega)
    have h2 : (grpM (ctName k) (ctMeths k)).length ≤ 10 := by
      unfold grpM
      rw [List.length_map]
      have h3 : ∀ i : Nat, i < 10 → (ctMeths i).length ≤ 10 := by decide +kernel
      exact h3 k (by omega)
    omega
end Sim
namespace Go.Vc
open Sim
abbrev encMM (x : ByteArray × Int × Bool) : List Value := [.string x.1, .int .i64 x.2.1, .bool x.2.2]
end Go.Vc
namespace Go.Proofs.YtagmagnkigjggaaGreatDoor
open Go.Vc Sim
theorem methods_val (w0 : World) (k : Int) : Vc.Fn PP w0 [] 39 [.int .i64 k] [] (fun v Γ => ∃ a c, v = .slice a (msK k).length c ∧ Γ = [Rds fun bl => RdSl w0 bl encM 4 (.slice a (msK k).length c) (msK k)]) := by
  refine (methods_spec w0 k).know ?_
  rintro v Γ rfl hst
  obtain ⟨bl, hbl⟩ := Rds.st hst
  obtain ⟨a, c, hv, _⟩ := id hbl
  subst hv
  exact ⟨a, c, rfl, rfl⟩
set_option maxHeartbeats 2000000 in
theorem methodsX_spec (w0 : World) (k : Int) : Vc.Fn PP w0 [] 25 [.int .i64 k] [] (fun v Γ => ∃ a c, v = .slice a (ctMeths k).length c ∧ Γ = [Rds fun bl => RdSl w0 bl encMM 3 (.slice a (ctMeths k).length c) (ctMeths k)]) := by
  have hk := methods_val w0 k
  have hn := msK_len k
  have hrows := msK_rows k
  refine fn_of_run en25 fn25 rfl rfl rfl ?_
  repeat (first | refine zck ?_ | refine zcl ?_ | refine zcm ?_ | refine zcn ?_)
  first | refine zcp (by kernel_rfl) ?_ | refine zcq PP_mixed (by kernel_rfl) (by kernel_rfl) ?_
  repeat' (refine zap rfl ?_; first | refine zan rfl ?_)
  all_goals refine zch ?_
  all_goals repeat (first | refine zck ?_ | refine zcl ?_ | refine zcm ?_ | refine zcn ?_)
  repeat (first | refine zck ?_ | refine zcl ?_ | refine zcm ?_ | refine zcn ?_)
  first | refine zcp (by kernel_rfl) ?_ | refine zcq PP_mixed (by kernel_rfl) (by kernel_rfl) ?_
  repeat' (refine zap rfl ?_; first | refine zan rfl ?_)
  all_goals refine zch ?_
  all_goals repeat (first | refine zck ?_ | refine zcl ?_ | refine zcm ?_ | refine zcn ?_)
  repeat (first | refine zck ?_ | refine zcl ?_ | refine zcm ?_ | refine zcn ?_)
  first | refine zcp (by kernel_rfl) ?_ | refine zcq PP_mixed (by kernel_rfl) (by kernel_rfl) ?_
  repeat' (refine zap rfl ?_; first | refine zan rfl ?_ | refine zce rfl ?_ | (refine zai [] hk rfl rfl rfl sub_nil ?_; rintro v Γ ⟨av, cv, rfl, rfl⟩))
  all_goals refine zch ?_
  all_goals repeat (first | refine zck ?_ | refine zcl ?_ | refine zcm ?_ | refine zcn ?_)
  refine run_shareB [0] rfl (fun bl hbl => ?_)
  refine run_nilslice 86 3 ?_
  refine run_loop (S := Nat × Option Addr × Nat) (fun s => [(3, .slice s.2.1 s.1 s.2.2), (7, .slice av (msK k).length cv), (8, .int .i64 (msK k).length), (9, .int .i64 s.1)])
    (fun s Γ => Γ = [SlA 86 3 s.2.1 s.1 s.2.2 ((((msK k).take s.1).map (·.1)).flatMap encMM)] ∧ s.1 ≤ (msK k).length) (fun s => (msK k).length - s.1) (0, none, 0)
    ⟨rfl, rfl, rfl, rfl, trivial⟩ ⟨rfl, Nat.zero_le _⟩ ?_
  rintro ⟨j, a, c⟩ Γ junk ⟨rfl, g1⟩
  dsimp only at g1 ⊢
  by_cases hj : j < (msK k).length
  · obtain ⟨x, hx⟩ : ∃ x, (msK k)[j]? = some x := ⟨_, List.getElem?_eq_getElem hj⟩
    obtain ⟨b, off, cc, T, fr, rfl, e2, e3, _⟩ := hbl.cells hx
    have hm := method_spec w0 x.1 (.func (.func x.2) #[] #[])
    repeat (first | refine zck ?_ | refine zcl ?_ | refine zcm ?_ | refine zcn ?_)
    first | refine zcp (by kernel_rfl) ?_ | refine zcq PP_mixed (by kernel_rfl) (by kernel_rfl) ?_
    repeat' (refine zap rfl ?_; first | refine zbg rfl rfl (by omega) ?_)
    all_goals refine zch ?_
    all_goals repeat (first | refine zck ?_ | refine zcl ?_ | refine zcm ?_ | refine zcn ?_)
    refine zci rfl ?_
    repeat (first | refine zck ?_ | refine zcl ?_ | refine zcm ?_ | refine zcn ?_)
    first | refine zcp (by kernel_rfl) ?_ | refine zcq PP_mixed (by kernel_rfl) (by kernel_rfl) ?_
    repeat' (refine zap rfl ?_; first | refine zad rfl (fun hF Γ w h1 h2 => e2 hF Γ w (fun p hp => h1 p (by simp [hp])) h2) (e3 _ (by omega)) ?_ | refine zae 1 rfl rfl rfl rfl rfl rfl rfl ?_ | refine zas rfl rfl (by omega) ?_ | refine zar (fun nb => ?_))
    all_goals refine zch ?_
    all_goals repeat (first | refine zck ?_ | refine zcl ?_ | refine zcm ?_ | refine zcn ?_)
    repeat (first | refine zck ?_ | refine zcl ?_ | refine zcm ?_ | refine zcn ?_)
    first | refine zcp (by kernel_rfl) ?_ | refine zcq PP_mixed (by kernel_rfl) (by kernel_rfl) ?_
    repeat' (refine zap rfl ?_; first | refine reg_buildSlice rfl rfl rfl rfl rfl rfl (fun nb9 => ?_) | refine zan rfl ?_ | refine zan rfl ?_ | refine zab 1 rfl rfl rfl ?_ | refine zah [] hm rfl rfl rfl sub_nil rfl ?_ | refine reg_append 0 2 rfl rfl rfl rfl rfl rfl rfl rfl (by omega) (fun _ _ => rfl) (fun a5 c5 => ?_))
    all_goals refine zch ?_
    all_goals repeat (first | refine zck ?_ | refine zcl ?_ | refine zcm ?_ | refine zcn ?_)
    refine run_take [0] rfl ?_
    repeat' (first | refine zcp (by kernel_rfl) ?_ | (refine zap rfl ?_; first | refine zan rfl ?_ | refine zau rfl rfl (by omega) ?_) | refine zch ?_)
    refine cut_end ⟨rfl, (j + 1, a5, c5), ⟨rfl, rfl, rfl, int_eq (by dsimp only; omega), trivial⟩, ⟨?_, by dsimp only; omega⟩, by dsimp only; omega⟩
    dsimp only
    rw [take_snoc hx, List.map_append, List.flatMap_append]
    rfl
  · repeat (first | refine zck ?_ | refine zcl ?_ | refine zcm ?_ | refine zcn ?_)
    first | refine zcp (by kernel_rfl) ?_ | refine zcq PP_mixed (by kernel_rfl) (by kernel_rfl) ?_
    repeat' (refine zap rfl ?_; first | refine zbh rfl rfl (by omega) ?_)
    all_goals refine zch ?_
    all_goals repeat (first | refine zck ?_ | refine zcl ?_ | refine zcm ?_ | refine zcn ?_)
    refine zcj rfl ?_
    refine cut_exit rfl rfl ?_
    have hjl : j = (msK k).length := by omega
    subst hjl
    have hl : (ctMeths k).length = (msK k).length := by rw [← hrows, List.length_map]
    rw [hl]
    refine run_slR encMM 0 (l := ctMeths k) rfl (by rw [List.take_of_length_le (Nat.le_refl _), hrows]) (fun _ _ => rfl) hl rfl ?_
    repeat' (first | refine zck ?_ | refine zcp (by kernel_rfl) ?_ | (refine zap rfl ?_; first | refine zan rfl ?_ | refine zan rfl ?_) | refine zch ?_)
    exact ret_tmp1 rfl ⟨a, c, rfl, rfl⟩
set_option maxHeartbeats 4000000 in
theorem world_spec (w0 : World) (sh : Shared) (v : Value) (p : PP') (hp : RdP w0 sh v p) (hb : p.stores.length ≤ 100000) : Vc.Fn PP w0 sh 12 [v] []
    (fun r Γ => ∃ a c am cm, r = .agg #[.slice a p.stores.length c, .slice am ctM.length cm] ∧ Γ = [Rds fun bl => RdSl w0 bl encD 2 (.slice a p.stores.length c) p.stores ∧ RdSl w0 bl encMR 3 (.slice am ctM.length cm) ctM]) := by
  obtain ⟨vs, vo, rfl, h1, h2⟩ := hp
  obtain ⟨a1, c1, hvs, hc1, _⟩ := id h1
  obtain ⟨a2, c2, hvo, hc2⟩ := h2.len
  subst hvs; subst hvo
  refine fn_of_run en12 fn12 rfl rfl rfl ?_
  repeat (first | refine zck ?_ | refine zcl ?_ | refine zcm ?_ | refine zcn ?_)
  first | refine zcp (by kernel_rfl) ?_ | refine zcq PP_mixed (by kernel_rfl) (by kernel_rfl) ?_
  repeat' (refine zap rfl ?_; first | refine zaq (cs := [_, _]) rfl (fun bp => ?_) | refine zar (fun b2 => ?_))
  all_goals refine zch ?_
  all_goals repeat (first | refine zck ?_ | refine zcl ?_ | refine zcm ?_ | refine zcn ?_)
  refine run_share [0] rfl ?_
  repeat (first | refine zck ?_ | refine zcl ?_ | refine zcm ?_ | refine zcn ?_)
  first | refine zcp (by kernel_rfl) ?_ | refine zcq PP_mixed (by kernel_rfl) (by kernel_rfl) ?_
  repeat' (refine zap rfl ?_; first | refine zar (fun b3 => ?_))
  all_goals refine zch ?_
  all_goals repeat (first | refine zck ?_ | refine zcl ?_ | refine zcm ?_ | refine zcn ?_)
  refine run_nilslice 81 2 ?_
  refine run_nilslice 88 3 ?_
  refine run_take [1, 1, 1, 0] rfl ?_
  repeat (first | refine zck ?_ | refine zcl ?_ | refine zcm ?_ | refine zcn ?_)
  first | refine zcp (by kernel_rfl) ?_ | refine zcq PP_mixed (by kernel_rfl) (by kernel_rfl) ?_
  repeat' (refine zap rfl ?_; first | refine zan rfl ?_)
  all_goals refine zch ?_
  all_goals repeat (first | refine zck ?_ | refine zcl ?_ | refine zcm ?_ | refine zcn ?_)
  refine run_loop (S := Nat × Option Addr × Nat) (fun s => [(1, .pointer (some ⟨bp, 0, none⟩)), (2, .pointer (some ⟨b2, 0, none⟩)), (3, .pointer (some ⟨b3, 0, none⟩)), (4, .int .i64 s.1)])
    (fun s Γ => Γ = [pt b3 (.cells (List.toArray [.slice s.2.1 s.1 s.2.2, .slice none 0 0]) 48 (0, 0)), SlA 81 2 s.2.1 s.1 s.2.2 ((p.stores.take s.1).flatMap encD), SlA 88 3 none 0 0 [], pt b2 (.cells (List.toArray [.slice none 0 0, .slice none 0 0]) 48 (0, 0))] ∧ s.1 ≤ p.stores.length) (fun s => p.stores.length - s.1) (0, none, 0)
    ⟨rfl, rfl, rfl, rfl, trivial⟩ ⟨rfl, Nat.zero_le _⟩ ?_
  rintro ⟨j, a, c⟩ Γ junk ⟨rfl, g1⟩
  dsimp only at g1 ⊢
  by_cases hj : j < p.stores.length
  · obtain ⟨x, hx⟩ : ∃ x, p.stores[j]? = some x := ⟨_, List.getElem?_eq_getElem hj⟩
    obtain ⟨b, off, cc, T, fr, rfl, e2, _, e4⟩ := h1.cells hx
    have r0 : ∀ o, o = off + j * 2 + 0 → rd false 1 cc.toList o = some (.string x.1) := fun o ho => e4 0 _ rfl o ho
    have r1 : ∀ o, o = off + j * 2 + 1 → rd false 1 cc.toList o = some (.string x.2) := fun o ho => e4 1 _ rfl o ho
    repeat (first | refine zck ?_ | refine zcl ?_ | refine zcm ?_ | refine zcn ?_)
    first | refine zcp (by kernel_rfl) ?_ | refine zcq PP_mixed (by kernel_rfl) (by kernel_rfl) ?_
    repeat' (refine zap rfl ?_; first | refine zan rfl ?_ | refine zaa 0 rfl rfl rfl ?_ | refine zce rfl ?_ | refine zao rfl ?_ | refine zbg rfl rfl (by omega) ?_)
    all_goals refine zch ?_
    all_goals repeat (first | refine zck ?_ | refine zcl ?_ | refine zcm ?_ | refine zcn ?_)
    refine zci rfl ?_
    repeat (first | refine zck ?_ | refine zcl ?_ | refine zcm ?_ | refine zcn ?_)
    first | refine zcp (by kernel_rfl) ?_ | refine zcr [(.quiet, 0), (.read, 1), (.quiet, 2), (.read, 3), (.quiet, 4), (.quiet, 5), (.quiet, 6), (.read, 7), (.quiet, 8), (.read, 9), (.quiet, 10), (.quiet, 11), (.quiet, 12), (.read, 13), (.quiet, 14), (.loud, 15), (.loud, 16), (.quiet, 17), (.loud, 18)] PP_mixed (by kernel_rfl) (by kernel_rfl) ?_ | refine run_drawR PP_mixed (by kernel_rfl) (by kernel_rfl) ?_
    repeat' (refine zap rfl ?_; first | refine zad rfl (fun hF Γ w h1 h2 => e2 hF Γ w (fun p hp => h1 p (by simp [hp])) h2) (r0 _ (by omega)) ?_ | refine zad rfl (fun hF Γ w h1 h2 => e2 hF Γ w (fun p hp => h1 p (by simp [hp])) h2) (r1 _ (by omega)) ?_ | refine reg_buildSlice rfl rfl rfl rfl rfl rfl (fun nb9 => ?_) | refine zan rfl ?_ | refine zaa 0 rfl rfl rfl ?_ | refine zab 0 rfl rfl rfl ?_ | refine reg_append 1 4 rfl rfl rfl rfl rfl rfl rfl rfl (by omega) (fun _ _ => rfl) (fun a5 c5 => ?_) | refine zao rfl ?_ | refine zae 0 rfl rfl rfl rfl rfl rfl rfl ?_ | refine zas rfl rfl (by omega) ?_ | refine reg_buildA rfl ?_)
    all_goals refine zch ?_
    all_goals repeat (first | refine zck ?_ | refine zcl ?_ | refine zcm ?_ | refine zcn ?_)
    refine run_take [0, 0, 0, 0] rfl ?_
    repeat' (first | refine zcp (by kernel_rfl) ?_ | (refine zap rfl ?_; first | refine zan rfl ?_ | refine zan rfl ?_ | refine zau rfl rfl (by omega) ?_) | refine zch ?_)
    refine cut_end ⟨rfl, (j + 1, a5, c5), ⟨rfl, rfl, rfl, int_eq (by dsimp only; omega), trivial⟩, ⟨?_, by dsimp only; omega⟩, by dsimp only; omega⟩
    dsimp only
    rw [take_snoc hx, List.flatMap_append]
    rfl
  repeat (first | refine zck ?_ | refine zcl ?_ | refine zcm ?_ | refine zcn ?_)
  first | refine zcp (by kernel_rfl) ?_ | refine zcq PP_mixed (by kernel_rfl) (by kernel_rfl) ?_
  repeat' (refine zap rfl ?_; first | refine zan rfl ?_ | refine zaa 0 rfl rfl rfl ?_ | refine zce rfl ?_ | refine zao rfl ?_ | refine zbh rfl rfl (by omega) ?_)
  all_goals refine zch ?_
  all_goals repeat (first | refine zck ?_ | refine zcl ?_ | refine zcm ?_ | refine zcn ?_)
  refine zcj rfl ?_
  refine cut_exit rfl rfl ?_
  have hjl : j = p.stores.length := by omega
  subst hjl
  refine run_slR encD 1 (l := p.stores) rfl (by rw [List.take_of_length_le (Nat.le_refl _)]) (fun _ _ => rfl) rfl rfl ?_
  repeat (first | refine zck ?_ | refine zcl ?_ | refine zcm ?_ | refine zcn ?_)
  first | refine zcp (by kernel_rfl) ?_ | refine zcq PP_mixed (by kernel_rfl) (by kernel_rfl) ?_
  repeat' (refine zap rfl ?_; first | refine zan rfl ?_)
  all_goals refine zch ?_
  all_goals repeat (first | refine zck ?_ | refine zcl ?_ | refine zcm ?_ | refine zcn ?_)
  refine run_loop (S := Nat × Option Addr × Nat) (fun s => [(1, .pointer (some ⟨bp, 0, none⟩)), (2, .pointer (some ⟨b2, 0, none⟩)), (3, .pointer (some ⟨b3, 0, none⟩)), (5, .int .i64 s.1)])
    (fun s Γ => Γ = [pt b3 (.cells (List.toArray [.slice a p.stores.length c, .slice s.2.1 (allM (ctG.take s.1)).length s.2.2]) 48 (0, 0)), Rds (fun bl => RdSl w0 bl encD 2 (.slice a p.stores.length c) p.stores), SlA 88 3 s.2.1 (allM (ctG.take s.1)).length s.2.2 ((allM (ctG.take s.1)).flatMap encMR), pt b2 (.cells (List.toArray [.slice none 0 0, .slice none 0 0]) 48 (0, 0))] ∧ s.1 ≤ 10) (fun s => 10 - s.1) (0, none, 0)
    ⟨rfl, rfl, rfl, rfl, trivial⟩ ⟨rfl, Nat.zero_le _⟩ ?_
  rintro ⟨k, am, cm⟩ Γ junk2 ⟨rfl, g2⟩
  dsimp only at g2 ⊢
  by_cases hk : k < 10
  · have hmk := methodsX_spec w0 k
    have hnk := name_spec w0 k
    have hsm := allM_small g2
    have hnext := allM_next hk
    have hlen : (ctMeths k).length ≤ 10 := by
      have h := msK_rows k
      rw [← h, List.length_map]
      exact msK_len k
    generalize ctMeths (k : Int) = ms at *
    generalize ctName (k : Int) = nm at *
    generalize allM (ctG.take k) = M0 at *
    repeat (first | refine zck ?_ | refine zcl ?_ | refine zcm ?_ | refine zcn ?_)
    first | refine zcp (by kernel_rfl) ?_ | refine zcq PP_mixed (by kernel_rfl) (by kernel_rfl) ?_
    repeat' (refine zap rfl ?_; first | refine zan rfl ?_ | refine zbi rfl rfl (by omega) ?_)
    all_goals refine zch ?_
    all_goals repeat (first | refine zck ?_ | refine zcl ?_ | refine zcm ?_ | refine zcn ?_)
    refine zci rfl ?_
    repeat (first | refine zck ?_ | refine zcl ?_ | refine zcm ?_ | refine zcn ?_)
    first | refine zcp (by kernel_rfl) ?_ | refine zcq PP_mixed (by kernel_rfl) (by kernel_rfl) ?_
    repeat' (refine zap rfl ?_; first | refine zan rfl ?_ | refine zan rfl ?_ | (refine zai [] hmk rfl rfl rfl sub_nil ?_; rintro v Γ ⟨av, cv, rfl, rfl⟩))
    all_goals refine zch ?_
    all_goals repeat (first | refine zck ?_ | refine zcl ?_ | refine zcm ?_ | refine zcn ?_)
    refine run_shareB [0] rfl (fun bl hbl => ?_)
    repeat (first | refine zck ?_ | refine zcl ?_ | refine zcm ?_ | refine zcn ?_)
    first | refine zcp (by kernel_rfl) ?_ | refine zcq PP_mixed (by kernel_rfl) (by kernel_rfl) ?_
    repeat' (refine zap rfl ?_; first | refine zan rfl ?_)
    all_goals refine zch ?_
    all_goals repeat (first | refine zck ?_ | refine zcl ?_ | refine zcm ?_ | refine zcn ?_)
    refine run_loop (S := Nat × Option Addr × Nat) (fun s => [(1, .pointer (some ⟨bp, 0, none⟩)), (2, .pointer (some ⟨b2, 0, none⟩)), (3, .pointer (some ⟨b3, 0, none⟩)), (5, .int .i64 k), (6, .slice av ms.length cv), (7, .int .i64 s.1)])
      (fun s Γ => Γ = [pt b3 (.cells (List.toArray [.slice a p.stores.length c, .slice s.2.1 (M0 ++ grpM nm (ms.take s.1)).length s.2.2]) 48 (0, 0)), Rds (fun bl => RdSl w0 bl encD 2 (.slice a p.stores.length c) p.stores), SlA 88 3 s.2.1 (M0 ++ grpM nm (ms.take s.1)).length s.2.2 ((M0 ++ grpM nm (ms.take s.1)).flatMap encMR), pt b2 (.cells (List.toArray [.slice none 0 0, .slice none 0 0]) 48 (0, 0))] ∧ s.1 ≤ ms.length) (fun s => ms.length - s.1) (0, am, cm)
      ⟨rfl, rfl, rfl, rfl, rfl, rfl, trivial⟩ ⟨by dsimp only; rw [List.take_zero, show M0 ++ grpM nm [] = M0 from List.append_nil _]; rfl, Nat.zero_le _⟩ ?_
    rintro ⟨i, am2, cm2⟩ Γ junk3 ⟨rfl, g3⟩
    dsimp only at g3 ⊢
    by_cases hi : i < ms.length
    · obtain ⟨x, hx⟩ : ∃ x, ms[i]? = some x := ⟨_, List.getElem?_eq_getElem hi⟩
      obtain ⟨b, off, cc, T, fr, rfl, e2, _, e4⟩ := hbl.cells hx
      have r0 : ∀ o, o = off + i * 3 + 0 → rd false 1 cc.toList o = some (.string x.1) := fun o ho => e4 0 _ rfl o ho
      have r2 : ∀ o, o = off + i * 3 + 2 → rd false 1 cc.toList o = some (.bool x.2.2) := fun o ho => e4 2 _ rfl o ho
      have hL : (M0 ++ grpM nm (ms.take (i + 1))) = (M0 ++ grpM nm (ms.take i)) ++ [(nm, x.1, x.2.2)] := by
        rw [take_snoc hx, List.append_assoc]
        unfold grpM
        rw [List.map_append]
        rfl
      have hLn : (M0 ++ grpM nm (ms.take i)).length ≤ 1000 := by
        rw [List.length_append]
        unfold grpM
        rw [List.length_map, List.length_take]
        omega
      repeat (first | refine zck ?_ | refine zcl ?_ | refine zcm ?_ | refine zcn ?_)
      first | refine zcp (by kernel_rfl) ?_ | refine zcq PP_mixed (by kernel_rfl) (by kernel_rfl) ?_
      repeat' (refine zap rfl ?_; first | refine zan rfl ?_ | refine zce rfl ?_ | refine zbg rfl rfl (by omega) ?_)
      all_goals refine zch ?_
      all_goals repeat (first | refine zck ?_ | refine zcl ?_ | refine zcm ?_ | refine zcn ?_)
      refine zci rfl ?_
      generalize M0 ++ grpM nm (ms.take i) = ML at *
      repeat (first | refine zck ?_ | refine zcl ?_ | refine zcm ?_ | refine zcn ?_)
      refine run_drawT [0] [(.quiet, 0), (.quiet, 1), (.quiet, 2), (.loud, 3), (.quiet, 4), (.quiet, 5), (.quiet, 6), (.quiet, 7), (.quiet, 8), (.quiet, 9), (.quiet, 10), (.quiet, 11), (.quiet, 12), (.quiet, 13), (.quiet, 14), (.loud, 15), (.loud, 16)] [(.quiet, 17), (.loud, 18)] PP_mixed (by kernel_rfl) (by kernel_rfl) rfl ?_
      repeat' (refine zap rfl ?_; first | refine zad rfl (fun hF Γ w h1 h2 => e2 hF Γ w (fun p hp => h1 p (by simp [hp])) h2) (r0 _ (by omega)) ?_ | refine zad rfl (fun hF Γ w h1 h2 => e2 hF Γ w (fun p hp => h1 p (by simp [hp])) h2) (r2 _ (by omega)) ?_ | refine reg_buildSlice rfl rfl rfl rfl rfl rfl (fun nb9 => ?_) | refine zan rfl ?_ | refine zaa 0 rfl rfl rfl ?_ | refine zah [] hnk rfl rfl rfl sub_nil rfl ?_ | refine reg_append 1 3 rfl rfl rfl rfl rfl rfl rfl rfl (by omega) (fun _ _ => rfl) (fun a5 c5 => ?_) | refine zao rfl ?_ | refine zas rfl rfl (by omega) ?_ | refine zcb rfl ?_)
      all_goals refine reg_turn ?_
      all_goals repeat' (refine zap rfl ?_; first | refine zao rfl ?_ | refine zae 0 rfl rfl rfl rfl rfl rfl rfl ?_)
      all_goals refine zch ?_
      all_goals repeat (first | refine zck ?_ | refine zcl ?_ | refine zcm ?_ | refine zcn ?_)
      refine run_take [0, 0, 0, 0] rfl ?_
      repeat' (first | refine zcp (by kernel_rfl) ?_ | (refine zap rfl ?_; first | refine zan rfl ?_ | refine zan rfl ?_ | refine zau rfl rfl (by omega) ?_) | refine zch ?_)
      refine cut_end ⟨rfl, (i + 1, a5, c5), ⟨rfl, rfl, rfl, rfl, rfl, int_eq (by dsimp only; omega), trivial⟩, ⟨?_, by dsimp only; omega⟩, by dsimp only; omega⟩
      dsimp only
      rw [hL, List.length_append, List.flatMap_append]
      rfl
    · repeat (first | refine zck ?_ | refine zcl ?_ | refine zcm ?_ | refine zcn ?_)
      first | refine zcp (by kernel_rfl) ?_ | refine zcq PP_mixed (by kernel_rfl) (by kernel_rfl) ?_
      repeat' (refine zap rfl ?_; first | refine zan rfl ?_ | refine zce rfl ?_ | refine zbh rfl rfl (by omega) ?_)
      all_goals refine zch ?_
      all_goals repeat (first | refine zck ?_ | refine zcl ?_ | refine zcm ?_ | refine zcn ?_)
      refine zcj rfl ?_
      refine cut_exit rfl rfl ?_
      repeat' (first | refine zcp (by kernel_rfl) ?_ | refine zcn ?_ | (refine zap rfl ?_; first | refine zan rfl ?_ | refine zan rfl ?_ | refine zau rfl rfl (by omega) ?_) | refine zch ?_)
      refine cut_end ⟨rfl, (k + 1, am2, cm2), ⟨rfl, rfl, rfl, int_eq (by dsimp only; omega), trivial⟩, ⟨?_, by dsimp only; omega⟩, by dsimp only; omega⟩
      dsimp only
      rw [hnext, List.take_of_length_le (show ms.length ≤ i by omega)]
  · have hkl : k = 10 := by omega
    subst hkl
    rw [allM_all]
    repeat (first | refine zck ?_ | refine zcl ?_ | refine zcm ?_ | refine zcn ?_)
    first | refine zcp (by kernel_rfl) ?_ | refine zcq PP_mixed (by kernel_rfl) (by kernel_rfl) ?_
    repeat' (refine zap rfl ?_; first | refine zan rfl ?_ | refine zbj rfl rfl (by omega) ?_)
    all_goals refine zch ?_
    all_goals repeat (first | refine zck ?_ | refine zcl ?_ | refine zcm ?_ | refine zcn ?_)
    refine zcj rfl ?_
    refine cut_exit rfl rfl ?_
    refine run_slR encMR 2 (l := ctM) rfl rfl (fun _ _ => rfl) rfl rfl ?_
    repeat (first | refine zck ?_ | refine zcl ?_ | refine zcm ?_ | refine zcn ?_)
    first | refine zcp (by kernel_rfl) ?_ | refine zcq PP_mixed (by kernel_rfl) (by kernel_rfl) ?_
    repeat' (refine zap rfl ?_; first | refine zab 0 rfl rfl rfl ?_ | refine zae 3 rfl rfl rfl rfl rfl rfl rfl ?_)
    all_goals refine zch ?_
    all_goals repeat (first | refine zck ?_ | refine zcl ?_ | refine zcm ?_ | refine zcn ?_)
    refine run_joinR [1, 1] (χ := fun bl => RdSl w0 bl encD 2 (.slice a p.stores.length c) p.stores ∧ RdSl w0 bl encMR 3 (.slice am ctM.length cm) ctM) rfl
      (fun q1 q2 h1 h2 => ⟨h1.mono fun p hp => List.mem_append_left _ hp, h2.mono fun p hp => List.mem_append_right _ hp⟩) ?_
    exact run_ret (leaves_nil (ends_take [0] rfl (ends_one rfl (resOk_pt 2 rfl rfl rfl) ⟨rfl, a, c, am, cm, rfl, rfl⟩)))
end Go.Proofs.YtagmagnkigjggaaGreatDoor

namespace Sim
end Sim
namespace Go.Vc
open Sim
theorem RdOs.put {w0 : World} {sh : Shared} : ∀ {l : List PO} {cl : List (List Value)} {j : Nat} {o : PO} {c : List Value}, RdOs w0 sh l cl → j < l.length → RdO w0 sh o c → RdOs w0 sh (l.set j o) (cl.set j c)
  | [], _, j, o, c, _, hj, _ => by simp at hj
  | x :: l, _, 0, o, c, h, _, ho => by
    obtain ⟨c', cl', rfl, h2, h3⟩ := h
    exact ⟨c, cl', rfl, ho, h3⟩
  | x :: l, _, j + 1, o, c, h, hj, ho => by
    obtain ⟨c', cl', rfl, h2, h3⟩ := h
    exact ⟨c', _, rfl, h2, RdOs.put h3 (by simpa using hj) ho⟩
theorem RdSs.take {w0 : World} {sh : Shared} : ∀ {l : List PS} {cl : List (List Value)} (k : Nat), RdSs w0 sh l cl → RdSs w0 sh (l.take k) (cl.take k)
  | l, cl, 0, _ => by rw [List.take_zero, List.take_zero]; unfold RdSs; rfl
  | [], _, k + 1, h => by unfold RdSs at h; rw [h]; unfold RdSs; rfl
  | e :: l, _, k + 1, h => by
    unfold RdSs at h
    obtain ⟨c, cl', rfl, h3, h4⟩ := h
    rw [List.take_succ_cons, List.take_succ_cons]
    unfold RdSs
    exact ⟨c, _, rfl, h3, RdSs.take k h4⟩
theorem RdSt.head {w0 : World} {sh : Shared} {a : Option Addr} {cap k : Nat} {l : List PS} (h : RdSt w0 sh (.slice a l.length cap) l) (hk : k ≤ l.length) : RdSt w0 sh (.slice a k cap) (l.take k) := by
  obtain ⟨cl, h1, h2⟩ := h
  rw [← h2.len] at h1 hk
  exact ⟨_, RdSl.head h1 hk, h2.take k⟩
end Go.Vc
namespace Sim
end Sim
namespace Go.Proofs.YtagmagnkigjggaaGreatDoor
open Go.Vc Sim
theorem ofP_sm {p : PP'} {n : ByteArray} {m : Nat} (h : ∀ o ∈ p.opers, PS.sizeL o.body ≤ m) : (ofP p n).1.sm m := by
  unfold ofP
  split
  · exact zeroE_sm m
  · split
    · exact zeroE_sm m
    · rename_i o hq
      have ho := h o (List.mem_of_find?_eq_some hq)
      split
      · exact zeroE_sm m
      · exact (stmtEs_sm p.stores o.body zeroE 0 0 (zeroE_sm 0)).mono (by omega)
end Go.Proofs.YtagmagnkigjggaaGreatDoor

namespace Go.Proofs.YtagmagnkigjggaaGreatDoor
open Go.Vc Sim
theorem rstmts_own (w0 : World) (sh : Shared) (st : List (ByteArray × ByteArray)) (ml : List MR) (hM : MlOk ml) (hst : st.length ≤ 1000000) (hml : ml.length ≤ 1000000) (a am b : Option Addr) (c cm d : Nat) (l : List PS) (dp : Int) (hl : PS.sizeL l ≤ 10000) (hw : wrongSs l dp = 0) :
    Vc.Fn PP w0 sh 11 [.agg #[.slice a st.length c, .slice am ml.length cm], .slice b l.length d]
      [Rds fun bl => RdSl w0 bl encD 2 (.slice a st.length c) st ∧ RdSl w0 bl encMR 3 (.slice am ml.length cm) ml, Rds fun bl => RdSt w0 bl (.slice b l.length d) l]
      (fun r Γ => ∃ q : P6, r = .tuple #[efV q (refSs st ml l zeroE).1, .int .i64 (refSs st ml l zeroE).2] ∧ Γ = [rdV w0 (efV q (refSs st ml l zeroE).1) (refSs st ml l zeroE).1, Rds fun bl => RdSt w0 bl (.slice b l.length d) l, Rds fun bl => RdSl w0 bl encD 2 (.slice a st.length c) st ∧ RdSl w0 bl encMR 3 (.slice am ml.length cm) ml]) := by
  refine (Fn.lendR (φ := fun bl => RdSl w0 bl encD 2 (.slice a st.length c) st ∧ RdSl w0 bl encMR 3 (.slice am ml.length cm) ml) en11 (fun sh1 bl1 h1 h2 h3 => Fn.lendR (φ := fun bl => RdSt w0 bl (.slice b l.length d) l) en11 (fun sh2 bl2 g1 g2 g3 => rstmts_spec w0 st ml hM hst hml 10000 (Nat.le_refl _) sh2 _ am cm _ l dp hl ((h3.1.mono h2).mono g1) ((h3.2.mono h2).mono g1) (g3.mono g2) hw))).mono ?_
  rintro v Γ ⟨_, ⟨_, ⟨r, rfl, rfl⟩, rfl⟩, rfl⟩
  exact ⟨r, rfl, rfl⟩
set_option maxHeartbeats 8000000 in
theorem effof_spec (w0 : World) (hk : KwOk w0) (v : Value) (p : PP') (oper : ByteArray) (hp : RdP w0 [] v p) (hz : p.sz) :
    FnE PP w0 [] 3 [v, .string oper] [] (.bool true) [] := by
  have haw := awake_spec w0 hk
  have hgr := greatP_spec w0 [] v p hp hz
  have hp0 := hp
  obtain ⟨vs, vo, rfl, h1, h2⟩ := hp
  obtain ⟨a1, c1, hvs, hc1, _⟩ := id h1
  obtain ⟨a2, c2, hvo, hc2⟩ := h2.len
  subst hvs; subst hvo
  have hlen := hz.2.2.1
  refine fn_of_run en3 fn3 rfl rfl rfl ?_
  repeat (first | refine zck ?_ | refine zcl ?_ | refine zcm ?_ | refine zcn ?_)
  first | refine zcp (by kernel_rfl) ?_ | refine zcq PP_mixed (by kernel_rfl) (by kernel_rfl) ?_
  repeat' (refine zap rfl ?_; first | refine zan rfl ?_ | refine zaq (cs := [_, _]) rfl (fun nb => ?_))
  all_goals refine zch ?_
  all_goals repeat (first | refine zck ?_ | refine zcl ?_ | refine zcm ?_ | refine zcn ?_)
  refine run_share [0] rfl ?_
  by_cases hn : 300 < oper.size
  · repeat (first | refine zck ?_ | refine zcl ?_ | refine zcm ?_ | refine zcn ?_)
    first | refine zcp (by kernel_rfl) ?_ | refine zcq PP_mixed (by kernel_rfl) (by kernel_rfl) ?_
    repeat' (refine zap rfl ?_; first | refine zaa 0 rfl rfl rfl ?_ | refine zaj rfl ?_ | refine zak rfl ?_ | refine zan rfl ?_ | (refine zai [] hgr rfl rfl rfl sub_nil ?_; rintro v Γ ⟨rfl, B, rfl, hB⟩; cases B) | refine reg_lenS rfl ?_ | refine zbk rfl rfl (by omega) ?_ | refine zbu rfl ?_ | refine zbv rfl ?_)
    all_goals refine zch ?_
    all_goals repeat (first | refine zck ?_ | refine zcl ?_ | refine zcm ?_ | refine zcn ?_)
    all_goals
      repeat' (first | refine zck ?_ | refine zcp (by kernel_rfl) ?_ | (refine zap rfl ?_; first | refine zan rfl ?_ | refine zah [] haw rfl rfl rfl sub_nil rfl ?_) | refine zch ?_ | refine zci rfl ?_)
      exact ret_tmp1 rfl ⟨rfl, rfl⟩
  · repeat (first | refine zck ?_ | refine zcl ?_ | refine zcm ?_ | refine zcn ?_)
    first | refine zcp (by kernel_rfl) ?_ | refine zcq PP_mixed (by kernel_rfl) (by kernel_rfl) ?_
    repeat' (refine zap rfl ?_; first | refine zaa 0 rfl rfl rfl ?_ | refine zaj rfl ?_ | refine zak rfl ?_ | refine zan rfl ?_ | (refine zai [] hgr rfl rfl rfl sub_nil ?_; rintro v Γ ⟨rfl, B, rfl, hB⟩; cases B) | refine reg_lenS rfl ?_ | refine zbl rfl rfl (by omega) ?_ | refine zbu rfl ?_ | refine zbv rfl ?_)
    all_goals refine zch ?_
    all_goals repeat (first | refine zck ?_ | refine zcl ?_ | refine zcm ?_ | refine zcn ?_)
    · refine zcj rfl ?_
      have hcost := hB rfl
      obtain ⟨sm1, sm2⟩ := small_of hcost
      have hof := of_spec w0 hk [] _ p oper hp0 sm1 (fun x hx => Nat.le_trans (sm2 x hx) (by omega))
      have hfd := find_spec w0 [] _ p oper hp0 sm1.2.1
      have hck := check_spec w0 hk [] _ p hp0 sm1
      have hE400 : (ofP p oper).1.sm 400 := ofP_sm sm2
      have hdef : ofP p oper = if checkP p ≠ 0 then (zeroE, checkP p) else match findP p oper with
        | none => (zeroE, 10)
        | some o => if (stmtEs p.stores o.body zeroE 0).2 ≠ 0 then (zeroE, (stmtEs p.stores o.body zeroE 0).2) else ((stmtEs p.stores o.body zeroE 0).1, 0) := rfl
      obtain ⟨⟨E, W⟩, hE⟩ : ∃ E, ofP p oper = E := ⟨_, rfl⟩
      rw [hE] at hof hdef hE400
      unfold OSpec at hof
      dsimp only at hof hE400
      have hsame0 := fun sh q (h : RdEfV w0 sh (efV q zeroE) zeroE) => same_spec w0 sh (efV q zeroE) (efV p0 zeroE) zeroE zeroE h RdEfV.zero ((zeroE_sm 0).mono (by omega)) ((zeroE_sm 0).mono (by omega))
      rw [sameE_self] at hsame0
      by_cases hC : checkP p = 0
      rotate_left
      · rw [if_pos hC] at hdef
        cases hdef
        cases hF : findP p oper with
        | none =>
          rw [hF] at hfd
          dsimp only at hfd
          repeat (first | refine zck ?_ | refine zcl ?_ | refine zcm ?_ | refine zcn ?_)
          first | refine zcp (by kernel_rfl) ?_ | refine zcq PP_mixed (by kernel_rfl) (by kernel_rfl) ?_
          repeat' (refine zap rfl ?_; first | refine zan rfl ?_ | refine zan rfl ?_ | refine zaa 0 rfl rfl rfl ?_ | (refine zai [] hof rfl rfl rfl sub_nil ?_; rintro v Γ ⟨q, rfl, rfl⟩) | refine zan rfl ?_ | refine zae 1 rfl rfl rfl rfl rfl rfl rfl ?_ | refine zar (fun nb => ?_))
          all_goals refine zch ?_
          all_goals repeat (first | refine zck ?_ | refine zcl ?_ | refine zcm ?_ | refine zcn ?_)
          refine run_share [1] rfl ?_
          refine run_shareB [0] rfl (fun bl hbl => ?_)
          repeat (first | refine zck ?_ | refine zcl ?_ | refine zcm ?_ | refine zcn ?_)
          first | refine zcp (by kernel_rfl) ?_ | refine zcq PP_mixed (by kernel_rfl) (by kernel_rfl) ?_
          repeat' (refine zap rfl ?_; first | refine zan rfl ?_ | refine zan rfl ?_ | refine zaa 1 rfl rfl rfl ?_ | (refine zai [] hfd rfl rfl rfl sub_nil ?_; rintro v Γ ⟨rfl, rfl⟩) | refine zan rfl ?_ | refine zae 0 rfl rfl rfl rfl rfl rfl rfl ?_ | refine zar (fun nb => ?_))
          all_goals refine zch ?_
          all_goals repeat (first | refine zck ?_ | refine zcl ?_ | refine zcm ?_ | refine zcn ?_)
          repeat (first | refine zck ?_ | refine zcl ?_ | refine zcm ?_ | refine zcn ?_)
          first | refine zcp (by kernel_rfl) ?_ | refine zcq PP_mixed (by kernel_rfl) (by kernel_rfl) ?_
          repeat' (refine zap rfl ?_; first | refine zan rfl ?_ | refine zaa 1 rfl rfl rfl ?_ | refine zah [] hck rfl rfl rfl sub_nil rfl ?_)
          all_goals refine zch ?_
          all_goals repeat (first | refine zck ?_ | refine zcl ?_ | refine zcm ?_ | refine zcn ?_)
          repeat (first | refine zck ?_ | refine zcl ?_ | refine zcm ?_ | refine zcn ?_)
          first | refine zcp (by kernel_rfl) ?_ | refine zcq PP_mixed (by kernel_rfl) (by kernel_rfl) ?_
          repeat' (refine zap rfl ?_; first | refine zak rfl ?_ | refine zan rfl ?_ | refine zbd rfl rfl (by omega) ?_ | refine zbv rfl ?_)
          all_goals refine zch ?_
          all_goals repeat (first | refine zck ?_ | refine zcl ?_ | refine zcm ?_ | refine zcn ?_)
          refine zcj rfl ?_
          repeat (first | refine zck ?_ | refine zcl ?_ | refine zcm ?_ | refine zcn ?_)
          first | refine zcp (by kernel_rfl) ?_ | refine zcq PP_mixed (by kernel_rfl) (by kernel_rfl) ?_
          repeat' (refine zap rfl ?_; first | refine zan rfl ?_ | refine zbe rfl rfl (by omega) ?_)
          all_goals refine zch ?_
          all_goals repeat (first | refine zck ?_ | refine zcl ?_ | refine zcm ?_ | refine zcn ?_)
          refine zci rfl ?_
          repeat (first | refine zck ?_ | refine zcl ?_ | refine zcm ?_ | refine zcn ?_)
          first | refine zcp (by kernel_rfl) ?_ | refine zcq PP_mixed (by kernel_rfl) (by kernel_rfl) ?_
          repeat' (refine zap rfl ?_; first | refine zaj rfl ?_ | refine zan rfl ?_ | refine zan rfl ?_ | refine zaa 0 rfl rfl rfl ?_ | refine zah [] (ofE_spec w0 _ _) rfl rfl rfl sub_nil rfl ?_ | refine zah [] (hsame0 _ q (hbl.mono fun p hp => by simp [hp])) rfl rfl rfl (fun _ h => h) rfl ?_ | refine zah [] haw rfl rfl rfl sub_nil rfl ?_ | refine zce rfl ?_ | refine zbc rfl rfl (by omega) ?_ | refine zbu rfl ?_ | refine zcb rfl ?_)
          all_goals refine zch ?_
          all_goals repeat (first | refine zck ?_ | refine zcl ?_ | refine zcm ?_ | refine zcn ?_)
          refine run_take [] rfl ?_
          exact ret_tmp1 rfl ⟨rfl, rfl⟩
        | some o =>
          rw [hF] at hfd
          dsimp only at hfd
          repeat (first | refine zck ?_ | refine zcl ?_ | refine zcm ?_ | refine zcn ?_)
          first | refine zcp (by kernel_rfl) ?_ | refine zcq PP_mixed (by kernel_rfl) (by kernel_rfl) ?_
          repeat' (refine zap rfl ?_; first | refine zan rfl ?_ | refine zan rfl ?_ | refine zaa 0 rfl rfl rfl ?_ | (refine zai [] hof rfl rfl rfl sub_nil ?_; rintro v Γ ⟨q, rfl, rfl⟩) | refine zan rfl ?_ | refine zae 1 rfl rfl rfl rfl rfl rfl rfl ?_ | refine zar (fun nb => ?_))
          all_goals refine zch ?_
          all_goals repeat (first | refine zck ?_ | refine zcl ?_ | refine zcm ?_ | refine zcn ?_)
          refine run_share [1] rfl ?_
          refine run_shareB [0] rfl (fun bl hbl => ?_)
          repeat (first | refine zck ?_ | refine zcl ?_ | refine zcm ?_ | refine zcn ?_)
          first | refine zcp (by kernel_rfl) ?_ | refine zcq PP_mixed (by kernel_rfl) (by kernel_rfl) ?_
          repeat' (refine zap rfl ?_; first | refine zan rfl ?_ | refine zan rfl ?_ | refine zaa 1 rfl rfl rfl ?_ | (refine zai [] hfd rfl rfl rfl sub_nil ?_; rintro v Γ ⟨rfl, v, rfl, cs, rfl, vp, vb, rfl, r1, r2⟩; obtain ⟨a3, c3, hvp, _⟩ := id r1; obtain ⟨a4, c4, hvb, _⟩ := r2.len; subst hvp; subst hvb) | refine zan rfl ?_ | refine zae 0 rfl rfl rfl rfl rfl rfl rfl ?_ | refine zar (fun nb => ?_))
          all_goals refine zch ?_
          all_goals repeat (first | refine zck ?_ | refine zcl ?_ | refine zcm ?_ | refine zcn ?_)
          repeat (first | refine zck ?_ | refine zcl ?_ | refine zcm ?_ | refine zcn ?_)
          first | refine zcp (by kernel_rfl) ?_ | refine zcq PP_mixed (by kernel_rfl) (by kernel_rfl) ?_
          repeat' (refine zap rfl ?_; first | refine zan rfl ?_ | refine zaa 1 rfl rfl rfl ?_ | refine zah [] hck rfl rfl rfl sub_nil rfl ?_)
          all_goals refine zch ?_
          all_goals repeat (first | refine zck ?_ | refine zcl ?_ | refine zcm ?_ | refine zcn ?_)
          repeat (first | refine zck ?_ | refine zcl ?_ | refine zcm ?_ | refine zcn ?_)
          first | refine zcp (by kernel_rfl) ?_ | refine zcq PP_mixed (by kernel_rfl) (by kernel_rfl) ?_
          repeat' (refine zap rfl ?_; first | refine zak rfl ?_ | refine zan rfl ?_ | refine zbd rfl rfl (by omega) ?_ | refine zbv rfl ?_)
          all_goals refine zch ?_
          all_goals repeat (first | refine zck ?_ | refine zcl ?_ | refine zcm ?_ | refine zcn ?_)
          refine zcj rfl ?_
          repeat (first | refine zck ?_ | refine zcl ?_ | refine zcm ?_ | refine zcn ?_)
          first | refine zcp (by kernel_rfl) ?_ | refine zcq PP_mixed (by kernel_rfl) (by kernel_rfl) ?_
          repeat' (refine zap rfl ?_; first | refine zan rfl ?_ | refine zbe rfl rfl (by omega) ?_)
          all_goals refine zch ?_
          all_goals repeat (first | refine zck ?_ | refine zcl ?_ | refine zcm ?_ | refine zcn ?_)
          refine zci rfl ?_
          repeat (first | refine zck ?_ | refine zcl ?_ | refine zcm ?_ | refine zcn ?_)
          first | refine zcp (by kernel_rfl) ?_ | refine zcq PP_mixed (by kernel_rfl) (by kernel_rfl) ?_
          repeat' (refine zap rfl ?_; first | refine zaj rfl ?_ | refine zan rfl ?_ | refine zan rfl ?_ | refine zaa 0 rfl rfl rfl ?_ | refine zah [] (ofE_spec w0 _ _) rfl rfl rfl sub_nil rfl ?_ | refine zah [] (hsame0 _ q (hbl.mono fun p hp => by simp [hp])) rfl rfl rfl (fun _ h => h) rfl ?_ | refine zah [] haw rfl rfl rfl sub_nil rfl ?_ | refine zce rfl ?_ | refine zbc rfl rfl (by omega) ?_ | refine zbu rfl ?_ | refine zcb rfl ?_)
          all_goals refine zch ?_
          all_goals repeat (first | refine zck ?_ | refine zcl ?_ | refine zcm ?_ | refine zcn ?_)
          refine run_take [] rfl ?_
          exact ret_tmp1 rfl ⟨rfl, rfl⟩
      rw [if_neg (fun h => h hC)] at hdef
      rw [hC] at hck
      cases hF : findP p oper with
      | none =>
        rw [hF] at hfd hdef
        dsimp only at hfd hdef
        cases hdef
        repeat (first | refine zck ?_ | refine zcl ?_ | refine zcm ?_ | refine zcn ?_)
        first | refine zcp (by kernel_rfl) ?_ | refine zcq PP_mixed (by kernel_rfl) (by kernel_rfl) ?_
        repeat' (refine zap rfl ?_; first | refine zan rfl ?_ | refine zan rfl ?_ | refine zaa 0 rfl rfl rfl ?_ | (refine zai [] hof rfl rfl rfl sub_nil ?_; rintro v Γ ⟨q, rfl, rfl⟩) | refine zan rfl ?_ | refine zae 1 rfl rfl rfl rfl rfl rfl rfl ?_ | refine zar (fun nb => ?_))
        all_goals refine zch ?_
        all_goals repeat (first | refine zck ?_ | refine zcl ?_ | refine zcm ?_ | refine zcn ?_)
        refine run_share [1] rfl ?_
        refine run_shareB [0] rfl (fun bl hbl => ?_)
        repeat (first | refine zck ?_ | refine zcl ?_ | refine zcm ?_ | refine zcn ?_)
        first | refine zcp (by kernel_rfl) ?_ | refine zcq PP_mixed (by kernel_rfl) (by kernel_rfl) ?_
        repeat' (refine zap rfl ?_; first | refine zan rfl ?_ | refine zan rfl ?_ | refine zaa 1 rfl rfl rfl ?_ | (refine zai [] hfd rfl rfl rfl sub_nil ?_; rintro v Γ ⟨rfl, rfl⟩) | refine zan rfl ?_ | refine zae 0 rfl rfl rfl rfl rfl rfl rfl ?_ | refine zar (fun nb => ?_))
        all_goals refine zch ?_
        all_goals repeat (first | refine zck ?_ | refine zcl ?_ | refine zcm ?_ | refine zcn ?_)
        repeat (first | refine zck ?_ | refine zcl ?_ | refine zcm ?_ | refine zcn ?_)
        first | refine zcp (by kernel_rfl) ?_ | refine zcq PP_mixed (by kernel_rfl) (by kernel_rfl) ?_
        repeat' (refine zap rfl ?_; first | refine zan rfl ?_ | refine zaa 1 rfl rfl rfl ?_ | refine zah [] hck rfl rfl rfl sub_nil rfl ?_)
        all_goals refine zch ?_
        all_goals repeat (first | refine zck ?_ | refine zcl ?_ | refine zcm ?_ | refine zcn ?_)
        repeat (first | refine zck ?_ | refine zcl ?_ | refine zcm ?_ | refine zcn ?_)
        first | refine zcp (by kernel_rfl) ?_ | refine zcq PP_mixed (by kernel_rfl) (by kernel_rfl) ?_
        repeat' (refine zap rfl ?_; first | refine zaj rfl ?_ | refine zan rfl ?_ | refine zbc rfl rfl (by omega) ?_ | refine zbx rfl ?_ | refine zbu rfl ?_)
        all_goals refine zch ?_
        all_goals repeat (first | refine zck ?_ | refine zcl ?_ | refine zcm ?_ | refine zcn ?_)
        refine zci rfl ?_
        repeat (first | refine zck ?_ | refine zcl ?_ | refine zcm ?_ | refine zcn ?_)
        first | refine zcp (by kernel_rfl) ?_ | refine zcq PP_mixed (by kernel_rfl) (by kernel_rfl) ?_
        repeat' (refine zap rfl ?_; first | refine zan rfl ?_)
        all_goals refine zch ?_
        all_goals repeat (first | refine zck ?_ | refine zcl ?_ | refine zcm ?_ | refine zcn ?_)
        repeat (first | refine zck ?_ | refine zcl ?_ | refine zcm ?_ | refine zcn ?_)
        first | refine zcp (by kernel_rfl) ?_ | refine zcq PP_mixed (by kernel_rfl) (by kernel_rfl) ?_
        repeat' (refine zap rfl ?_; first | refine zan rfl ?_ | refine zbe rfl rfl (by omega) ?_)
        all_goals refine zch ?_
        all_goals repeat (first | refine zck ?_ | refine zcl ?_ | refine zcm ?_ | refine zcn ?_)
        refine zci rfl ?_
        repeat (first | refine zck ?_ | refine zcl ?_ | refine zcm ?_ | refine zcn ?_)
        first | refine zcp (by kernel_rfl) ?_ | refine zcq PP_mixed (by kernel_rfl) (by kernel_rfl) ?_
        repeat' (refine zap rfl ?_; first | refine zaj rfl ?_ | refine zan rfl ?_ | refine zan rfl ?_ | refine zaa 0 rfl rfl rfl ?_ | refine zah [] (ofE_spec w0 _ _) rfl rfl rfl sub_nil rfl ?_ | refine zah [] (hsame0 _ q (hbl.mono fun p hp => by simp [hp])) rfl rfl rfl (fun _ h => h) rfl ?_ | refine zah [] haw rfl rfl rfl sub_nil rfl ?_ | refine zce rfl ?_ | refine zbc rfl rfl (by omega) ?_ | refine zbu rfl ?_ | refine zcb rfl ?_)
        all_goals refine zch ?_
        all_goals repeat (first | refine zck ?_ | refine zcl ?_ | refine zcm ?_ | refine zcn ?_)
        refine run_take [] rfl ?_
        exact ret_tmp1 rfl ⟨rfl, rfl⟩
      | some o =>
        rw [hF] at hfd hdef
        dsimp only at hfd hdef
        obtain ⟨z1, z2, z3, z4⟩ := checkP_zero hC
        have hom : o ∈ p.opers := List.mem_of_find?_eq_some hF
        have hwb := wrongOs_mem z4 o hom
        have hbo := sm2 o hom
        have hR : (E, W) = refSs p.stores ctM o.body zeroE := hdef.trans (refSs_own ctM_ok o.body 1 hwb zeroE).symm
        have hst := fun a am b c cm d => rstmts_own w0 [] p.stores ctM ctM_ok (by omega) (by decide +kernel) a am b c cm d o.body 1 (by omega) hwb
        rw [← hR] at hst
        dsimp only at hst
        have hwd := world_spec w0 [] _ p hp0 (by omega)
        have hsameE := fun sh q r (h : RdEfV w0 sh (efV q E) E) (h2 : RdEfV w0 sh (efV r E) E) => same_spec w0 sh (efV q E) (efV r E) E E h h2 (hE400.mono (by omega)) (hE400.mono (by omega))
        rw [sameE_self] at hsameE
        repeat (first | refine zck ?_ | refine zcl ?_ | refine zcm ?_ | refine zcn ?_)
        first | refine zcp (by kernel_rfl) ?_ | refine zcq PP_mixed (by kernel_rfl) (by kernel_rfl) ?_
        repeat' (refine zap rfl ?_; first | refine zan rfl ?_ | refine zan rfl ?_ | refine zaa 0 rfl rfl rfl ?_ | (refine zai [] hof rfl rfl rfl sub_nil ?_; rintro v Γ ⟨q, rfl, rfl⟩) | refine zan rfl ?_ | refine zae 1 rfl rfl rfl rfl rfl rfl rfl ?_ | refine zar (fun nb => ?_))
        all_goals refine zch ?_
        all_goals repeat (first | refine zck ?_ | refine zcl ?_ | refine zcm ?_ | refine zcn ?_)
        refine run_share [1] rfl ?_
        refine run_shareB [0] rfl (fun bl hbl => ?_)
        repeat (first | refine zck ?_ | refine zcl ?_ | refine zcm ?_ | refine zcn ?_)
        first | refine zcp (by kernel_rfl) ?_ | refine zcq PP_mixed (by kernel_rfl) (by kernel_rfl) ?_
        repeat' (refine zap rfl ?_; first | refine zar (fun t7 => ?_) | refine zan rfl ?_ | refine zan rfl ?_ | refine zaa 1 rfl rfl rfl ?_ | (refine zai [] hfd rfl rfl rfl sub_nil ?_; rintro v Γ ⟨rfl, v, rfl, cs, rfl, vp, vb, rfl, r1, r2⟩; obtain ⟨a3, c3, hvp, _⟩ := id r1; obtain ⟨a4, c4, hvb, _⟩ := r2.len; subst hvp; subst hvb) | refine zan rfl ?_ | refine zae 0 rfl rfl rfl rfl rfl rfl rfl ?_)
        all_goals refine zch ?_
        all_goals repeat (first | refine zck ?_ | refine zcl ?_ | refine zcm ?_ | refine zcn ?_)
        refine run_share [0] rfl ?_
        repeat (first | refine zck ?_ | refine zcl ?_ | refine zcm ?_ | refine zcn ?_)
        first | refine zcp (by kernel_rfl) ?_ | refine zcq PP_mixed (by kernel_rfl) (by kernel_rfl) ?_
        repeat' (refine zap rfl ?_; first | refine zan rfl ?_ | refine zaa 2 rfl rfl rfl ?_ | refine zah [] hck rfl rfl rfl sub_nil rfl ?_)
        all_goals refine zch ?_
        all_goals repeat (first | refine zck ?_ | refine zcl ?_ | refine zcm ?_ | refine zcn ?_)
        repeat (first | refine zck ?_ | refine zcl ?_ | refine zcm ?_ | refine zcn ?_)
        first | refine zcp (by kernel_rfl) ?_ | refine zcq PP_mixed (by kernel_rfl) (by kernel_rfl) ?_
        repeat' (refine zap rfl ?_; first | refine zaj rfl ?_ | refine zan rfl ?_ | refine zbc rfl rfl (by omega) ?_ | refine zbx rfl ?_ | refine zbu rfl ?_)
        all_goals refine zch ?_
        all_goals repeat (first | refine zck ?_ | refine zcl ?_ | refine zcm ?_ | refine zcn ?_)
        refine zcj rfl ?_
        repeat (first | refine zck ?_ | refine zcl ?_ | refine zcm ?_ | refine zcn ?_)
        first | refine zcp (by kernel_rfl) ?_ | refine zcq PP_mixed (by kernel_rfl) (by kernel_rfl) ?_
        repeat' (refine zap rfl ?_; first | refine zan rfl ?_ | refine zbf rfl rfl (by omega) ?_)
        all_goals refine zch ?_
        all_goals repeat (first | refine zck ?_ | refine zcl ?_ | refine zcm ?_ | refine zcn ?_)
        refine zcj rfl ?_
        have hcs := convS_spec w0 100000 (by omega) [] _ o.body (by omega) r2
        repeat (first | refine zck ?_ | refine zcl ?_ | refine zcm ?_ | refine zcn ?_)
        first | refine zcp (by kernel_rfl) ?_ | refine zcq PP_mixed (by kernel_rfl) (by kernel_rfl) ?_
        repeat' (refine zap rfl ?_; first | refine zar (fun t10 => ?_) | refine zan rfl ?_ | refine zan rfl ?_ | refine zaa 0 rfl rfl rfl ?_ | refine zaa 2 rfl rfl rfl ?_ | (refine zai [] hwd rfl rfl rfl sub_nil ?_; rintro v Γ ⟨aa, ca, am, cm, rfl, rfl⟩) | (refine zai [] hcs rfl rfl rfl sub_nil ?_; rintro v Γ ⟨ab, cb, rfl, rfl⟩) | (refine zai [1, 0] (hst aa am ab ca cm cb) rfl rfl rfl sub_nil ?_; rintro v Γ ⟨r, rfl, rfl⟩) | refine zao rfl ?_ | refine zan rfl ?_ | refine zae 3 rfl rfl rfl rfl rfl rfl rfl ?_)
        all_goals refine zch ?_
        all_goals repeat (first | refine zck ?_ | refine zcl ?_ | refine zcm ?_ | refine zcn ?_)
        refine run_share [3] rfl ?_
        refine run_shareB [0] rfl (fun bl2 hbl2 => ?_)
        repeat (first | refine zck ?_ | refine zcl ?_ | refine zcm ?_ | refine zcn ?_)
        first | refine zcp (by kernel_rfl) ?_ | refine zcq PP_mixed (by kernel_rfl) (by kernel_rfl) ?_
        repeat' (refine zap rfl ?_; first | refine zaj rfl ?_ | refine zan rfl ?_ | refine zan rfl ?_ | refine zaa 0 rfl rfl rfl ?_ | refine zaa 2 rfl rfl rfl ?_ | refine zah [] (ofE_spec w0 _ _) rfl rfl rfl sub_nil rfl ?_ | refine zah [] (hsameE _ q r (hbl.mono fun p hp => by simp [hp]) (hbl2.mono fun p hp => by simp [hp])) rfl rfl rfl (fun _ h => h) rfl ?_ | refine zah [] haw rfl rfl rfl sub_nil rfl ?_ | refine zce rfl ?_ | refine zbc rfl rfl (by omega) ?_ | refine zbu rfl ?_)
        all_goals refine zch ?_
        all_goals repeat (first | refine zck ?_ | refine zcl ?_ | refine zcm ?_ | refine zcn ?_)
        refine run_take [] rfl ?_
        exact ret_tmp1 rfl ⟨rfl, rfl⟩
    · repeat' (first | refine zck ?_ | refine zcp (by kernel_rfl) ?_ | (refine zap rfl ?_; first | refine zan rfl ?_ | refine zah [] haw rfl rfl rfl sub_nil rfl ?_) | refine zch ?_ | refine zci rfl ?_)
      exact ret_tmp1 rfl ⟨rfl, rfl⟩
end Go.Proofs.YtagmagnkigjggaaGreatDoor

namespace Go.Proofs.YtagmagnkigjggaaGreatDoor
open Go.Vc Sim Go.ChangeShapes Go.WideShapes Go.RowKit
set_option maxRecDepth 100000
theorem in_prog {H : Type} {enc : TypeId × Value → H} {w : World} {base : Nat} {spare : Nat → Bool} {held : Bool} {r : Reach} {b0 : Nat} {v : Value} {d : DataW H} {ps : List MemPlace}
    (hval : Value.okWide Tryz.prog w r b0 25 v) (h : DataW.Trod enc Tryz.prog w base spare held 25 v d ps) (hw : ∀ q ∈ d.weights Tryz.prog 25, q ≤ reachBytes) :
    ∃ p : PP', RdP w [] v p ∧ p.sz := by
  obtain ⟨fuel, hf⟩ := h
  simp only [Value.okWide, Tryz.underlying25] at hval
  obtain ⟨cs, rfl, _⟩ := hval
  have hf : DataW.trod enc Tryz.prog w base spare held fuel 25 cs.toList = some (d, ps) := hf
  obtain ⟨a, b, p, e, h1, h2⟩ := in_pp fuel _ _ hf hw
  have e2 : cs = #[a, b] := by rw [← Array.toList_inj, e]
  rw [e2]
  exact ⟨p, h1, h2⟩
end Go.Proofs.YtagmagnkigjggaaGreatDoor

