import Derived.OpenShut
import Derived.Test.YtfnjeldpfilplaaGreatDoorPart9
import Derived.Test.YtfnjeldpfilplaaGreatDoorPart3
import Derived.Test.YtfnjeldpfilplaaGreatDoorPart1
import Derived.Test.YtfnjeldpfilplaaGreatDoorKit
import Derived.Test.YtfnjeldpfilplaaGreatDoorPart7
import Derived.Test.YtfnjeldpfilplaaGreatDoorPart8
import Derived.Test.YtfnjeldpfilplaaGreatDoorPart6
import Derived.Test.YtfnjeldpfilplaaGreatDoorPart5
/- Lemmas and walks for the claims of this seat (own work): Gt2 Gp0 Rp1 Eo4 Pa0 Pt2 Pa1 Eo5 Eo6 Rn1 Rn2 Eo7 Eo8 Yr1 Yr2 Yr3 Yw0 Yw1. -/
namespace Sim
def PO.cost (o : PO) : Nat := 1 + PS.sizeL o.body + o.params.length
def PO.costL : List PO → Nat
  | [] => 0
  | o :: l => o.cost + PO.costL l
theorem PO.costL_mem : ∀ {l : List PO} {o : PO}, o ∈ l → o.cost ≤ PO.costL l
  | x :: l, o, h => by
    unfold PO.costL
    rcases List.mem_cons.1 h with rfl | h
    · omega
    · have := PO.costL_mem h; omega
theorem PO.costL_len : ∀ l : List PO, l.length ≤ PO.costL l
  | [] => Nat.zero_le _
  | x :: l => by have := PO.costL_len l; unfold PO.costL PO.cost; simp only [List.length_cons]; omega
theorem PO.costL_snoc : ∀ {l : List PO} {j : Nat} {x : PO}, l[j]? = some x → PO.costL (l.take (j + 1)) = PO.costL (l.take j) + x.cost
  | e :: l, 0, x, h => by simp at h; subst h; simp [PO.costL]
  | e :: l, j + 1, x, h => by
    have := PO.costL_snoc (l := l) (j := j) (x := x) (by simpa using h)
    rw [List.take_succ_cons, List.take_succ_cons, PO.costL, PO.costL, this]; omega
def PP'.sz (p : PP') : Prop := (∀ d ∈ p.stores, szB d.1 ∧ szB d.2) ∧ p.stores.length ≤ 1125899906842624 ∧ p.opers.length ≤ 1125899906842624 ∧ ∀ o ∈ p.opers, szB o.name ∧ (∀ s ∈ o.params, szB s) ∧ o.params.length ≤ 1125899906842624 ∧ PS.szL o.body
end Sim
namespace Go.Proofs.YtfnjeldpfilplaaGreatDoor
open Go.Vc Sim
set_option maxHeartbeats 8000000 in
theorem greatP_spec (w0 : World) (sh : Shared) (v : Value) (p : PP') (hp : RdP w0 sh v p) (hz : p.sz) :
    Vc.Fn PP w0 sh 9 [v] [] (fun v Γ => Γ = [] ∧ ∃ B, v = .bool B ∧ (B = false → PO.costL p.opers + p.stores.length ≤ 400)) := by
  obtain ⟨vs, vo, hv, h1, h2⟩ := hp
  subst hv
  obtain ⟨a1, c1, hvs, hc1, _⟩ := id h1
  obtain ⟨a2, c2, hvo, hc2⟩ := h2.len
  subst hvs; subst hvo
  obtain ⟨z1, z2, z3, z4⟩ := hz
  refine fn_of_run en9 fn9 rfl rfl rfl ?_
  repeat (first | refine zck ?_ | refine zcl ?_ | refine zcm ?_ | refine zcn ?_)
  first | refine zcp (by kernel_rfl) ?_ | refine zcq PP_mixed (by kernel_rfl) (by kernel_rfl) ?_
  repeat' (refine zap rfl ?_; first | refine zan rfl ?_ | refine zaq (cs := [_, _]) rfl (fun nb => ?_))
  all_goals refine zch ?_
  all_goals repeat (first | refine zck ?_ | refine zcl ?_ | refine zcm ?_ | refine zcn ?_)
  refine run_share [0] rfl ?_
  obtain ⟨be, hbe⟩ : ∃ b, b = nb := ⟨_, rfl⟩
  subst hbe
  repeat (first | refine zck ?_ | refine zcl ?_ | refine zcm ?_ | refine zcn ?_)
  first | refine zcp (by kernel_rfl) ?_ | refine zcq PP_mixed (by kernel_rfl) (by kernel_rfl) ?_
  repeat' (refine zap rfl ?_; first | refine zan rfl ?_)
  all_goals refine zch ?_
  all_goals repeat (first | refine zck ?_ | refine zcl ?_ | refine zcm ?_ | refine zcn ?_)
  repeat (first | refine zck ?_ | refine zcl ?_ | refine zcm ?_ | refine zcn ?_)
  first | refine zcp (by kernel_rfl) ?_ | refine zcq PP_mixed (by kernel_rfl) (by kernel_rfl) ?_
  repeat' (refine zap rfl ?_; first | refine zan rfl ?_)
  all_goals refine zch ?_
  all_goals repeat (refine zck ?_)
  refine run_bind_eq2 (σ := { L : Int // -2000000000000000000 ≤ L ∧ L ≤ 400 ∧ (0 ≤ L → L + PO.costL p.opers ≤ 400) }) (l' := fun s => [(1, .pointer (some ⟨be, 0, none⟩)), (3, .int .i64 s.1)]) (Γ' := fun _ => []) ?_ ?_
  · refine zcl ?_
    refine run_loop (S := Nat × Int) (fun s => [(1, .pointer (some ⟨be, 0, none⟩)), (3, .int .i64 s.2), (4, .int .i64 s.1)])
      (fun s Γ => Γ = [] ∧ s.1 ≤ p.opers.length ∧ -2000000000000000000 ≤ s.2 ∧ s.2 ≤ 400 ∧ (0 ≤ s.2 → s.2 + PO.costL (p.opers.take s.1) ≤ 400)) (fun s => p.opers.length - s.1) (0, 400)
      ⟨rfl, rfl, rfl, trivial⟩ ⟨rfl, Nat.zero_le _, by dsimp only; omega, by dsimp only; omega, fun _ => by simp [PO.costL]⟩ ?_
    rintro ⟨j, L⟩ Γ junk ⟨rfl, q1, q2, q3, q4⟩
    dsimp only at q1 q2 q3 q4 ⊢
    by_cases hj : j < p.opers.length ∧ 0 ≤ L
    · obtain ⟨hj, hL⟩ := hj
      obtain ⟨x, hx⟩ : ∃ x, p.opers[j]? = some x := ⟨_, List.getElem?_eq_getElem hj⟩
      obtain ⟨b, off, cc, T, fr, cs, rfl, e2, e3, ⟨vp, vb, rfl, r1, r2⟩, e5⟩ := h2.at hx
      have hxm := List.mem_iff_getElem?.2 ⟨_, hx⟩
      obtain ⟨y1, y2, y3, y4⟩ := z4 x hxm
      unfold szB at y1
      have k1 := fun L1 h1 h2 => room_spec w0 (PS.sizeL x.body) sh vb x.body L1 (Nat.le_refl _) y4 r2 h1 h2
      obtain ⟨a3, c3, hvp, _⟩ := id r1
      obtain ⟨a4, c4, hvb, _⟩ := r2.len
      subst hvp; subst hvb
      have hsn := PO.costL_snoc hx
      have hq4 := q4 hL
      have em : ∀ hF Γ w, Sh ((be, Obj.cells (List.toArray [Value.slice a1 p.stores.length c1, Value.slice (some ⟨b, off, none⟩) p.opers.length c2]) 33 (0, 0)) :: sh) hF → St w0 hF Γ w → w.heap[b]? = some (.cells cc T fr) := fun hF Γ w h1 h2 => e2 hF Γ w (fun p hp => h1 p (by simp [hp])) h2
      repeat (first | refine zck ?_ | refine zcl ?_ | refine zcm ?_ | refine zcn ?_)
      first | refine zcp (by kernel_rfl) ?_ | refine zcq PP_mixed (by kernel_rfl) (by kernel_rfl) ?_
      repeat' (refine zap rfl ?_; first | refine zaj rfl ?_ | refine zan rfl ?_ | refine zaa 0 rfl rfl rfl ?_ | refine zce rfl ?_ | refine zao rfl ?_ | refine zbg rfl rfl (by omega) ?_ | refine zbm rfl rfl (by omega) ?_ | refine zbu rfl ?_)
      all_goals refine zch ?_
      all_goals repeat (first | refine zck ?_ | refine zcl ?_ | refine zcm ?_ | refine zcn ?_)
      refine zci rfl ?_
      repeat (first | refine zck ?_ | refine zcl ?_ | refine zcm ?_ | refine zcn ?_)
      first | refine zcp (by kernel_rfl) ?_ | refine zcq PP_mixed (by kernel_rfl) (by kernel_rfl) ?_
      repeat' (refine zap rfl ?_; first | refine zad rfl em (e5 2 _ rfl _ (by omega)) ?_ | refine zad rfl em (e5 1 _ rfl _ (by omega)) ?_ | refine zad rfl em (e5 0 _ rfl _ (by omega)) ?_ | refine zan rfl ?_ | refine zan rfl ?_ | refine zaa 0 rfl rfl rfl ?_ | refine reg_lenS rfl ?_ | refine zce rfl ?_ | (refine zai [] (k1 _ (by omega) (by omega)) rfl rfl rfl (fun p hp => by simp [hp]) ?_; rintro v Γ ⟨rfl, L2, rfl, p1, p2, p3⟩) | refine zce rfl ?_ | refine zao rfl ?_ | refine zav rfl rfl (by omega) ?_ | refine zax rfl rfl (by omega) ?_ | refine zas rfl rfl (by omega) ?_)
      all_goals refine zch ?_
      all_goals repeat (first | refine zck ?_ | refine zcl ?_ | refine zcm ?_ | refine zcn ?_)
      have hcost : 0 ≤ L2 → L2 + PO.costL (p.opers.take (j + 1)) ≤ 400 := fun h => by rw [hsn]; have := p3 h; unfold PO.cost; omega
      repeat (first | refine zck ?_ | refine zcl ?_ | refine zcm ?_ | refine zcn ?_)
      first | refine zcp (by kernel_rfl) ?_ | refine zcq PP_mixed (by kernel_rfl) (by kernel_rfl) ?_
      repeat' (refine zap rfl ?_; first | refine zan rfl ?_)
      all_goals refine zch ?_
      all_goals repeat (refine zck ?_)
      refine run_bind_eq2 (σ := { L : Int // -2000000000000000000 ≤ L ∧ L ≤ L2 }) (l' := fun s => [(1, .pointer (some ⟨be, 0, none⟩)), (3, .int .i64 s.1), (4, .int .i64 j)]) (Γ' := fun _ => []) ?_ ?_
      · refine zcl ?_
        refine run_loop (S := Nat × Int) (fun s => [(1, .pointer (some ⟨be, 0, none⟩)), (3, .int .i64 s.2), (4, .int .i64 j), (5, .int .i64 s.1)])
          (fun s Γ => Γ = [] ∧ s.1 ≤ x.params.length ∧ s.1 ≤ 20 ∧ -200000000000000000 - 50000000000000000 * (s.1 : Int) ≤ s.2 ∧ s.2 ≤ L2) (fun s => x.params.length - s.1) (0, L2)
          ⟨rfl, rfl, rfl, rfl, trivial⟩ ⟨rfl, Nat.zero_le _, by dsimp only; omega, by dsimp only; omega, by dsimp only; omega⟩ ?_
        rintro ⟨i, L3⟩ Γ junk ⟨rfl, w1, w2, w3, w4⟩
        dsimp only at w1 w2 w3 w4 ⊢
        by_cases hi : i < x.params.length ∧ i < 20
        · obtain ⟨hi, hi2⟩ := hi
          obtain ⟨s, hs⟩ : ∃ s, x.params[i]? = some s := ⟨_, List.getElem?_eq_getElem hi⟩
          obtain ⟨b3, off3, cc3, T3, fr3, rfl, g2, _, g3⟩ := r1.cells hs
          have hsz := y2 s (List.mem_iff_getElem?.2 ⟨_, hs⟩)
          unfold szB at hsz
          have em3 : ∀ hF Γ w, Sh ((be, Obj.cells (List.toArray [Value.slice a1 p.stores.length c1, Value.slice (some ⟨b, off, none⟩) p.opers.length c2]) 33 (0, 0)) :: sh) hF → St w0 hF Γ w → w.heap[b3]? = some (.cells cc3 T3 fr3) := fun hF Γ w h1 h2 => g2 hF Γ w (fun p hp => h1 p (by simp [hp])) h2
          repeat' (first | refine zck ?_ | refine zcp (by kernel_rfl) ?_ | refine zcm ?_ | refine zcl ?_ | refine zcn ?_ | (refine zap rfl ?_; first | refine zad rfl em (e5 1 _ rfl _ (by omega)) ?_ | refine zad rfl em3 (g3 0 _ rfl _ (by omega)) ?_ | refine zaj rfl ?_ | refine zan rfl ?_ | refine zan rfl ?_ | refine zaa 0 rfl rfl rfl ?_ | refine reg_lenS rfl ?_ | refine zce rfl ?_ | refine zao rfl ?_ | refine zbg rfl rfl (by omega) ?_ | refine zau rfl rfl (by omega) ?_ | refine zav rfl rfl (by omega) ?_ | refine zax rfl rfl (by omega) ?_ | refine zbu rfl ?_ | refine zas rfl rfl (by omega) ?_) | refine zch ?_ | refine zci rfl ?_)
          exact cut_end ⟨rfl, (i + 1, L3 - ((s.size : Nat) : Int) / 100), ⟨rfl, rfl, rfl, int_eq (by dsimp only; omega), trivial⟩, ⟨rfl, by dsimp only; omega, by dsimp only; omega, by dsimp only; omega, by dsimp only; omega⟩, by dsimp only; omega⟩
        · by_cases hi1 : i < x.params.length
          · repeat' (first | refine zck ?_ | refine zcp (by kernel_rfl) ?_ | (refine zap rfl ?_; first | refine zad rfl em (e5 1 _ rfl _ (by omega)) ?_ | refine zaj rfl ?_ | refine zan rfl ?_ | refine zaa 0 rfl rfl rfl ?_ | refine zce rfl ?_ | refine zao rfl ?_ | refine zbg rfl rfl (by omega) ?_ | refine zbh rfl rfl (by omega) ?_ | refine zbu rfl ?_ | refine zas rfl rfl (by omega) ?_) | refine zch ?_ | refine zcj rfl ?_)
            refine cut_exit rfl rfl ?_
            exact cut_end ⟨rfl, ⟨L3, by omega, w4⟩, ⟨rfl, rfl, rfl, trivial⟩, rfl⟩
          · repeat' (first | refine zck ?_ | refine zcp (by kernel_rfl) ?_ | (refine zap rfl ?_; first | refine zad rfl em (e5 1 _ rfl _ (by omega)) ?_ | refine zak rfl ?_ | refine zan rfl ?_ | refine zaa 0 rfl rfl rfl ?_ | refine zce rfl ?_ | refine zao rfl ?_ | refine zbh rfl rfl (by omega) ?_ | refine zbv rfl ?_ | refine zas rfl rfl (by omega) ?_) | refine zch ?_ | refine zcj rfl ?_)
            refine cut_exit rfl rfl ?_
            exact cut_end ⟨rfl, ⟨L3, by omega, w4⟩, ⟨rfl, rfl, rfl, trivial⟩, rfl⟩
      · rintro ⟨L3, w1, w2⟩ junk
        dsimp only
        repeat' (first | refine zcp (by kernel_rfl) ?_ | refine zcn ?_ | (refine zap rfl ?_; first | refine zan rfl ?_ | refine zan rfl ?_ | refine zau rfl rfl (by omega) ?_) | refine zch ?_)
        exact cut_end ⟨rfl, (j + 1, L3), ⟨rfl, rfl, int_eq (by dsimp only; omega), trivial⟩, ⟨rfl, by dsimp only; omega, by dsimp only; omega, by dsimp only; omega, fun h => by dsimp only at h ⊢; have := hcost (by omega); omega⟩, by dsimp only; omega⟩
    · by_cases hj1 : j < p.opers.length
      · have hL : L < 0 := by omega
        repeat' (first | refine zck ?_ | refine zcp (by kernel_rfl) ?_ | (refine zap rfl ?_; first | refine zaj rfl ?_ | refine zan rfl ?_ | refine zaa 0 rfl rfl rfl ?_ | refine zce rfl ?_ | refine zao rfl ?_ | refine zbg rfl rfl (by omega) ?_ | refine zbn rfl rfl (by omega) ?_ | refine zbu rfl ?_) | refine zch ?_ | refine zcj rfl ?_)
        refine cut_exit rfl rfl ?_
        exact cut_end ⟨rfl, ⟨L, q2, q3, fun h => by omega⟩, ⟨rfl, rfl, trivial⟩, rfl⟩
      · repeat' (first | refine zck ?_ | refine zcp (by kernel_rfl) ?_ | (refine zap rfl ?_; first | refine zak rfl ?_ | refine zan rfl ?_ | refine zaa 0 rfl rfl rfl ?_ | refine zce rfl ?_ | refine zao rfl ?_ | refine zbh rfl rfl (by omega) ?_ | refine zbv rfl ?_) | refine zch ?_ | refine zcj rfl ?_)
        refine cut_exit rfl rfl ?_
        exact cut_end ⟨rfl, ⟨L, q2, q3, fun h => by have := q4 h; rwa [List.take_of_length_le (by omega)] at this⟩, ⟨rfl, rfl, trivial⟩, rfl⟩
  · rintro ⟨L1, w1, w2, w3⟩ junk
    dsimp only
    repeat (first | refine zck ?_ | refine zcl ?_ | refine zcm ?_ | refine zcn ?_)
    first | refine zcp (by kernel_rfl) ?_ | refine zcq PP_mixed (by kernel_rfl) (by kernel_rfl) ?_
    repeat' (refine zap rfl ?_; first | refine zan rfl ?_)
    all_goals refine zch ?_
    all_goals repeat (first | refine zck ?_ | refine zcl ?_ | refine zcm ?_ | refine zcn ?_)
    refine run_loop (S := Nat × Int) (fun s => [(1, .pointer (some ⟨be, 0, none⟩)), (3, .int .i64 s.2), (6, .int .i64 s.1)])
      (fun s Γ => Γ = [] ∧ s.1 ≤ p.stores.length ∧ -2000000000000000000 ≤ s.2 ∧ s.2 ≤ L1 ∧ (0 ≤ s.2 → s.2 + (s.1 : Int) ≤ L1)) (fun s => p.stores.length - s.1) (0, L1)
      ⟨rfl, rfl, rfl, trivial⟩ ⟨rfl, Nat.zero_le _, by dsimp only; omega, by dsimp only; omega, fun _ => by simp⟩ ?_
    rintro ⟨j, L⟩ Γ junk ⟨rfl, q1, q2, q3, q4⟩
    dsimp only at q1 q2 q3 q4 ⊢
    by_cases hj : j < p.stores.length ∧ 0 ≤ L
    · obtain ⟨hj, hL⟩ := hj
      obtain ⟨x, hx⟩ : ∃ x, p.stores[j]? = some x := ⟨_, List.getElem?_eq_getElem hj⟩
      obtain ⟨b, off, cc, T, fr, rfl, e2, _, e5⟩ := h1.cells hx
      obtain ⟨y1, y2⟩ := z1 x (List.mem_iff_getElem?.2 ⟨_, hx⟩)
      unfold szB at y1 y2
      have hq4 := q4 hL
      have em : ∀ hF Γ w, Sh ((be, Obj.cells (List.toArray [Value.slice (some ⟨b, off, none⟩) p.stores.length c1, Value.slice a2 p.opers.length c2]) 33 (0, 0)) :: sh) hF → St w0 hF Γ w → w.heap[b]? = some (.cells cc T fr) := fun hF Γ w h1 h2 => e2 hF Γ w (fun p hp => h1 p (by simp [hp])) h2
      repeat' (first | refine zck ?_ | refine zcp (by kernel_rfl) ?_ | refine zcq PP_mixed (by kernel_rfl) (by kernel_rfl) ?_ | refine zcm ?_ | refine zcl ?_ | refine zcn ?_ | (refine zap rfl ?_; first | refine zad rfl em (e5 0 _ rfl _ (by omega)) ?_ | refine zad rfl em (e5 1 _ rfl _ (by omega)) ?_ | refine zaj rfl ?_ | refine zan rfl ?_ | refine zan rfl ?_ | refine zaa 0 rfl rfl rfl ?_ | refine reg_lenS rfl ?_ | refine zce rfl ?_ | refine zao rfl ?_ | refine zbg rfl rfl (by omega) ?_ | refine zbm rfl rfl (by omega) ?_ | refine zau rfl rfl (by omega) ?_ | refine zav rfl rfl (by omega) ?_ | refine zax rfl rfl (by omega) ?_ | refine zbu rfl ?_ | refine zas rfl rfl (by omega) ?_) | refine zch ?_ | refine zci rfl ?_)
      exact cut_end ⟨rfl, (j + 1, L - 1 - ((x.1.size : Nat) : Int) / 100 - ((x.2.size : Nat) : Int) / 100), ⟨rfl, rfl, int_eq (by dsimp only; omega), trivial⟩, ⟨rfl, by dsimp only; omega, by dsimp only; omega, by dsimp only; omega, fun h => by dsimp only at h ⊢; omega⟩, by dsimp only; omega⟩
    · by_cases hj1 : j < p.stores.length
      · have hL : L < 0 := by omega
        repeat' (first | refine zck ?_ | refine zcp (by kernel_rfl) ?_ | (refine zap rfl ?_; first | refine zaj rfl ?_ | refine zan rfl ?_ | refine zaa 0 rfl rfl rfl ?_ | refine zce rfl ?_ | refine zao rfl ?_ | refine zbg rfl rfl (by omega) ?_ | refine zbn rfl rfl (by omega) ?_ | refine zbu rfl ?_) | refine zch ?_ | refine zcj rfl ?_)
        refine cut_exit rfl rfl ?_
        repeat' (first | refine zck ?_ | refine zcp (by kernel_rfl) ?_ | (refine zap rfl ?_; first | refine zan rfl ?_ | refine zan rfl ?_ | refine zbg rfl rfl (by omega) ?_) | refine zch ?_)
        exact ret_tmp1 rfl ⟨rfl, true, rfl, fun h => by cases h⟩
      · repeat' (first | refine zck ?_ | refine zcp (by kernel_rfl) ?_ | (refine zap rfl ?_; first | refine zak rfl ?_ | refine zan rfl ?_ | refine zaa 0 rfl rfl rfl ?_ | refine zce rfl ?_ | refine zao rfl ?_ | refine zbh rfl rfl (by omega) ?_ | refine zbv rfl ?_) | refine zch ?_ | refine zcj rfl ?_)
        refine cut_exit rfl rfl ?_
        repeat' (first | refine zck ?_ | refine zcp (by kernel_rfl) ?_ | (refine zap rfl ?_; first | refine zan rfl ?_ | refine zan rfl ?_ | refine zbq rfl rfl ?_) | refine zch ?_)
        refine ret_tmp1 rfl ⟨rfl, _, rfl, fun h => ?_⟩
        have h3 := of_decide_eq_false h
        have h4 := q4 (by omega)
        have h5 := w3 (by omega)
        have h6 : j = p.stores.length := by omega
        omega
end Go.Proofs.YtfnjeldpfilplaaGreatDoor

namespace Go.Vc
open Sim
theorem RdEs.of {w0 : World} {sh : Shared} : ∀ {cl : List (List Value)}, (∀ c ∈ cl, c.length = 6 ∧ ∃ e : PE, RdE w0 sh e c ∧ e.sz) → ∃ l, RdEs w0 sh l cl ∧ PE.szL l
  | [], _ => ⟨[], by unfold RdEs; rfl, by unfold PE.szL; trivial⟩
  | c :: cl, h => by
    obtain ⟨_, e, h1, h2⟩ := h c (.head _)
    obtain ⟨l, h3, h4⟩ := RdEs.of fun c hc => h c (.tail _ hc)
    exact ⟨e :: l, by unfold RdEs; exact ⟨c, cl, rfl, h1, h3⟩, by unfold PE.szL; exact ⟨h2, h4⟩⟩
theorem RdSs.of {w0 : World} {sh : Shared} : ∀ {cl : List (List Value)}, (∀ c ∈ cl, c.length = 11 ∧ ∃ e : PS, RdS w0 sh e c ∧ e.sz) → ∃ l, RdSs w0 sh l cl ∧ PS.szL l
  | [], _ => ⟨[], by unfold RdSs; rfl, by unfold PS.szL; trivial⟩
  | c :: cl, h => by
    obtain ⟨_, e, h1, h2⟩ := h c (.head _)
    obtain ⟨l, h3, h4⟩ := RdSs.of fun c hc => h c (.tail _ hc)
    exact ⟨e :: l, by unfold RdSs; exact ⟨c, cl, rfl, h1, h3⟩, by unfold PS.szL; exact ⟨h2, h4⟩⟩
def PO.sz (o : PO) : Prop := szB o.name ∧ (∀ s ∈ o.params, szB s) ∧ o.params.length ≤ 1125899906842624 ∧ PS.szL o.body
theorem RdOs.of {w0 : World} {sh : Shared} : ∀ {cl : List (List Value)}, (∀ c ∈ cl, c.length = 3 ∧ ∃ e : PO, RdO w0 sh e c ∧ PO.sz e) → ∃ l, RdOs w0 sh l cl ∧ ∀ o ∈ l, PO.sz o
  | [], _ => ⟨[], rfl, fun o h => by simp at h⟩
  | c :: cl, h => by
    obtain ⟨_, e, h1, h2⟩ := h c (.head _)
    obtain ⟨l, h3, h4⟩ := RdOs.of fun c hc => h c (.tail _ hc)
    refine ⟨e :: l, ⟨c, cl, rfl, h1, h3⟩, fun o ho => ?_⟩
    rcases List.mem_cons.1 ho with rfl | ho
    · exact h2
    · exact h4 o ho
end Go.Vc
namespace Go.Proofs.YtfnjeldpfilplaaGreatDoor
open Go.Vc Sim
set_option maxRecDepth 100000
section
variable {H : Type} {enc : TypeId × Value → H} {w : World} {base : Nat} {spare : Nat → Bool} {held : Bool}
theorem in_pe : ∀ (n : Nat) (cs : List Value) (y : DataW H × List MemPlace), DataW.trod enc Tryz.prog w base spare held n 91 cs = some y → (∀ q ∈ y.1.weights Tryz.prog 91, q ≤ reachBytes) → cs.length = 6 ∧ ∃ e : PE, RdE w [] e cs ∧ e.sz := by
  intro n
  induction n using Nat.strongRecOn with
  | _ n ih =>
  intro cs y h hw
  obtain ⟨xs, n', hn', hy, hlen, hxl, hf⟩ := DataW.trod_struct Tryz.underlying91 h
  have cI : Tryz.prog.cellsOf 3 = 1 := by kernel_rfl
  have cI6 : Tryz.prog.cellsOf 2 = 1 := by kernel_rfl
  have cS : Tryz.prog.cellsOf 9 = 1 := by kernel_rfl
  have cL : Tryz.prog.cellsOf 89 = 1 := by kernel_rfl
  have c6 : Tryz.prog.cellsOf 91 = 6 := by kernel_rfl
  rw [c6] at hlen
  have f0 : DataW.trod enc Tryz.prog w base spare held n' 3 ((cs.drop 0).take (Tryz.prog.cellsOf 3)) = xs[0]? := hf 0 _ rfl
  have f1 : DataW.trod enc Tryz.prog w base spare held n' 2 ((cs.drop 1).take (Tryz.prog.cellsOf 2)) = xs[1]? := hf 1 _ rfl
  have f2 : DataW.trod enc Tryz.prog w base spare held n' 9 ((cs.drop 2).take (Tryz.prog.cellsOf 9)) = xs[2]? := hf 2 _ rfl
  have f3 : DataW.trod enc Tryz.prog w base spare held n' 9 ((cs.drop 3).take (Tryz.prog.cellsOf 9)) = xs[3]? := hf 3 _ rfl
  have f4 : DataW.trod enc Tryz.prog w base spare held n' 89 ((cs.drop 4).take (Tryz.prog.cellsOf 89)) = xs[4]? := hf 4 _ rfl
  have f5 : DataW.trod enc Tryz.prog w base spare held n' 89 ((cs.drop 5).take (Tryz.prog.cellsOf 89)) = xs[5]? := hf 5 _ rfl
  rw [cI] at f0
  rw [cI6] at f1
  rw [cS] at f2 f3
  rw [cL] at f4 f5
  match cs, hlen with
  | [a0, a1, a2, a3, a4, a5], _ =>
    match xs, hxl with
    | [y0, y1, y2, y3, y4, y5], _ =>
      have hwt : y.1.weights Tryz.prog 91 = y0.1.weights Tryz.prog 3 ++ (y1.1.weights Tryz.prog 2 ++ (y2.1.weights Tryz.prog 9 ++ (y3.1.weights Tryz.prog 9 ++ (y4.1.weights Tryz.prog 89 ++ (y5.1.weights Tryz.prog 89 ++ []))))) := by
        rw [hy]
        simp only [DataW.weights, Tryz.underlying91]
        rfl
      rw [hwt] at hw
      obtain ⟨k0, e0, _⟩ := DataW.trod_int Tryz.underlying3 (show DataW.trod _ _ _ _ _ _ n' _ [a0] = some y0 from f0)
      obtain ⟨k1, e1, _⟩ := DataW.trod_int Tryz.underlying2 (show DataW.trod _ _ _ _ _ _ n' _ [a1] = some y1 from f1)
      obtain ⟨s2, e2, z2⟩ := in_strW Tryz.underlying9 (show DataW.trod _ _ _ _ _ _ n' _ [a2] = some y2 from f2) (fun q hq => hw q (by simp [hq]))
      obtain ⟨s3, e3, z3⟩ := in_strW Tryz.underlying9 (show DataW.trod _ _ _ _ _ _ n' _ [a3] = some y3 from f3) (fun q hq => hw q (by simp [hq]))
      obtain ⟨v4, l4, e4, r4, p4, _⟩ := in_sliceF (fun c : List Value => c) (fun c => c.length = 6 ∧ ∃ e : PE, RdE w [] e c ∧ e.sz) Tryz.underlying89 c6 (by decide) (show DataW.trod _ _ _ _ _ _ n' _ [a4] = some y4 from f4) (fun q hq => hw q (by simp [hq])) (fun m hm cs y hy hq => ⟨cs, ih m (by omega) cs y hy hq, rfl⟩)
      obtain ⟨v5, l5, e5, r5, p5, _⟩ := in_sliceF (fun c : List Value => c) (fun c => c.length = 6 ∧ ∃ e : PE, RdE w [] e c ∧ e.sz) Tryz.underlying89 c6 (by decide) (show DataW.trod _ _ _ _ _ _ n' _ [a5] = some y5 from f5) (fun q hq => hw q (by simp [hq])) (fun m hm cs y hy hq => ⟨cs, ih m (by omega) cs y hy hq, rfl⟩)
      simp only [List.cons.injEq, and_true] at e0 e1 e2 e3 e4 e5
      subst e0; subst e1; subst e2; subst e3; subst e4; subst e5
      obtain ⟨xs4, q4, t4⟩ := RdEs.of p4
      obtain ⟨xs5, q5, t5⟩ := RdEs.of p5
      have hR : reachBytes = 140737488351232 := rfl
      refine ⟨rfl, .mk k0 k1 s2 s3 xs4 xs5, RdE.of (e := .mk k0 k1 s2 s3 xs4 xs5) ⟨l4, r4.rd, q4⟩ ⟨l5, r5.rd, q5⟩, ?_⟩
      unfold PE.sz szB
      exact ⟨by omega, by omega, t4, t5⟩
theorem in_ps : ∀ (n : Nat) (cs : List Value) (y : DataW H × List MemPlace), DataW.trod enc Tryz.prog w base spare held n 93 cs = some y → (∀ q ∈ y.1.weights Tryz.prog 93, q ≤ reachBytes) → cs.length = 11 ∧ ∃ e : PS, RdS w [] e cs ∧ e.sz := by
  intro n
  induction n using Nat.strongRecOn with
  | _ n ih =>
  intro cs y h hw
  obtain ⟨xs, n', hn', hy, hlen, hxl, hf⟩ := DataW.trod_struct Tryz.underlying93 h
  have c0 : Tryz.prog.cellsOf 3 = 1 := by kernel_rfl
  have c1 : Tryz.prog.cellsOf 9 = 1 := by kernel_rfl
  have c2 : Tryz.prog.cellsOf 2 = 1 := by kernel_rfl
  have c3 : Tryz.prog.cellsOf 91 = 6 := by kernel_rfl
  have c4 : Tryz.prog.cellsOf 43 = 1 := by kernel_rfl
  have cT : Tryz.prog.cellsOf 93 = 11 := by kernel_rfl
  rw [cT] at hlen
  have f0 : DataW.trod enc Tryz.prog w base spare held n' 3 ((cs.drop 0).take (Tryz.prog.cellsOf 3)) = xs[0]? := hf 0 _ rfl
  have f1 : DataW.trod enc Tryz.prog w base spare held n' 9 ((cs.drop 1).take (Tryz.prog.cellsOf 9)) = xs[1]? := hf 1 _ rfl
  have f2 : DataW.trod enc Tryz.prog w base spare held n' 2 ((cs.drop 2).take (Tryz.prog.cellsOf 2)) = xs[2]? := hf 2 _ rfl
  have f3 : DataW.trod enc Tryz.prog w base spare held n' 91 ((cs.drop 3).take (Tryz.prog.cellsOf 91)) = xs[3]? := hf 3 _ rfl
  have f4 : DataW.trod enc Tryz.prog w base spare held n' 43 ((cs.drop 9).take (Tryz.prog.cellsOf 43)) = xs[4]? := hf 4 _ rfl
  have f5 : DataW.trod enc Tryz.prog w base spare held n' 43 ((cs.drop 10).take (Tryz.prog.cellsOf 43)) = xs[5]? := hf 5 _ rfl
  rw [c0] at f0
  rw [c1] at f1
  rw [c2] at f2
  rw [c3] at f3
  rw [c4] at f4 f5
  match cs, hlen with
  | [a0, a1, a2, a3, a4, a5, a6, a7, a8, a9, a10], _ =>
    match xs, hxl with
    | [y0, y1, y2, y3, y4, y5], _ =>
      have hwt : y.1.weights Tryz.prog 93 = y0.1.weights Tryz.prog 3 ++ (y1.1.weights Tryz.prog 9 ++ (y2.1.weights Tryz.prog 2 ++ (y3.1.weights Tryz.prog 91 ++ (y4.1.weights Tryz.prog 43 ++ (y5.1.weights Tryz.prog 43 ++ []))))) := by
        rw [hy]
        simp only [DataW.weights, Tryz.underlying93]
        rfl
      rw [hwt] at hw
      obtain ⟨k0, e0, _⟩ := DataW.trod_int Tryz.underlying3 (show DataW.trod _ _ _ _ _ _ n' _ [a0] = some y0 from f0)
      obtain ⟨s1, e1, z1⟩ := in_strW Tryz.underlying9 (show DataW.trod _ _ _ _ _ _ n' _ [a1] = some y1 from f1) (fun q hq => hw q (by simp [hq]))
      obtain ⟨k2, e2, _⟩ := DataW.trod_int Tryz.underlying2 (show DataW.trod _ _ _ _ _ _ n' _ [a2] = some y2 from f2)
      obtain ⟨_, x3, r3, z3⟩ := in_pe n' _ _ (show DataW.trod _ _ _ _ _ _ n' _ [a3, a4, a5, a6, a7, a8] = some y3 from f3) (fun q hq => hw q (by simp [hq]))
      obtain ⟨v4, l4, e4, r4, p4, _⟩ := in_sliceF (fun c : List Value => c) (fun c => c.length = 11 ∧ ∃ e : PS, RdS w [] e c ∧ e.sz) Tryz.underlying43 cT (by decide) (show DataW.trod _ _ _ _ _ _ n' _ [a9] = some y4 from f4) (fun q hq => hw q (by simp [hq])) (fun m hm cs y hy hq => ⟨cs, ih m (by omega) cs y hy hq, rfl⟩)
      obtain ⟨v5, l5, e5, r5, p5, _⟩ := in_sliceF (fun c : List Value => c) (fun c => c.length = 11 ∧ ∃ e : PS, RdS w [] e c ∧ e.sz) Tryz.underlying43 cT (by decide) (show DataW.trod _ _ _ _ _ _ n' _ [a10] = some y5 from f5) (fun q hq => hw q (by simp [hq])) (fun m hm cs y hy hq => ⟨cs, ih m (by omega) cs y hy hq, rfl⟩)
      simp only [List.cons.injEq, and_true] at e0 e1 e2 e4 e5
      subst e0; subst e1; subst e2; subst e4; subst e5
      obtain ⟨xs4, q4, t4⟩ := RdSs.of p4
      obtain ⟨xs5, q5, t5⟩ := RdSs.of p5
      have hR : reachBytes = 140737488351232 := rfl
      refine ⟨rfl, .mk k0 s1 k2 x3 xs4 xs5, ?_, ?_⟩
      · unfold RdS
        exact ⟨_, _, _, _, _, rfl, r3, r4.rd, q4, r5.rd, q5⟩
      · unfold PS.sz szB
        exact ⟨by omega, z3, t4, t5⟩

theorem in_po : ∀ (n : Nat) (cs : List Value) (y : DataW H × List MemPlace), DataW.trod enc Tryz.prog w base spare held n 45 cs = some y → (∀ q ∈ y.1.weights Tryz.prog 45, q ≤ reachBytes) → cs.length = 3 ∧ ∃ e : PO, RdO w [] e cs ∧ PO.sz e := by
  intro n
  intro cs y h hw
  obtain ⟨xs, n', hn', hy, hlen, hxl, hf⟩ := DataW.trod_struct Tryz.underlying45 h
  have c0 : Tryz.prog.cellsOf 9 = 1 := by kernel_rfl
  have c1 : Tryz.prog.cellsOf 23 = 1 := by kernel_rfl
  have c2 : Tryz.prog.cellsOf 43 = 1 := by kernel_rfl
  have cT : Tryz.prog.cellsOf 45 = 3 := by kernel_rfl
  rw [cT] at hlen
  have f0 : DataW.trod enc Tryz.prog w base spare held n' 9 ((cs.drop 0).take (Tryz.prog.cellsOf 9)) = xs[0]? := hf 0 _ rfl
  have f1 : DataW.trod enc Tryz.prog w base spare held n' 23 ((cs.drop 1).take (Tryz.prog.cellsOf 23)) = xs[1]? := hf 1 _ rfl
  have f2 : DataW.trod enc Tryz.prog w base spare held n' 43 ((cs.drop 2).take (Tryz.prog.cellsOf 43)) = xs[2]? := hf 2 _ rfl
  rw [c0] at f0
  rw [c1] at f1
  rw [c2] at f2
  match cs, hlen with
  | [a0, a1, a2], _ =>
    match xs, hxl with
    | [y0, y1, y2], _ =>
      have hwt : y.1.weights Tryz.prog 45 = y0.1.weights Tryz.prog 9 ++ (y1.1.weights Tryz.prog 23 ++ (y2.1.weights Tryz.prog 43 ++ [])) := by
        rw [hy]
        simp only [DataW.weights, Tryz.underlying45]
        rfl
      rw [hwt] at hw
      obtain ⟨s0, e0, z0⟩ := in_strW Tryz.underlying9 (show DataW.trod _ _ _ _ _ _ n' _ [a0] = some y0 from f0) (fun q hq => hw q (by simp [hq]))
      obtain ⟨v1, l1, e1, r1, p1, w1⟩ := in_sliceF (m := 1) encY szB Tryz.underlying23 c0 (by decide) (show DataW.trod _ _ _ _ _ _ n' _ [a1] = some y1 from f1) (fun q hq => hw q (by simp [hq])) (fun m hm cs y hy hq => by
        obtain ⟨s, h1, h2⟩ := in_strW Tryz.underlying9 hy hq
        have hR : reachBytes = 140737488351232 := rfl
        exact ⟨s, by unfold szB; omega, h1⟩)
      obtain ⟨v2, l2, e2, r2, p2, _⟩ := in_sliceF (m := 11) (fun c : List Value => c) (fun c => c.length = 11 ∧ ∃ e : PS, RdS w [] e c ∧ e.sz) Tryz.underlying43 (by kernel_rfl) (by decide) (show DataW.trod _ _ _ _ _ _ n' _ [a2] = some y2 from f2) (fun q hq => hw q (by simp [hq])) (fun m hm cs y hy hq => ⟨cs, in_ps m cs y hy hq, rfl⟩)
      simp only [List.cons.injEq, and_true] at e0 e1 e2
      subst e0; subst e1; subst e2
      obtain ⟨xs2, q2, t2⟩ := RdSs.of p2
      have hR : reachBytes = 140737488351232 := rfl
      have bs1 : Tryz.prog.bytesOf 9 = 16 := by kernel_rfl
      rw [bs1] at w1
      refine ⟨rfl, ⟨s0, l1, xs2⟩, ⟨_, _, rfl, r1.rd, l2, r2.rd, q2⟩, ?_⟩
      unfold PO.sz szB
      exact ⟨by dsimp only; omega, p1, by dsimp only; omega, t2⟩

theorem in_decl : ∀ (n : Nat) (cs : List Value) (y : DataW H × List MemPlace), DataW.trod enc Tryz.prog w base spare held n 56 cs = some y → (∀ q ∈ y.1.weights Tryz.prog 56, q ≤ reachBytes) → ∃ d : ByteArray × ByteArray, (szB d.1 ∧ szB d.2) ∧ cs = encD d := by
  intro n
  intro cs y h hw
  obtain ⟨xs, n', hn', hy, hlen, hxl, hf⟩ := DataW.trod_struct Tryz.underlying56 h
  have c0 : Tryz.prog.cellsOf 9 = 1 := by kernel_rfl
  have cT : Tryz.prog.cellsOf 56 = 2 := by kernel_rfl
  rw [cT] at hlen
  have f0 : DataW.trod enc Tryz.prog w base spare held n' 9 ((cs.drop 0).take (Tryz.prog.cellsOf 9)) = xs[0]? := hf 0 _ rfl
  have f1 : DataW.trod enc Tryz.prog w base spare held n' 9 ((cs.drop 1).take (Tryz.prog.cellsOf 9)) = xs[1]? := hf 1 _ rfl
  rw [c0] at f0 f1
  match cs, hlen with
  | [a0, a1], _ =>
    match xs, hxl with
    | [y0, y1], _ =>
      have hwt : y.1.weights Tryz.prog 56 = y0.1.weights Tryz.prog 9 ++ (y1.1.weights Tryz.prog 9 ++ []) := by
        rw [hy]
        simp only [DataW.weights, Tryz.underlying56]
        rfl
      rw [hwt] at hw
      obtain ⟨s0, e0, z0⟩ := in_strW Tryz.underlying9 (show DataW.trod _ _ _ _ _ _ n' _ [a0] = some y0 from f0) (fun q hq => hw q (by simp [hq]))
      obtain ⟨s1, e1, z1⟩ := in_strW Tryz.underlying9 (show DataW.trod _ _ _ _ _ _ n' _ [a1] = some y1 from f1) (fun q hq => hw q (by simp [hq]))
      simp only [List.cons.injEq, and_true] at e0 e1
      subst e0; subst e1
      have hR : reachBytes = 140737488351232 := rfl
      refine ⟨(s0, s1), ⟨?_, ?_⟩, rfl⟩ <;> (unfold szB; dsimp only; omega)

theorem in_pp : ∀ (n : Nat) (cs : List Value) (y : DataW H × List MemPlace), DataW.trod enc Tryz.prog w base spare held n 33 cs = some y → (∀ q ∈ y.1.weights Tryz.prog 33, q ≤ reachBytes) → ∃ (a b : Value) (p : PP'), cs = [a, b] ∧ RdP w [] (.agg #[a, b]) p ∧ p.sz := by
  intro n
  intro cs y h hw
  obtain ⟨xs, n', hn', hy, hlen, hxl, hf⟩ := DataW.trod_struct Tryz.underlying33 h
  have c0 : Tryz.prog.cellsOf 30 = 1 := by kernel_rfl
  have c1 : Tryz.prog.cellsOf 31 = 1 := by kernel_rfl
  have cT : Tryz.prog.cellsOf 33 = 2 := by kernel_rfl
  rw [cT] at hlen
  have f0 : DataW.trod enc Tryz.prog w base spare held n' 30 ((cs.drop 0).take (Tryz.prog.cellsOf 30)) = xs[0]? := hf 0 _ rfl
  have f1 : DataW.trod enc Tryz.prog w base spare held n' 31 ((cs.drop 1).take (Tryz.prog.cellsOf 31)) = xs[1]? := hf 1 _ rfl
  rw [c0] at f0
  rw [c1] at f1
  match cs, hlen with
  | [a0, a1], _ =>
    match xs, hxl with
    | [y0, y1], _ =>
      have hwt : y.1.weights Tryz.prog 33 = y0.1.weights Tryz.prog 30 ++ (y1.1.weights Tryz.prog 31 ++ []) := by
        rw [hy]
        simp only [DataW.weights, Tryz.underlying33]
        rfl
      rw [hwt] at hw
      obtain ⟨v0, l0, e0, r0, p0, w0⟩ := in_sliceF (m := 2) encD (fun d => szB d.1 ∧ szB d.2) Tryz.underlying30 (by kernel_rfl) (by decide) (show DataW.trod _ _ _ _ _ _ n' _ [a0] = some y0 from f0) (fun q hq => hw q (by simp [hq])) (fun m hm cs y hy hq => in_decl m cs y hy hq)
      obtain ⟨v1, l1, e1, r1, p1, w1⟩ := in_sliceF (m := 3) (fun c : List Value => c) (fun c => c.length = 3 ∧ ∃ e : PO, RdO w [] e c ∧ PO.sz e) Tryz.underlying31 (by kernel_rfl) (by decide) (show DataW.trod _ _ _ _ _ _ n' _ [a1] = some y1 from f1) (fun q hq => hw q (by simp [hq])) (fun m hm cs y hy hq => ⟨cs, in_po m cs y hy hq, rfl⟩)
      simp only [List.cons.injEq, and_true] at e0 e1
      subst e0; subst e1
      obtain ⟨xs1, q1, t1⟩ := RdOs.of p1
      have hR : reachBytes = 140737488351232 := rfl
      have b0 : Tryz.prog.bytesOf 56 = 32 := by kernel_rfl
      have b1 : Tryz.prog.bytesOf 45 = 64 := by kernel_rfl
      rw [b0] at w0
      rw [b1] at w1
      have hl := q1.len
      refine ⟨_, _, ⟨l0, xs1⟩, rfl, ⟨_, _, rfl, r0.rd, l1, r1.rd, q1⟩, ?_⟩
      exact ⟨p0, by dsimp only; omega, by dsimp only; omega, t1⟩

end
end Go.Proofs.YtfnjeldpfilplaaGreatDoor

namespace Go.Vc
open Sim
theorem allOne_app : ∀ {a b : List Value}, allOne a = true → allOne b = true → allOne (a ++ b) = true
  | [], b, _, h => h
  | x :: a, b, h, h2 => by
    rw [allOne, Bool.and_eq_true] at h
    rw [List.cons_append, allOne, Bool.and_eq_true]
    exact ⟨h.1, allOne_app h.2 h2⟩
theorem RdOs.flat {w0 : World} {sh : Shared} : ∀ {l : List PO} {cl : List (List Value)}, RdOs w0 sh l cl → allOne (cl.flatMap fun x => x) = true ∧ ∀ c ∈ cl, c.length = 3
  | [], _, h => by rw [show _ = [] from h]; exact ⟨rfl, by simp⟩
  | o :: l, _, h => by
    obtain ⟨c, cl', rfl, ⟨vp, vb, rfl, h1, h2⟩, h3⟩ := h
    obtain ⟨i1, i2⟩ := RdOs.flat h3
    obtain ⟨x1, y1, rfl⟩ := h1.val
    obtain ⟨x2, y2, rfl, _⟩ := h2.len
    refine ⟨?_, fun c hc => ?_⟩
    · rw [List.flatMap_cons]
      exact allOne_app rfl i1
    · rcases List.mem_cons.1 hc with rfl | hc
      · rfl
      · exact i2 c hc
theorem RdSs.flat {w0 : World} {sh : Shared} : ∀ {l : List PS} {cl : List (List Value)}, RdSs w0 sh l cl → allOne (cl.flatMap fun x => x) = true ∧ ∀ c ∈ cl, c.length = 11
  | [], _, h => by unfold RdSs at h; rw [h]; exact ⟨rfl, by simp⟩
  | .mk _ _ _ (.mk _ _ _ _ _ _) _ _ :: l, _, h => by
    unfold RdSs at h
    obtain ⟨c, cl', rfl, h2, h3⟩ := h
    obtain ⟨i1, i2⟩ := RdSs.flat h3
    unfold RdS at h2
    obtain ⟨ce, vb, ve, c1, c2, rfl, he, hb, _, hx, _⟩ := h2
    unfold RdE at he
    obtain ⟨va, vo, c3, c4, rfl, ha, _, ho, _⟩ := he
    obtain ⟨x1, y1, rfl, _⟩ := hb
    obtain ⟨x2, y2, rfl, _⟩ := hx
    obtain ⟨x3, y3, rfl, _⟩ := ha
    obtain ⟨x4, y4, rfl, _⟩ := ho
    refine ⟨?_, fun c hc => ?_⟩
    · rw [List.flatMap_cons]
      exact allOne_app rfl i1
    · rcases List.mem_cons.1 hc with rfl | hc
      · rfl
      · exact i2 c hc
theorem RdSs.app {w0 : World} {sh : Shared} : ∀ {l l' : List PS} {cl cl' : List (List Value)}, RdSs w0 sh l cl → RdSs w0 sh l' cl' → RdSs w0 sh (l ++ l') (cl ++ cl')
  | [], _, _, _, h, h2 => by unfold RdSs at h; rw [h]; exact h2
  | e :: l, _, _, _, h, h2 => by
    unfold RdSs at h
    obtain ⟨c, cl', rfl, h3, h4⟩ := h
    rw [List.cons_append]
    unfold RdSs
    exact ⟨c, _, rfl, h3, RdSs.app h4 h2⟩
end Go.Vc
namespace Go.Proofs.YtfnjeldpfilplaaGreatDoor
open Go.Vc Sim
theorem small_of {p : PP'} (h : PO.costL p.opers + p.stores.length ≤ 400) : PP'.small p ∧ ∀ o ∈ p.opers, PS.sizeL o.body ≤ 400 := by
  have h1 := PO.costL_len p.opers
  refine ⟨⟨by omega, by omega, fun o ho => ?_⟩, fun o ho => ?_⟩
  all_goals
    have h2 := PO.costL_mem ho
    unfold PO.cost at h2
    omega
end Go.Proofs.YtfnjeldpfilplaaGreatDoor

namespace Go.Proofs.YtfnjeldpfilplaaGreatDoor
open Go.Vc Sim
end Go.Proofs.YtfnjeldpfilplaaGreatDoor

namespace Go.Vc
open Sim
abbrev PLA : Type := PL × (Option Addr × Nat)
abbrev plL (y : PLA) : List Value := [.string y.1.oper, .int .i64 y.1.cls, .slice y.2.1 y.1.stores.length y.2.2, .int .i64 y.1.calls]
abbrev plV (y : PLA) : Value := .agg (List.toArray (plL y))
def RdPs (w0 : World) (bl : Shared) (v : Value) (l : List PL) : Prop := ∃ l' : List PLA, l'.map (·.1) = l ∧ RdSl w0 bl plL 4 v l' ∧ ∀ y ∈ l', RdSl w0 bl encY 1 (.slice y.2.1 y.1.stores.length y.2.2) y.1.stores
theorem RdPs.mono {w0 : World} {sh sh' : Shared} {v : Value} {l : List PL} (h : RdPs w0 sh v l) (hs : ∀ p ∈ sh, p ∈ sh') : RdPs w0 sh' v l := by
  obtain ⟨l', h1, h2, h3⟩ := h
  exact ⟨l', h1, h2.mono hs, fun y hy => (h3 y hy).mono hs⟩
theorem RdPs.len {w0 : World} {sh : Shared} {v : Value} {l : List PL} (h : RdPs w0 sh v l) : ∃ a c, v = .slice a l.length c := by
  obtain ⟨l', rfl, ⟨a, c, h2, _⟩, _⟩ := h
  exact ⟨a, c, by rw [h2, List.length_map]⟩
theorem RdPs.nil {w0 : World} {sh : Shared} : RdPs w0 sh (.slice none 0 0) [] := ⟨[], rfl, RdSl.nil, fun y hy => by cases hy⟩
end Go.Vc
namespace Go.Proofs.YtfnjeldpfilplaaGreatDoor
open Go.Vc Sim
theorem planof_spec (w0 : World) (sh : Shared) (s : ByteArray) (q : P6) (e : Ef) : FnE PP w0 sh 24 [.string s, efV q e] [] (plV (planE s e, q.1)) [] := by
  by_cases h0 : e.reads.length = 0
  · have hc : clsN e.reads.length e.writes.length = 0 := by unfold clsN; rw [if_pos h0]
    refine fn_of_run en24 fn24 rfl rfl rfl ?_
    repeat' (first | refine zck ?_ | refine zcp (by kernel_rfl) ?_ | refine zcl ?_ | refine zcn ?_ | (refine zap rfl ?_; first | refine zaq (cs := [_, _, _, _]) rfl (fun t3 => ?_) | refine zar (fun t4 => ?_) | refine zan rfl ?_ | refine zan rfl ?_ | refine zab 0 rfl rfl rfl ?_ | refine zce rfl ?_ | refine zao rfl ?_ | refine zbc rfl rfl (by omega) ?_ | refine zae 1 rfl rfl rfl rfl rfl rfl rfl ?_ | refine zcb rfl ?_) | refine zch ?_ | refine zci rfl ?_)
    exact run_ret (leaves_nil (ends_take [] rfl (ends_one rfl (resOk_pt 1 rfl rfl rfl) ⟨rfl, Eq.trans (b := plV (⟨s, 0, e.reads, e.calls⟩, q.1)) rfl (by unfold planE; rw [hc]), rfl⟩)))
  · by_cases h1 : e.writes.length = 0
    · have hc : clsN e.reads.length e.writes.length = 1 := by unfold clsN; rw [if_neg h0, if_pos h1]
      refine fn_of_run en24 fn24 rfl rfl rfl ?_
      repeat' (first | refine zck ?_ | refine zcp (by kernel_rfl) ?_ | refine zcl ?_ | refine zcn ?_ | (refine zap rfl ?_; first | refine zaq (cs := [_, _, _, _]) rfl (fun t3 => ?_) | refine zar (fun t4 => ?_) | refine zan rfl ?_ | refine zan rfl ?_ | refine zab 0 rfl rfl rfl ?_ | refine zce rfl ?_ | refine zao rfl ?_ | refine zbc rfl rfl (by omega) ?_ | refine zbd rfl rfl (by omega) ?_ | refine zae 1 rfl rfl rfl rfl rfl rfl rfl ?_ | refine zcb rfl ?_) | refine zch ?_ | refine zci rfl ?_ | refine zcj rfl ?_)
      exact run_ret (leaves_nil (ends_take [] rfl (ends_one rfl (resOk_pt 1 rfl rfl rfl) ⟨rfl, Eq.trans (b := plV (⟨s, 1, e.reads, e.calls⟩, q.1)) rfl (by unfold planE; rw [hc]), rfl⟩)))
    · have hc : clsN e.reads.length e.writes.length = 2 := by unfold clsN; rw [if_neg h0, if_neg h1]
      refine fn_of_run en24 fn24 rfl rfl rfl ?_
      repeat' (first | refine zck ?_ | refine zcp (by kernel_rfl) ?_ | refine zcm ?_ | refine zcl ?_ | refine zcn ?_ | (refine zap rfl ?_; first | refine zaq (cs := [_, _, _, _]) rfl (fun t3 => ?_) | refine zar (fun t4 => ?_) | refine zan rfl ?_ | refine zan rfl ?_ | refine zab 0 rfl rfl rfl ?_ | refine zce rfl ?_ | refine zao rfl ?_ | refine zbd rfl rfl (by omega) ?_ | refine zae 1 rfl rfl rfl rfl rfl rfl rfl ?_ | refine zcb rfl ?_) | refine zch ?_ | refine zcj rfl ?_)
      exact run_ret (leaves_nil (ends_take [] rfl (ends_one rfl (resOk_pt 1 rfl rfl rfl) ⟨rfl, Eq.trans (b := plV (⟨s, 2, e.reads, e.calls⟩, q.1)) rfl (by unfold planE; rw [hc]), rfl⟩)))
theorem rdEf_reads {w0 : World} {sh : Shared} {q : P6} {e : Ef} (h : RdEfV w0 sh (efV q e) e) : RdSl w0 sh encY 1 (.slice q.1.1 e.reads.length q.1.2) e.reads := by
  obtain ⟨c, h1, v1, v2, v3, rfl, h2, _, _⟩ := h
  injection h1 with h1
  injection h1 with h1
  injection h1 with h1 _
  subst h1
  exact h2
abbrev stA (w0 : World) (y : PLA) : Asn := Rds fun bl => RdSl w0 bl encY 1 (.slice y.2.1 y.1.stores.length y.2.2) y.1.stores
def POf (w0 : World) (sh : Shared) (v : Value) (s : ByteArray) (r : PL × Int) : Prop :=
  Vc.Fn PP w0 sh 10 [v, .string s] [] (fun x Γ => ∃ q : Option Addr × Nat, x = .tuple #[plV (r.1, q), .int .i64 r.2] ∧ Γ = [stA w0 (r.1, q)])
set_option maxHeartbeats 4000000 in
theorem planOf_spec (w0 : World) (hk : KwOk w0) (sh : Shared) (v : Value) (p : PP') (s : ByteArray) (hp : RdP w0 sh v p) (hs : PP'.small p) (hb : ∀ o ∈ p.opers, PS.sizeL o.body ≤ 10000) : POf w0 sh v s (planP p s) := by
  have hty := typesCheck_spec w0 hk sh v p hp hs hb
  have hof := of_spec w0 hk sh v p s hp hs hb
  obtain ⟨⟨tn, tc⟩, hT⟩ : ∃ T, tyP p = T := ⟨_, rfl⟩
  obtain ⟨⟨E, W⟩, hE⟩ : ∃ E, ofP p s = E := ⟨_, rfl⟩
  unfold planP
  rw [hT, hE]
  rw [hT] at hty
  rw [hE] at hof
  unfold OSpec at hof
  unfold POf
  dsimp only at hof hty ⊢
  obtain ⟨vs, vo, rfl, h1, h2⟩ := hp
  obtain ⟨a1, c1, hvs, hc1, _⟩ := id h1
  obtain ⟨a2, c2, hvo, hc2⟩ := h2.len
  subst hvs; subst hvo
  refine fn_of_run en10 fn10 rfl rfl rfl ?_
  repeat (first | refine zck ?_ | refine zcl ?_ | refine zcm ?_ | refine zcn ?_)
  first | refine zcp (by kernel_rfl) ?_ | refine zcq PP_mixed (by kernel_rfl) (by kernel_rfl) ?_
  repeat' (refine zap rfl ?_; first | refine zaq (cs := [_, _]) rfl (fun tp => ?_) | refine zar (fun t4 => ?_) | refine zan rfl ?_)
  all_goals refine zch ?_
  all_goals repeat (first | refine zck ?_ | refine zcl ?_ | refine zcm ?_ | refine zcn ?_)
  refine run_share [0] rfl ?_
  repeat (first | refine zck ?_ | refine zcl ?_ | refine zcm ?_ | refine zcn ?_)
  first | refine zcp (by kernel_rfl) ?_ | refine zcq PP_mixed (by kernel_rfl) (by kernel_rfl) ?_
  repeat' (refine zap rfl ?_; first | refine zan rfl ?_ | refine zan rfl ?_ | refine zaa 0 rfl rfl rfl ?_ | refine zah [] hty rfl rfl rfl (fun p hp => by simp [hp]) rfl ?_ | refine zan rfl ?_)
  all_goals refine zch ?_
  all_goals repeat (first | refine zck ?_ | refine zcl ?_ | refine zcm ?_ | refine zcn ?_)
  by_cases hc : tc = 0
  rotate_left
  · rw [if_pos hc]
    repeat (first | refine zck ?_ | refine zcl ?_ | refine zcm ?_ | refine zcn ?_)
    first | refine zcp (by kernel_rfl) ?_ | refine zcq PP_mixed (by kernel_rfl) (by kernel_rfl) ?_
    repeat' (refine zap rfl ?_; first | refine zan rfl ?_ | refine zbe rfl rfl (by omega) ?_)
    all_goals refine zch ?_
    all_goals repeat (first | refine zck ?_ | refine zcl ?_ | refine zcm ?_ | refine zcn ?_)
    refine zci rfl ?_
    repeat (first | refine zck ?_ | refine zcl ?_ | refine zcm ?_ | refine zcn ?_)
    first | refine zcp (by kernel_rfl) ?_ | refine zcq PP_mixed (by kernel_rfl) (by kernel_rfl) ?_
    repeat' (refine zap rfl ?_; first | refine zan rfl ?_ | refine zan rfl ?_ | refine zae 0 rfl rfl rfl rfl rfl rfl rfl ?_ | refine zcb rfl ?_)
    all_goals refine zch ?_
    all_goals repeat (first | refine zck ?_ | refine zcl ?_ | refine zcm ?_ | refine zcn ?_)
    refine run_emptyR (fun bl => RdSl w0 bl encY 1 (.slice none 0 0) []) RdSl.nil ?_
    exact run_ret (leaves_nil (ends_take [0] rfl (ends_two rfl (resOk_pt 1 rfl rfl rfl) rfl ⟨rfl, (none, 0), rfl, rfl⟩)))
  rw [if_neg (fun q => q hc)]
  repeat (first | refine zck ?_ | refine zcl ?_ | refine zcm ?_ | refine zcn ?_)
  first | refine zcp (by kernel_rfl) ?_ | refine zcq PP_mixed (by kernel_rfl) (by kernel_rfl) ?_
  repeat' (refine zap rfl ?_; first | refine zan rfl ?_ | refine zbf rfl rfl (by omega) ?_)
  all_goals refine zch ?_
  all_goals repeat (first | refine zck ?_ | refine zcl ?_ | refine zcm ?_ | refine zcn ?_)
  refine zcj rfl ?_
  repeat (first | refine zck ?_ | refine zcl ?_ | refine zcm ?_ | refine zcn ?_)
  first | refine zcp (by kernel_rfl) ?_ | refine zcq PP_mixed (by kernel_rfl) (by kernel_rfl) ?_
  repeat' (refine zap rfl ?_; first | refine zar (fun t8 => ?_) | refine zan rfl ?_ | refine zan rfl ?_ | refine zaa 0 rfl rfl rfl ?_ | (refine zai [] hof rfl rfl rfl (fun p hp => by simp [hp]) ?_; rintro v Γ ⟨q, rfl, rfl⟩) | refine zan rfl ?_ | refine zae 2 rfl rfl rfl rfl rfl rfl rfl ?_)
  all_goals refine zch ?_
  all_goals repeat (first | refine zck ?_ | refine zcl ?_ | refine zcm ?_ | refine zcn ?_)
  by_cases hw : W = 0
  rotate_left
  · rw [if_pos hw]
    repeat (first | refine zck ?_ | refine zcl ?_ | refine zcm ?_ | refine zcn ?_)
    first | refine zcp (by kernel_rfl) ?_ | refine zcq PP_mixed (by kernel_rfl) (by kernel_rfl) ?_
    repeat' (refine zap rfl ?_; first | refine zan rfl ?_ | refine zbe rfl rfl (by omega) ?_)
    all_goals refine zch ?_
    all_goals repeat (first | refine zck ?_ | refine zcl ?_ | refine zcm ?_ | refine zcn ?_)
    refine zci rfl ?_
    repeat (first | refine zck ?_ | refine zcl ?_ | refine zcm ?_ | refine zcn ?_)
    first | refine zcp (by kernel_rfl) ?_ | refine zcq PP_mixed (by kernel_rfl) (by kernel_rfl) ?_
    repeat' (refine zap rfl ?_; first | refine zan rfl ?_ | refine zan rfl ?_ | refine zae 1 rfl rfl rfl rfl rfl rfl rfl ?_ | refine zcb rfl ?_)
    all_goals refine zch ?_
    all_goals repeat (first | refine zck ?_ | refine zcl ?_ | refine zcm ?_ | refine zcn ?_)
    refine run_emptyR (fun bl => RdSl w0 bl encY 1 (.slice none 0 0) []) RdSl.nil ?_
    exact run_ret (leaves_nil (ends_take [0] rfl (ends_two rfl (resOk_pt 2 rfl rfl rfl) rfl ⟨rfl, (none, 0), rfl, rfl⟩)))
  rw [if_neg (fun q => q hw)]
  repeat (first | refine zck ?_ | refine zcl ?_ | refine zcm ?_ | refine zcn ?_)
  first | refine zcp (by kernel_rfl) ?_ | refine zcq PP_mixed (by kernel_rfl) (by kernel_rfl) ?_
  repeat' (refine zap rfl ?_; first | refine zan rfl ?_ | refine zbf rfl rfl (by omega) ?_)
  all_goals refine zch ?_
  all_goals repeat (first | refine zck ?_ | refine zcl ?_ | refine zcm ?_ | refine zcn ?_)
  refine zcj rfl ?_
  repeat (first | refine zck ?_ | refine zcl ?_ | refine zcm ?_ | refine zcn ?_)
  first | refine zcp (by kernel_rfl) ?_ | refine zcq PP_mixed (by kernel_rfl) (by kernel_rfl) ?_
  repeat' (refine zap rfl ?_; first | refine zan rfl ?_ | refine zan rfl ?_ | refine zab 2 rfl rfl rfl ?_ | refine zah [] (planof_spec w0 [] s q E) rfl rfl rfl sub_nil rfl ?_ | refine zae 1 rfl rfl rfl rfl rfl rfl rfl ?_)
  all_goals refine zch ?_
  all_goals repeat (first | refine zck ?_ | refine zcl ?_ | refine zcm ?_ | refine zcn ?_)
  refine run_exch 0 (stA w0 (planE s E, q.1)) rfl (Rds.mono fun bl h => rdEf_reads h) rfl ?_
  exact run_ret (leaves_nil (ends_take [0] rfl (ends_two rfl (resOk_pt 1 rfl rfl rfl) rfl ⟨rfl, q.1, rfl, rfl⟩)))
end Go.Proofs.YtfnjeldpfilplaaGreatDoor

namespace Go.Proofs.YtfnjeldpfilplaaGreatDoor
open Go.Vc Sim
def WordsOk (w0 : World) : Prop := ∃ T fr, w0.heap[0]? = some (.cells (List.toArray [.string (wordB 0), .string (wordB 1), .string (wordB 2)]) T fr)
abbrev lineL (x : PL) : List ByteArray := x.oper :: wordB x.cls :: numB x.calls :: x.stores
theorem joined_spec (w0 : World) (sh : Shared) (v : Value) (x : PL) (hx : x.ok) (hv : RdSl w0 sh encY 1 v (lineL x)) :
    FnE PP w0 sh 20 [v] [] (.string (lineB x)) [] := by
  have hl := hx.2.1
  have hs := tailB_size x.stores (headB x) hx.2.2.1
  have hh := headB_size hx
  have hsz : (tailB x.stores (headB x)).size ≤ 10000 := by omega
  have hjl := join_line x
  have hj := join_spec0 w0 sh v (lineL x) (bs [32]) hv (by simp) (by simp; omega) (by
    have h1 := congrArg ByteArray.size hjl
    have h2 : (Lib.join ((lineL x).map (·.data.toList)) [32]).length = (tailB x.stores (headB x)).size := h1
    show (Lib.join ((lineL x).map (·.data.toList)) [32]).length ≤ _
    omega)
  have hj : FnE PP w0 sh 34 [v, .string (bs [32])] [] (.string (tailB x.stores (headB x))) [] := by
    rw [← hjl]; exact hj
  have r1 : (tailB x.stores (headB x)).size + (bs [10]).size ≤ 9223372036854775807 := by rw [bs_size]; simp; omega
  refine fn_of_run en20 fn20 rfl rfl rfl ?_
  repeat' (first | refine zck ?_ | refine zcp (by kernel_rfl) ?_ | (refine zap rfl ?_; first | refine reg_addS rfl rfl r1 ?_ | refine zan rfl ?_ | refine zan rfl ?_ | refine zah [] hj rfl rfl rfl (fun _ h => h) rfl ?_) | refine zch ?_)
  exact ret_tmp1 rfl ⟨rfl, rfl⟩
theorem joined_own (w0 : World) (a : Option Addr) (n c : Nat) (sh : Shared) (x : PL) (hx : x.ok) (hn : (lineL x).length = n) :
    FnE PP w0 sh 20 [.slice a n c] [SlA 9 1 a n c ((lineL x).flatMap encY)] (.string (lineB x)) [SlA 9 1 a n c ((lineL x).flatMap encY)] := by
  refine (Fn.lendSl encY en20 (fun _ _ => rfl) hn (fun sh' _ h => joined_spec w0 sh' _ x hx (by rw [← hn] at h ⊢; exact h))).mono ?_
  rintro v Γ ⟨_, ⟨rfl, rfl⟩, rfl⟩
  exact ⟨rfl, rfl⟩
theorem allOne_Y : ∀ l : List ByteArray, allOne (l.flatMap encY) = true
  | [] => rfl
  | _ :: l => allOne_Y l
theorem words_rd {w0 : World} (h : WordsOk w0) {sh : Shared} : ∃ T fr, ∀ hF Γ w, Sh sh hF → St w0 hF Γ w → w.heap[0]? = some (.cells (List.toArray [.string (wordB 0), .string (wordB 1), .string (wordB 2)]) T fr) := by
  obtain ⟨T, fr, h⟩ := h
  exact ⟨T, fr, fun hF Γ w _ hst => (hst.base (Array.getElem?_eq_some_iff.1 h).1).trans h⟩
set_option maxHeartbeats 4000000 in
theorem text_spec (w0 : World) (ht : TabOk w0) (hwd : WordsOk w0) (sh : Shared) (v : Value) (l : List PL) (hv : RdPs w0 sh v l) (hok : ∀ x ∈ l, x.ok) (hlen : l.length ≤ 40) :
    FnE PP w0 sh 8 [v] [] (.string (textB l)) [] := by
  obtain ⟨l', rfl, h2, h3⟩ := hv
  obtain ⟨a0, c0, rfl, hc0, _⟩ := id h2
  rw [List.length_map] at hlen
  obtain ⟨TW, frW, hW⟩ := words_rd hwd (sh := sh)
  refine fn_of_run en8 fn8 rfl rfl rfl ?_
  repeat (first | refine zck ?_ | refine zcl ?_ | refine zcm ?_ | refine zcn ?_)
  first | refine zcp (by kernel_rfl) ?_ | refine zcq PP_mixed (by kernel_rfl) (by kernel_rfl) ?_
  repeat' (refine zap rfl ?_; first | refine zan rfl ?_)
  all_goals refine zch ?_
  all_goals repeat (first | refine zck ?_ | refine zcl ?_ | refine zcm ?_ | refine zcn ?_)
  repeat (first | refine zck ?_ | refine zcl ?_ | refine zcm ?_ | refine zcn ?_)
  first | refine zcp (by kernel_rfl) ?_ | refine zcq PP_mixed (by kernel_rfl) (by kernel_rfl) ?_
  repeat' (refine zap rfl ?_; first | refine zar (fun b => ?_))
  all_goals refine zch ?_
  all_goals repeat (first | refine zck ?_ | refine zcl ?_ | refine zcm ?_ | refine zcn ?_)
  repeat (first | refine zck ?_ | refine zcl ?_ | refine zcm ?_ | refine zcn ?_)
  first | refine zcp (by kernel_rfl) ?_ | refine zcq PP_mixed (by kernel_rfl) (by kernel_rfl) ?_
  repeat' (refine zap rfl ?_; first | refine zan rfl ?_ | refine zce rfl ?_)
  all_goals refine zch ?_
  all_goals repeat (first | refine zck ?_ | refine zcl ?_ | refine zcm ?_ | refine zcn ?_)
  refine run_nilslice 5 1 ?_
  refine run_loop (S := Nat × Value × Option Addr × Nat) (fun s => [(3, .pointer (some ⟨b, 0, none⟩)), (7, .slice a0 l'.length c0), (8, .int .i64 l'.length), (9, .int .i64 (s.1 : Int))])
    (fun s Γ => Γ = [bldP b s.2.1 (.slice s.2.2.1 (textB ((l'.map (·.1)).take s.1)).size s.2.2.2), bldB s.2.2.1 s.2.2.2 (textB ((l'.map (·.1)).take s.1))] ∧ s.1 ≤ l'.length ∧ (s.2.1 = .pointer none ∨ s.2.1 = .pointer (some ⟨b, 0, none⟩)) ∧ ((textB ((l'.map (·.1)).take s.1)).size ≠ 0 ∨ s.2.2.1 = none))
    (fun s => l'.length - s.1) (0, .pointer none, none, 0) ⟨rfl, rfl, rfl, rfl, trivial⟩ ⟨rfl, Nat.zero_le _, .inl rfl, .inr rfl⟩ ?_
  rintro ⟨j, p, a, c⟩ Γ junk ⟨rfl, g1, g2, g3⟩
  dsimp only at g1 g2 g3 ⊢
  have hts : (textB ((l'.map (·.1)).take j)).size ≤ 400000 := by
    have := textB_size (l := (l'.map (·.1)).take j) (fun x hx => hok x (List.mem_of_mem_take hx))
    rw [List.length_take, List.length_map] at this
    have h5 : min j l'.length ≤ 40 := by omega
    omega
  by_cases hj : j < l'.length
  · obtain ⟨y, hy⟩ : ∃ y, l'[j]? = some y := ⟨_, List.getElem?_eq_getElem hj⟩
    have hym : (l'.map (·.1))[j]? = some y.1 := by rw [List.getElem?_map, hy]; rfl
    obtain ⟨b', off, cc, T, fr, rfl, e2, e3, _⟩ := h2.cells hy
    have hyo := hok y.1 (List.mem_of_getElem? hym)
    have hst := h3 y (List.mem_of_getElem? hy)
    obtain ⟨⟨op, cl, ss, cs⟩, q1, q2⟩ := y
    obtain ⟨o1, o2, o3, o4⟩ := id hyo
    have hls := lineB_size hyo
    dsimp only at hyo hst o1 o2 o3 o4 hls e3 hym
    have hone : allOne (ss.flatMap encY) = true := allOne_Y ss
    have e3 : ∀ o, o = off + j * 4 → rd true 4 cc.toList o = some (.agg (List.toArray [.string op, .int .i64 cl, .slice q1 ss.length q2, .int .i64 cs])) := e3
    have hjo := fun a n c (hn : (lineL ⟨op, cl, ss, cs⟩).length = n) sh => joined_own w0 a n c sh ⟨op, cl, ss, cs⟩ hyo hn
    have hln : (lineL ⟨op, cl, ss, cs⟩).length = 3 + ss.length := by show ss.length + 1 + 1 + 1 = _; omega
    have hwr := fun sh => writeString_spec w0 sh b p a c (textB ((l'.map (·.1)).take j)) (lineB ⟨op, cl, ss, cs⟩) g2 (by omega)
    have htk := textB_take hym
    have hne : (textB ((l'.map (·.1)).take (j + 1))).size ≠ 0 := by rw [htk, ba_size]; omega
    rw [← htk] at hwr
    repeat (first | refine zck ?_ | refine zcl ?_ | refine zcm ?_ | refine zcn ?_)
    first | refine zcp (by kernel_rfl) ?_ | refine zcq PP_mixed (by kernel_rfl) (by kernel_rfl) ?_
    repeat' (refine zap rfl ?_; first | refine zbg rfl rfl (by omega) ?_)
    all_goals refine zch ?_
    all_goals repeat (first | refine zck ?_ | refine zcl ?_ | refine zcm ?_ | refine zcn ?_)
    refine zci rfl ?_
    repeat (first | refine zck ?_ | refine zcl ?_ | refine zcm ?_ | refine zcn ?_)
    first | refine zcp (by kernel_rfl) ?_ | refine zcq PP_mixed (by kernel_rfl) (by kernel_rfl) ?_
    repeat' (refine zap rfl ?_; first | refine zad rfl e2 (e3 _ (by omega)) ?_ | refine zar (fun t5 => ?_) | refine zae 2 rfl rfl rfl rfl rfl rfl rfl ?_ | refine zas rfl rfl (by omega) ?_)
    all_goals refine zch ?_
    all_goals repeat (first | refine zck ?_ | refine zcl ?_ | refine zcm ?_ | refine zcn ?_)
    refine run_share [2] rfl ?_
    repeat (first | refine zck ?_ | refine zcl ?_ | refine zcm ?_ | refine zcn ?_)
    first | refine zcp (by kernel_rfl) ?_ | refine zcq PP_mixed (by kernel_rfl) (by kernel_rfl) ?_
    repeat' (refine zap rfl ?_; first | refine zad rfl (fun hF Γ w h1 h2 => hW hF Γ w (fun p hp => h1 p (by simp [hp])) h2) rfl ?_ | refine zan rfl ?_ | refine zat rfl rfl (by omega) ?_)
    all_goals refine zch ?_
    all_goals repeat (first | refine zck ?_ | refine zcl ?_ | refine zcm ?_ | refine zcn ?_)
    refine run_join (S := Unit) (fun _ => [(3, .pointer (some ⟨b, 0, none⟩)), (5, .pointer (some ⟨t5, 0, none⟩)), (6, .string (wordB 2)), (7, .slice (some ⟨b', off, none⟩) l'.length c0), (8, .int .i64 l'.length), (9, .int .i64 (j : Int)), (22, .bool (decide (0 ≤ cl ∧ cl < 2)))])
      (fun _ Γ => Γ = [bldP b p (.slice a (textB ((l'.map (·.1)).take j)).size c), bldB a c (textB ((l'.map (·.1)).take j))]) ?_ ?_
    · by_cases h0 : 0 ≤ cl
      · by_cases h1 : cl < 2
        · repeat (first | refine zck ?_ | refine zcl ?_ | refine zcm ?_ | refine zcn ?_)
          first | refine zcp (by kernel_rfl) ?_ | refine zcq PP_mixed (by kernel_rfl) (by kernel_rfl) ?_
          repeat' (refine zap rfl ?_; first | refine zaj rfl ?_ | refine zan rfl ?_ | refine zaa 0 rfl rfl rfl ?_ | refine zao rfl ?_ | refine zbg rfl rfl (by omega) ?_ | refine zbm rfl rfl (by omega) ?_ | refine zbu rfl ?_)
          all_goals refine zch ?_
          all_goals repeat (first | refine zck ?_ | refine zcl ?_ | refine zcm ?_ | refine zcn ?_)
          refine cut_end ⟨rfl, (), ⟨rfl, rfl, rfl, rfl, rfl, rfl, (by rw [decide_eq_true (And.intro h0 h1)]; rfl), trivial⟩, rfl⟩
        · repeat (first | refine zck ?_ | refine zcl ?_ | refine zcm ?_ | refine zcn ?_)
          first | refine zcp (by kernel_rfl) ?_ | refine zcq PP_mixed (by kernel_rfl) (by kernel_rfl) ?_
          repeat' (refine zap rfl ?_; first | refine zaj rfl ?_ | refine zan rfl ?_ | refine zaa 0 rfl rfl rfl ?_ | refine zao rfl ?_ | refine zbh rfl rfl (by omega) ?_ | refine zbm rfl rfl (by omega) ?_ | refine zbu rfl ?_)
          all_goals refine zch ?_
          all_goals repeat (first | refine zck ?_ | refine zcl ?_ | refine zcm ?_ | refine zcn ?_)
          refine cut_end ⟨rfl, (), ⟨rfl, rfl, rfl, rfl, rfl, rfl, (by rw [decide_eq_false (fun q : 0 ≤ cl ∧ cl < 2 => h1 q.2)]; rfl), trivial⟩, rfl⟩
      · repeat (first | refine zck ?_ | refine zcl ?_ | refine zcm ?_ | refine zcn ?_)
        first | refine zcp (by kernel_rfl) ?_ | refine zcq PP_mixed (by kernel_rfl) (by kernel_rfl) ?_
        repeat' (refine zap rfl ?_; first | refine zak rfl ?_ | refine zan rfl ?_ | refine zaa 0 rfl rfl rfl ?_ | refine zao rfl ?_ | refine zbn rfl rfl (by omega) ?_ | refine zbv rfl ?_)
        all_goals refine zch ?_
        all_goals repeat (first | refine zck ?_ | refine zcl ?_ | refine zcm ?_ | refine zcn ?_)
        refine cut_end ⟨rfl, (), ⟨rfl, rfl, rfl, rfl, rfl, rfl, (by rw [decide_eq_false (fun q : 0 ≤ cl ∧ cl < 2 => h0 q.1)]; rfl), trivial⟩, rfl⟩
    rintro _ Γ junk rfl
    refine run_join (S := Unit) (fun _ => [(3, .pointer (some ⟨b, 0, none⟩)), (5, .pointer (some ⟨t5, 0, none⟩)), (6, .string (wordB cl)), (7, .slice (some ⟨b', off, none⟩) l'.length c0), (8, .int .i64 l'.length), (9, .int .i64 (j : Int))])
      (fun _ Γ => Γ = [bldP b p (.slice a (textB ((l'.map (·.1)).take j)).size c), bldB a c (textB ((l'.map (·.1)).take j))]) ?_ ?_
    · refine run_cond rfl (fun h => ?_) (fun h => ?_)
      · rcases (by omega : cl = 0 ∨ cl = 1) with hcl | hcl
        · subst hcl
          repeat (first | refine zck ?_ | refine zcl ?_ | refine zcm ?_ | refine zcn ?_)
          first | refine zcp (by kernel_rfl) ?_ | refine zcq PP_mixed (by kernel_rfl) (by kernel_rfl) ?_
          repeat' (refine zap rfl ?_; first | refine zad rfl (fun hF Γ w h1 h2 => hW hF Γ w (fun p hp => h1 p (by simp [hp])) h2) rfl ?_ | refine zan rfl ?_ | refine zaa 0 rfl rfl rfl ?_ | refine zao rfl ?_ | refine zat rfl rfl (by omega) ?_)
          all_goals refine zch ?_
          all_goals repeat (first | refine zck ?_ | refine zcl ?_ | refine zcm ?_ | refine zcn ?_)
          refine cut_end ⟨rfl, (), ⟨rfl, rfl, rfl, rfl, rfl, rfl, trivial⟩, rfl⟩
        · subst hcl
          repeat (first | refine zck ?_ | refine zcl ?_ | refine zcm ?_ | refine zcn ?_)
          first | refine zcp (by kernel_rfl) ?_ | refine zcq PP_mixed (by kernel_rfl) (by kernel_rfl) ?_
          repeat' (refine zap rfl ?_; first | refine zad rfl (fun hF Γ w h1 h2 => hW hF Γ w (fun p hp => h1 p (by simp [hp])) h2) rfl ?_ | refine zan rfl ?_ | refine zaa 0 rfl rfl rfl ?_ | refine zao rfl ?_ | refine zat rfl rfl (by omega) ?_)
          all_goals refine zch ?_
          all_goals repeat (first | refine zck ?_ | refine zcl ?_ | refine zcm ?_ | refine zcn ?_)
          refine cut_end ⟨rfl, (), ⟨rfl, rfl, rfl, rfl, rfl, rfl, trivial⟩, rfl⟩
      · repeat (first | refine zck ?_ | refine zcl ?_ | refine zcm ?_ | refine zcn ?_ | refine zco ?_)
        refine cut_end ⟨rfl, (), ⟨rfl, rfl, Eq.trans (b := Value.string (bs [103, 101, 110, 101, 114, 97, 108])) rfl (by unfold wordB; rw [if_neg (by omega), if_neg (by omega)]), rfl, rfl, rfl, trivial⟩, rfl⟩
    rintro _ Γ junk rfl
    have hfm := fmt_spec w0 ht [] cs o4
    repeat (first | refine zck ?_ | refine zcl ?_ | refine zcm ?_ | refine zcn ?_)
    first | refine zcp (by kernel_rfl) ?_ | refine zcq PP_mixed (by kernel_rfl) (by kernel_rfl) ?_
    repeat' (refine zap rfl ?_; first | refine reg_buildSlice rfl rfl rfl rfl rfl rfl (fun nb => ?_) | refine zan rfl ?_ | refine zaa 0 rfl rfl rfl ?_ | refine zah [] hfm rfl rfl rfl sub_nil rfl ?_ | (refine reg_own 2 rfl rfl (len := 3) (cap := 3) (sz := 1) ⟨rfl, Nat.le_refl _, Nat.le_refl _⟩ rfl ?_; refine reg_append_rdE 2 rfl rfl (hst.mono fun p hp => .tail _ hp) (by decide) hone rfl rfl (by omega) (fun _ _ => rfl) (fun a5 c5 => ?_)) | refine zah [2] (hjo _ _ _ hln []) rfl rfl rfl sub_nil rfl ?_ | (refine zai [1, 1] (hwr []) rfl rfl rfl sub_nil ?_; rintro v Γ ⟨a6, c6, rfl, rfl⟩) | refine zao rfl ?_)
    all_goals refine zch ?_
    all_goals repeat (first | refine zck ?_ | refine zcl ?_ | refine zcm ?_ | refine zcn ?_)
    refine run_take [0, 0] rfl ?_
    repeat' (first | refine zcp (by kernel_rfl) ?_ | (refine zap rfl ?_; first | refine zan rfl ?_ | refine zau rfl rfl (by omega) ?_) | refine zch ?_)
    refine cut_end ⟨rfl, (j + 1, .pointer (some ⟨b, 0, none⟩), a6, c6), ⟨rfl, rfl, rfl, int_eq (by dsimp only; omega), trivial⟩, ⟨rfl, by dsimp only; omega, .inr rfl, .inl hne⟩, by dsimp only; omega⟩
  · repeat (first | refine zck ?_ | refine zcl ?_ | refine zcm ?_ | refine zcn ?_)
    first | refine zcp (by kernel_rfl) ?_ | refine zcq PP_mixed (by kernel_rfl) (by kernel_rfl) ?_
    repeat' (refine zap rfl ?_; first | refine zbh rfl rfl (by omega) ?_)
    all_goals refine zch ?_
    all_goals repeat (first | refine zck ?_ | refine zcl ?_ | refine zcm ?_ | refine zcn ?_)
    refine zcj rfl ?_
    refine cut_exit rfl rfl ?_
    have hjl : j = l'.length := by omega
    subst hjl
    rw [List.take_of_length_le (by rw [List.length_map]; exact Nat.le_refl _)] at g3 hts ⊢
    repeat' (first | refine zck ?_ | refine zcp (by kernel_rfl) ?_ | (refine zap rfl ?_; first | refine zan rfl ?_ | refine zah [0, 0] (bstring_spec w0 _ b p a c _ g3 (by omega)) rfl rfl rfl (fun _ h => h) rfl ?_) | refine zch ?_)
    exact ret_tmp1 rfl ⟨rfl, rfl⟩
end Go.Proofs.YtfnjeldpfilplaaGreatDoor

namespace Go.Proofs.YtfnjeldpfilplaaGreatDoor
open Go.Vc Sim
set_option maxHeartbeats 4000000 in
theorem planAll_spec (w0 : World) (hk : KwOk w0) (sh : Shared) (v : Value) (p : PP') (hp : RdP w0 sh v p) (hs : PP'.small p) (hb : ∀ o ∈ p.opers, PS.sizeL o.body ≤ 10000) :
    Vc.Fn PP w0 sh 11 [v] [] (fun r Γ => ∃ a c, r = .tuple #[.slice a (planA p).1.length c, .int .i64 (planA p).2] ∧ Γ = [Rds fun bl => RdPs w0 bl (.slice a (planA p).1.length c) (planA p).1]) := by
  have hty := typesCheck_spec w0 hk sh v p hp hs hb
  have hof := fun s => planOf_spec w0 hk sh v p s hp hs hb
  obtain ⟨⟨tn, tc⟩, hT⟩ : ∃ T, tyP p = T := ⟨_, rfl⟩
  rw [hT] at hty
  dsimp only at hty
  obtain ⟨vs, vo, rfl, h1, h2⟩ := hp
  obtain ⟨a1, c1, hvs, hc1, _⟩ := id h1
  obtain ⟨a2, c2, hvo, hc2⟩ := h2.len
  subst hvs; subst hvo
  refine fn_of_run en11 fn11 rfl rfl rfl ?_
  repeat (first | refine zck ?_ | refine zcl ?_ | refine zcm ?_ | refine zcn ?_)
  first | refine zcp (by kernel_rfl) ?_ | refine zcq PP_mixed (by kernel_rfl) (by kernel_rfl) ?_
  repeat' (refine zap rfl ?_; first | refine zaq (cs := [_, _]) rfl (fun tp => ?_) | refine zan rfl ?_)
  all_goals refine zch ?_
  all_goals repeat (first | refine zck ?_ | refine zcl ?_ | refine zcm ?_ | refine zcn ?_)
  refine run_share [0] rfl ?_
  repeat (first | refine zck ?_ | refine zcl ?_ | refine zcm ?_ | refine zcn ?_)
  first | refine zcp (by kernel_rfl) ?_ | refine zcq PP_mixed (by kernel_rfl) (by kernel_rfl) ?_
  repeat' (refine zap rfl ?_; first | refine zan rfl ?_ | refine zan rfl ?_ | refine zaa 0 rfl rfl rfl ?_ | refine zah [] hty rfl rfl rfl (fun p hp => .tail _ hp) rfl ?_ | refine zan rfl ?_)
  all_goals refine zch ?_
  all_goals repeat (first | refine zck ?_ | refine zcl ?_ | refine zcm ?_ | refine zcn ?_)
  by_cases hc : tc = 0
  rotate_left
  · have hA : planA p = ([], tc) := by rw [planA_ill (by rw [hT]; exact hc), hT]
    rw [hA]
    repeat (first | refine zck ?_ | refine zcl ?_ | refine zcm ?_ | refine zcn ?_)
    first | refine zcp (by kernel_rfl) ?_ | refine zcq PP_mixed (by kernel_rfl) (by kernel_rfl) ?_
    repeat' (refine zap rfl ?_; first | refine zan rfl ?_ | refine zbe rfl rfl (by omega) ?_)
    all_goals refine zch ?_
    all_goals repeat (first | refine zck ?_ | refine zcl ?_ | refine zcm ?_ | refine zcn ?_)
    refine zci rfl ?_
    repeat (first | refine zck ?_ | refine zcl ?_ | refine zcm ?_ | refine zcn ?_)
    first | refine zcp (by kernel_rfl) ?_ | refine zcq PP_mixed (by kernel_rfl) (by kernel_rfl) ?_
    repeat' (refine zap rfl ?_; first | refine zan rfl ?_ | refine zan rfl ?_)
    all_goals refine zch ?_
    all_goals repeat (first | refine zck ?_ | refine zcl ?_ | refine zcm ?_ | refine zcn ?_)
    refine run_emptyR (fun bl => RdPs w0 bl (.slice none 0 0) []) RdPs.nil ?_
    exact ret_tmp2 rfl ⟨none, 0, rfl, rfl⟩
  have hW : WellP p := wellP_iff.1 (by rw [hT]; exact hc)
  rw [planA_well hW]
  have hlen := (checkP_iff.1 hW.check).2.1
  repeat (first | refine zck ?_ | refine zcl ?_ | refine zcm ?_ | refine zcn ?_)
  first | refine zcp (by kernel_rfl) ?_ | refine zcq PP_mixed (by kernel_rfl) (by kernel_rfl) ?_
  repeat' (refine zap rfl ?_; first | refine zan rfl ?_ | refine zbf rfl rfl (by omega) ?_)
  all_goals refine zch ?_
  all_goals repeat (first | refine zck ?_ | refine zcl ?_ | refine zcm ?_ | refine zcn ?_)
  refine zcj rfl ?_
  repeat (first | refine zck ?_ | refine zcl ?_ | refine zcm ?_ | refine zcn ?_)
  first | refine zcp (by kernel_rfl) ?_ | refine zcq PP_mixed (by kernel_rfl) (by kernel_rfl) ?_
  repeat' (refine zap rfl ?_; first | refine zan rfl ?_)
  all_goals refine zch ?_
  all_goals repeat (first | refine zck ?_ | refine zcl ?_ | refine zcm ?_ | refine zcn ?_)
  repeat (first | refine zck ?_ | refine zcl ?_ | refine zcm ?_ | refine zcn ?_)
  first | refine zcp (by kernel_rfl) ?_ | refine zcq PP_mixed (by kernel_rfl) (by kernel_rfl) ?_
  repeat' (refine zap rfl ?_; first | refine zan rfl ?_ | refine zaa 0 rfl rfl rfl ?_ | refine zce rfl ?_ | refine zao rfl ?_)
  all_goals refine zch ?_
  all_goals repeat (first | refine zck ?_ | refine zcl ?_ | refine zcm ?_ | refine zcn ?_)
  refine run_nilslice 25 4 ?_
  refine run_emptyR (fun bl => ∀ y ∈ ([] : List PLA), RdSl w0 bl encY 1 (.slice y.2.1 y.1.stores.length y.2.2) y.1.stores) (fun y hy => by cases hy) ?_
  refine run_loop (S := Nat × Option Addr × Nat × List PLA) (fun s => [(1, .pointer (some ⟨tp, 0, none⟩)), (6, .slice s.2.1 s.1 s.2.2.1), (20, .slice a2 p.opers.length c2), (21, .int .i64 p.opers.length), (22, .int .i64 (s.1 : Int))])
    (fun s Γ => Γ = [Rds (fun bl => ∀ y ∈ s.2.2.2, RdSl w0 bl encY 1 (.slice y.2.1 y.1.stores.length y.2.2) y.1.stores), SlA 25 4 s.2.1 s.1 s.2.2.1 (s.2.2.2.flatMap plL)] ∧ s.1 ≤ p.opers.length ∧ s.2.2.2.length = s.1 ∧ s.2.2.2.map (·.1) = (p.opers.take s.1).map (planO p)) (fun s => p.opers.length - s.1) (0, none, 0, [])
    ⟨rfl, rfl, rfl, rfl, rfl, trivial⟩ ⟨rfl, Nat.zero_le _, rfl, rfl⟩ ?_
  rintro ⟨j, a, c, L⟩ Γ junk ⟨rfl, g1, g2, g3⟩
  dsimp only at g1 g2 g3 ⊢
  by_cases hj : j < p.opers.length
  · obtain ⟨o, ho⟩ : ∃ o, p.opers[j]? = some o := ⟨_, List.getElem?_eq_getElem hj⟩
    obtain ⟨b, off, cc, T, fr, cs, rfl, e2, e3, ⟨vp, vb, rfl, r1, r2⟩, _⟩ := h2.at ho
    obtain ⟨a3, c3, hvp, _⟩ := id r1
    obtain ⟨a4, c4, hvb, _⟩ := r2.len
    subst hvp; subst hvb
    have hom := List.mem_of_getElem? ho
    have hcall := hof o.name
    rw [planP_well hW hom] at hcall
    unfold POf at hcall
    dsimp only at hcall
    obtain ⟨X, hX⟩ : ∃ X, planO p o = X := ⟨_, rfl⟩
    rw [hX] at hcall
    repeat (first | refine zck ?_ | refine zcl ?_ | refine zcm ?_ | refine zcn ?_)
    first | refine zcp (by kernel_rfl) ?_ | refine zcq PP_mixed (by kernel_rfl) (by kernel_rfl) ?_
    repeat' (refine zap rfl ?_; first | refine zbg rfl rfl (by omega) ?_)
    all_goals refine zch ?_
    all_goals repeat (first | refine zck ?_ | refine zcl ?_ | refine zcm ?_ | refine zcn ?_)
    refine zci rfl ?_
    repeat (first | refine zck ?_ | refine zcl ?_ | refine zcm ?_ | refine zcn ?_)
    first | refine zcp (by kernel_rfl) ?_ | refine zcq PP_mixed (by kernel_rfl) (by kernel_rfl) ?_
    repeat' (refine zap rfl ?_; first | refine zad rfl (fun hF Γ w h1 h2 => e2 hF Γ w (fun p hp => h1 p (.tail _ hp)) h2) (e3 _ (by omega)) ?_ | refine zar (fun t8 => ?_) | refine zae 2 rfl rfl rfl rfl rfl rfl rfl ?_ | refine zas rfl rfl (by omega) ?_)
    all_goals refine zch ?_
    all_goals repeat (first | refine zck ?_ | refine zcl ?_ | refine zcm ?_ | refine zcn ?_)
    repeat (first | refine zck ?_ | refine zcl ?_ | refine zcm ?_ | refine zcn ?_)
    first | refine zcp (by kernel_rfl) ?_ | refine zcq PP_mixed (by kernel_rfl) (by kernel_rfl) ?_
    repeat' (refine zap rfl ?_; first | refine zar (fun t9 => ?_) | refine zan rfl ?_ | refine zan rfl ?_ | refine zaa 0 rfl rfl rfl ?_ | refine zab 2 rfl rfl rfl ?_ | (refine zai [] hcall rfl rfl rfl (fun p hp => .tail _ hp) ?_; rintro v Γ ⟨q, rfl, rfl⟩) | refine zao rfl ?_ | refine zan rfl ?_ | refine zae 4 rfl rfl rfl rfl rfl rfl rfl ?_)
    all_goals refine zch ?_
    all_goals repeat (first | refine zck ?_ | refine zcl ?_ | refine zcm ?_ | refine zcn ?_)
    repeat (first | refine zck ?_ | refine zcl ?_ | refine zcm ?_ | refine zcn ?_)
    first | refine zcp (by kernel_rfl) ?_ | refine zcq PP_mixed (by kernel_rfl) (by kernel_rfl) ?_
    repeat' (refine zap rfl ?_; first | refine zan rfl ?_ | refine zbf rfl rfl (by omega) ?_)
    all_goals refine zch ?_
    all_goals repeat (first | refine zck ?_ | refine zcl ?_ | refine zcm ?_ | refine zcn ?_)
    refine zcj rfl ?_
    repeat (first | refine zck ?_ | refine zcl ?_ | refine zcm ?_ | refine zcn ?_)
    first | refine zcp (by kernel_rfl) ?_ | refine zcq PP_mixed (by kernel_rfl) (by kernel_rfl) ?_
    repeat' (refine zap rfl ?_; first | refine reg_buildSlice rfl rfl rfl rfl rfl rfl (fun nb => ?_) | refine zan rfl ?_ | refine zan rfl ?_ | refine zab 4 rfl rfl rfl ?_ | refine reg_append 2 5 rfl rfl rfl rfl rfl rfl rfl rfl (by omega) (fun _ _ => rfl) (fun a5 c5 => ?_))
    all_goals refine zch ?_
    all_goals repeat (first | refine zck ?_ | refine zcl ?_ | refine zcm ?_ | refine zcn ?_)
    refine run_joinR [0, 0] (χ := fun bl => ∀ y ∈ L ++ [(X, q)], RdSl w0 bl encY 1 (.slice y.2.1 y.1.stores.length y.2.2) y.1.stores) rfl (fun q1 q2 h1 h2 y hy => by
      rcases List.mem_append.1 hy with hy | hy
      · exact (h2 y hy).mono fun p hp => List.mem_append_right _ hp
      · rw [List.mem_singleton.1 hy]; exact h1.mono fun p hp => List.mem_append_left _ hp) ?_
    refine run_take [0, 0] rfl ?_
    repeat' (first | refine zcp (by kernel_rfl) ?_ | (refine zap rfl ?_; first | refine zan rfl ?_ | refine zau rfl rfl (by omega) ?_) | refine zch ?_)
    refine cut_end ⟨rfl, (j + 1, a5, c5, L ++ [(X, q)]), ⟨rfl, rfl, rfl, rfl, int_eq (by dsimp only; omega), trivial⟩, ⟨?_, by dsimp only; omega, by dsimp only; rw [List.length_append, g2]; rfl, ?_⟩, by dsimp only; omega⟩
    · dsimp only
      rw [List.flatMap_append]
      rfl
    · dsimp only
      rw [List.map_append, g3, take_snoc ho, List.map_append, ← hX]
      rfl
  · repeat (first | refine zck ?_ | refine zcl ?_ | refine zcm ?_ | refine zcn ?_)
    first | refine zcp (by kernel_rfl) ?_ | refine zcq PP_mixed (by kernel_rfl) (by kernel_rfl) ?_
    repeat' (refine zap rfl ?_; first | refine zbh rfl rfl (by omega) ?_)
    all_goals refine zch ?_
    all_goals repeat (first | refine zck ?_ | refine zcl ?_ | refine zcm ?_ | refine zcn ?_)
    refine zcj rfl ?_
    refine cut_exit rfl rfl ?_
    have hjl : j = p.opers.length := by omega
    subst hjl
    rw [List.take_of_length_le (Nat.le_refl _)] at g3
    refine run_slR plL 1 (l := L) rfl rfl (fun _ _ => rfl) g2 rfl ?_
    have hml : (p.opers.map (planO p)).length = p.opers.length := List.length_map ..
    refine run_joinR [0, 0] (χ := fun bl => RdPs w0 bl (.slice a p.opers.length c) (p.opers.map (planO p))) rfl (fun q1 q2 h1 h2 => by
      first
      | exact ⟨L, g3, h1.mono fun p hp => List.mem_append_left _ hp, fun y hy => (h2 y hy).mono fun p hp => List.mem_append_right _ hp⟩
      | exact ⟨L, g3, h2.mono fun p hp => List.mem_append_right _ hp, fun y hy => (h1 y hy).mono fun p hp => List.mem_append_left _ hp⟩) ?_
    repeat' (first | refine zck ?_ | refine zcp (by kernel_rfl) ?_ | (refine zap rfl ?_; first | refine zan rfl ?_ | refine zan rfl ?_) | refine zch ?_)
    rw [hml]
    exact ret_tmp2 rfl ⟨a, c, rfl, rfl⟩
theorem class_spec (w0 : World) (r w : Nat) : FnE PP w0 [] 15 [.int .i64 (r : Nat), .int .i64 (w : Nat)] [] (.int .i64 (if w ≠ 0 then 2 else if r ≠ 0 then 1 else 0)) [] := by
  by_cases hw : w = 0
  · by_cases hr : r = 0
    · rw [if_neg (fun q => q hw), if_neg (fun q => q hr)]
      refine fn_of_run en15 fn15 rfl rfl rfl ?_
      repeat' (first | refine zck ?_ | refine zcp (by kernel_rfl) ?_ | refine zcm ?_ | (refine zap rfl ?_; first | refine zan rfl ?_ | refine zan rfl ?_ | refine zbl rfl rfl (by omega) ?_) | refine zch ?_ | refine zcj rfl ?_)
      exact ret_tmp1 rfl ⟨rfl, rfl⟩
    · rw [if_neg (fun q => q hw), if_pos hr]
      refine fn_of_run en15 fn15 rfl rfl rfl ?_
      repeat' (first | refine zck ?_ | refine zcp (by kernel_rfl) ?_ | refine zcm ?_ | (refine zap rfl ?_; first | refine zan rfl ?_ | refine zan rfl ?_ | refine zbk rfl rfl (by omega) ?_ | refine zbl rfl rfl (by omega) ?_) | refine zch ?_ | refine zci rfl ?_ | refine zcj rfl ?_)
      exact ret_tmp1 rfl ⟨rfl, rfl⟩
  · rw [if_pos hw]
    refine fn_of_run en15 fn15 rfl rfl rfl ?_
    repeat' (first | refine zck ?_ | refine zcp (by kernel_rfl) ?_ | (refine zap rfl ?_; first | refine zan rfl ?_ | refine zan rfl ?_ | refine zbk rfl rfl (by omega) ?_) | refine zch ?_ | refine zci rfl ?_)
    exact ret_tmp1 rfl ⟨rfl, rfl⟩
end Go.Proofs.YtfnjeldpfilplaaGreatDoor

namespace Go.Vc
open Sim
end Go.Vc
namespace Go.Proofs.YtfnjeldpfilplaaGreatDoor
open Go.Vc Sim
end Go.Proofs.YtfnjeldpfilplaaGreatDoor

namespace Sim
end Sim

namespace Sim
end Sim
namespace Go.Proofs.YtfnjeldpfilplaaGreatDoor
open Go.Vc Sim
end Go.Proofs.YtfnjeldpfilplaaGreatDoor

namespace Sim
end Sim
namespace Go.Vc
open Sim
theorem RdEfV.parts {w0 : World} {sh : Shared} {p : P6} {e : Ef} (h : RdEfV w0 sh (efV p e) e) : RdSl w0 sh encY 1 (.slice p.1.1 e.reads.length p.1.2) e.reads ∧ RdSl w0 sh encY 1 (.slice p.2.1.1 e.writes.length p.2.1.2) e.writes ∧ RdSl w0 sh encY 1 (.slice p.2.2.1 e.hosts.length p.2.2.2) e.hosts := by
  obtain ⟨_, e1, v1, v2, v3, rfl, h1, h2, h3⟩ := h
  simp at e1
  obtain ⟨rfl, rfl, rfl⟩ := e1
  exact ⟨h1, h2, h3⟩
end Go.Vc
namespace Go.Proofs.YtfnjeldpfilplaaGreatDoor
open Go.Vc Sim
end Go.Proofs.YtfnjeldpfilplaaGreatDoor

namespace Go.Proofs.YtfnjeldpfilplaaGreatDoor
open Go.Vc Sim
end Go.Proofs.YtfnjeldpfilplaaGreatDoor

namespace Sim
end Sim
namespace Go.Vc
open Sim
theorem RdEs.app {w0 : World} {sh : Shared} : ∀ {l l' : List PE} {cl cl' : List (List Value)}, RdEs w0 sh l cl → RdEs w0 sh l' cl' → RdEs w0 sh (l ++ l') (cl ++ cl')
  | [], _, _, _, h, h2 => by unfold RdEs at h; rw [h]; exact h2
  | e :: l, _, _, _, h, h2 => by
    unfold RdEs at h
    obtain ⟨c, cl', rfl, h3, h4⟩ := h
    rw [List.cons_append]
    unfold RdEs
    exact ⟨c, _, rfl, h3, RdEs.app h4 h2⟩
theorem RdEs.flat {w0 : World} {sh : Shared} : ∀ {l : List PE} {cl : List (List Value)}, RdEs w0 sh l cl → allOne (cl.flatMap fun x => x) = true ∧ ∀ c ∈ cl, c.length = 6
  | [], _, h => by unfold RdEs at h; rw [h]; exact ⟨rfl, by simp⟩
  | .mk _ _ _ _ _ _ :: l, _, h => by
    unfold RdEs at h
    obtain ⟨c, cl', rfl, h2, h3⟩ := h
    obtain ⟨i1, i2⟩ := RdEs.flat h3
    unfold RdE at h2
    obtain ⟨va, vo, c3, c4, rfl, ha, _, ho, _⟩ := h2
    obtain ⟨x3, y3, rfl, _⟩ := ha
    obtain ⟨x4, y4, rfl, _⟩ := ho
    refine ⟨?_, fun c hc => ?_⟩
    · rw [List.flatMap_cons]
      exact allOne_app rfl i1
    · rcases List.mem_cons.1 hc with rfl | hc
      · rfl
      · exact i2 c hc
end Go.Vc

namespace Sim
end Sim
namespace Go.Proofs.YtfnjeldpfilplaaGreatDoor
open Go.Vc Sim
end Go.Proofs.YtfnjeldpfilplaaGreatDoor

namespace Go.Vc
open Sim
structure RdW (w0 : World) (sh : Shared) (vst vkn vml : Value) (st : List (ByteArray × ByteArray)) : Prop where
  s : RdSl w0 sh encD 2 vst st
  k : RdSl w0 sh encY 1 vkn ctNames
  m : RdSl w0 sh encMA 3 vml ctA
theorem RdW.mono {w0 : World} {sh sh' : Shared} {vst vkn vml : Value} {st : List (ByteArray × ByteArray)} (h : RdW w0 sh vst vkn vml st) (hs : ∀ p ∈ sh, p ∈ sh') : RdW w0 sh' vst vkn vml st := ⟨h.s.mono hs, h.k.mono hs, h.m.mono hs⟩
end Go.Vc
namespace Sim
end Sim
namespace Go.Proofs.YtfnjeldpfilplaaGreatDoor
open Go.Vc Sim
end Go.Proofs.YtfnjeldpfilplaaGreatDoor

namespace Sim
end Sim
namespace Go.Vc
open Sim
end Go.Vc
namespace Go.Proofs.YtfnjeldpfilplaaGreatDoor
open Go.Vc Sim
end Go.Proofs.YtfnjeldpfilplaaGreatDoor

namespace Sim
end Sim
namespace Go.Vc
open Sim
end Go.Vc
namespace Go.Proofs.YtfnjeldpfilplaaGreatDoor
open Go.Vc Sim
end Go.Proofs.YtfnjeldpfilplaaGreatDoor

namespace Sim
end Sim
namespace Go.Vc
open Sim
abbrev sl2 (b : Nat) : Value := .slice (some ⟨b, 0, none⟩) 2 2
abbrev sl1 (b : Nat) : Value := .slice (some ⟨b, 0, none⟩) 1 1
abbrev nilS : Value := .slice none 0 0
abbrev cE (e : PE) (va vo : Value) : List Value := peC e.kind e.num e.name e.meth va vo
end Go.Vc
namespace Go.Proofs.YtfnjeldpfilplaaGreatDoor
open Go.Vc Sim
open Go.Vc Sim
end Go.Proofs.YtfnjeldpfilplaaGreatDoor

