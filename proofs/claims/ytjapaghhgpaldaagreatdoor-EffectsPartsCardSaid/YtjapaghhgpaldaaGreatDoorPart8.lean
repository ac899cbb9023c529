import Derived.OpenShut
import Derived.Test.YtjapaghhgpaldaaGreatDoorPart7
import Derived.Test.YtjapaghhgpaldaaGreatDoorPart3
import Derived.Test.YtjapaghhgpaldaaGreatDoorPart1
import Derived.Test.YtjapaghhgpaldaaGreatDoorKit
/- Lemmas and walks for the claims of this seat (own work): Gt2 Gp0. -/
namespace Sim
def PO.cost (o : PO) : Nat := 1 + PS.sizeL o.body + o.params.length
def PO.costL : List PO → Nat
  | [] => 0
  | o :: l => o.cost + PO.costL l
theorem PO.costL_mem : ∀ {l : List PO} {o : PO}, o ∈ l → o.cost ≤ PO.costL l
  | x :: l, o, h => by
    unfold PO.costL
    rcases List.mem_cons.1 h with rfl | h
    · omega
    · have := PO.costL_mem h; omega
theorem PO.costL_len : ∀ l : List PO, l.length ≤ PO.costL l
  | [] => Nat.zero_le _
  | x :: l => by have := PO.costL_len l; unfold PO.costL PO.cost; simp only [List.length_cons]; omega
theorem PO.costL_snoc : ∀ {l : List PO} {j : Nat} {x : PO}, l[j]? = some x → PO.costL (l.take (j + 1)) = PO.costL (l.take j) + x.cost
  | e :: l, 0, x, h => by simp at h; subst h; simp [PO.costL]
  | e :: l, j + 1, x, h => by
    have := PO.costL_snoc (l := l) (j := j) (x := x) (by simpa using h)
    rw [List.take_succ_cons, List.take_succ_cons, PO.costL, PO.costL, this]; omega
def PP'.sz (p : PP') : Prop := (∀ d ∈ p.stores, szB d.1 ∧ szB d.2) ∧ p.stores.length ≤ 1125899906842624 ∧ p.opers.length ≤ 1125899906842624 ∧ ∀ o ∈ p.opers, szB o.name ∧ (∀ s ∈ o.params, szB s) ∧ o.params.length ≤ 1125899906842624 ∧ PS.szL o.body
end Sim
namespace Go.Proofs.YtjapaghhgpaldaaGreatDoor
open Go.Vc Sim
set_option maxHeartbeats 8000000 in
theorem greatP_spec (w0 : World) (sh : Shared) (v : Value) (p : PP') (hp : RdP w0 sh v p) (hz : p.sz) :
    Vc.Fn PP w0 sh 8 [v] [] (fun v Γ => Γ = [] ∧ ∃ B, v = .bool B ∧ (B = false → PO.costL p.opers + p.stores.length ≤ 400)) := by
  obtain ⟨vs, vo, hv, h1, h2⟩ := hp
  subst hv
  obtain ⟨a1, c1, hvs, hc1, _⟩ := id h1
  obtain ⟨a2, c2, hvo, hc2⟩ := h2.len
  subst hvs; subst hvo
  obtain ⟨z1, z2, z3, z4⟩ := hz
  refine fn_of_run en8 fn8 rfl rfl rfl ?_
  repeat (first | refine zck ?_ | refine zcl ?_ | refine zcm ?_ | refine zcn ?_)
  first | refine zcp (by kernel_rfl) ?_ | refine zcq PP_mixed (by kernel_rfl) (by kernel_rfl) ?_
  repeat' (refine zap rfl ?_; first | refine zaj rfl ?_ | refine zak rfl ?_ | refine zal rfl ?_ | refine zam rfl rfl (fun _ => ?_) (fun _ => ?_) | refine zan rfl ?_ | refine zan rfl ?_ | refine zaa 0 rfl rfl rfl ?_ | refine zaa 1 rfl rfl rfl ?_ | refine zaa 2 rfl rfl rfl ?_ | refine zaa 3 rfl rfl rfl ?_ | refine zaa 4 rfl rfl rfl ?_ | refine zaa 5 rfl rfl rfl ?_ | refine zab 0 rfl rfl rfl ?_ | refine zab 1 rfl rfl rfl ?_ | refine zab 2 rfl rfl rfl ?_ | refine zab 3 rfl rfl rfl ?_ | refine zab 4 rfl rfl rfl ?_ | refine zab 5 rfl rfl rfl ?_ | refine zce rfl ?_ | refine zao rfl ?_ | refine reg_addZ rfl rfl (by omega) ?_ | refine zau rfl rfl (by omega) ?_ | refine zav rfl rfl (by omega) ?_ | refine zbq rfl rfl ?_ | refine zbt rfl rfl ?_ | refine zax rfl rfl (by omega) ?_ | refine zbu rfl ?_ | refine zbv rfl ?_ | refine zbw rfl rfl rfl ?_ | refine zas rfl rfl (by omega) ?_ | refine zat rfl rfl (by omega) ?_ | refine zaq (cs := [_, _]) rfl (fun nb => ?_))
  all_goals refine zch ?_
  all_goals repeat (first | refine zck ?_ | refine zcl ?_ | refine zcm ?_ | refine zcn ?_)
  refine run_share [0] rfl ?_
  obtain ⟨be, hbe⟩ : ∃ b, b = nb := ⟨_, rfl⟩
  subst hbe
  repeat (first | refine zck ?_ | refine zcl ?_ | refine zcm ?_ | refine zcn ?_)
  first | refine zcp (by kernel_rfl) ?_ | refine zcq PP_mixed (by kernel_rfl) (by kernel_rfl) ?_
  repeat' (refine zap rfl ?_; first | refine zaj rfl ?_ | refine zak rfl ?_ | refine zal rfl ?_ | refine zam rfl rfl (fun _ => ?_) (fun _ => ?_) | refine zan rfl ?_ | refine zan rfl ?_ | refine zaa 0 rfl rfl rfl ?_ | refine zaa 1 rfl rfl rfl ?_ | refine zaa 2 rfl rfl rfl ?_ | refine zaa 3 rfl rfl rfl ?_ | refine zaa 4 rfl rfl rfl ?_ | refine zaa 5 rfl rfl rfl ?_ | refine zab 0 rfl rfl rfl ?_ | refine zab 1 rfl rfl rfl ?_ | refine zab 2 rfl rfl rfl ?_ | refine zab 3 rfl rfl rfl ?_ | refine zab 4 rfl rfl rfl ?_ | refine zab 5 rfl rfl rfl ?_ | refine zce rfl ?_ | refine zao rfl ?_ | refine reg_addZ rfl rfl (by omega) ?_ | refine zau rfl rfl (by omega) ?_ | refine zav rfl rfl (by omega) ?_ | refine zbq rfl rfl ?_ | refine zbt rfl rfl ?_ | refine zax rfl rfl (by omega) ?_ | refine zbu rfl ?_ | refine zbv rfl ?_ | refine zbw rfl rfl rfl ?_ | refine zas rfl rfl (by omega) ?_ | refine zat rfl rfl (by omega) ?_ | refine zaq (cs := [_, _]) rfl (fun nb => ?_))
  all_goals refine zch ?_
  all_goals repeat (first | refine zck ?_ | refine zcl ?_ | refine zcm ?_ | refine zcn ?_)
  repeat (first | refine zck ?_ | refine zcl ?_ | refine zcm ?_ | refine zcn ?_)
  first | refine zcp (by kernel_rfl) ?_ | refine zcq PP_mixed (by kernel_rfl) (by kernel_rfl) ?_
  repeat' (refine zap rfl ?_; first | refine zaj rfl ?_ | refine zak rfl ?_ | refine zal rfl ?_ | refine zam rfl rfl (fun _ => ?_) (fun _ => ?_) | refine zan rfl ?_ | refine zan rfl ?_ | refine zaa 0 rfl rfl rfl ?_ | refine zaa 1 rfl rfl rfl ?_ | refine zaa 2 rfl rfl rfl ?_ | refine zaa 3 rfl rfl rfl ?_ | refine zaa 4 rfl rfl rfl ?_ | refine zaa 5 rfl rfl rfl ?_ | refine zab 0 rfl rfl rfl ?_ | refine zab 1 rfl rfl rfl ?_ | refine zab 2 rfl rfl rfl ?_ | refine zab 3 rfl rfl rfl ?_ | refine zab 4 rfl rfl rfl ?_ | refine zab 5 rfl rfl rfl ?_ | refine zce rfl ?_ | refine zao rfl ?_ | refine reg_addZ rfl rfl (by omega) ?_ | refine zau rfl rfl (by omega) ?_ | refine zav rfl rfl (by omega) ?_ | refine zbq rfl rfl ?_ | refine zbt rfl rfl ?_ | refine zax rfl rfl (by omega) ?_ | refine zbu rfl ?_ | refine zbv rfl ?_ | refine zbw rfl rfl rfl ?_ | refine zas rfl rfl (by omega) ?_ | refine zat rfl rfl (by omega) ?_ | refine zaq (cs := [_, _]) rfl (fun nb => ?_))
  all_goals refine zch ?_
  all_goals repeat (refine zck ?_)
  refine run_bind_eq2 (σ := { L : Int // -2000000000000000000 ≤ L ∧ L ≤ 400 ∧ (0 ≤ L → L + PO.costL p.opers ≤ 400) }) (l' := fun s => [(1, .pointer (some ⟨be, 0, none⟩)), (3, .int .i64 s.1)]) (Γ' := fun _ => []) ?_ ?_
  · refine zcl ?_
    refine run_loop (S := Nat × Int) (fun s => [(1, .pointer (some ⟨be, 0, none⟩)), (3, .int .i64 s.2), (4, .int .i64 s.1)])
      (fun s Γ => Γ = [] ∧ s.1 ≤ p.opers.length ∧ -2000000000000000000 ≤ s.2 ∧ s.2 ≤ 400 ∧ (0 ≤ s.2 → s.2 + PO.costL (p.opers.take s.1) ≤ 400)) (fun s => p.opers.length - s.1) (0, 400)
      ⟨rfl, rfl, rfl, trivial⟩ ⟨rfl, Nat.zero_le _, by dsimp only; omega, by dsimp only; omega, fun _ => by simp [PO.costL]⟩ ?_
    rintro ⟨j, L⟩ Γ junk ⟨rfl, q1, q2, q3, q4⟩
    dsimp only at q1 q2 q3 q4 ⊢
    by_cases hj : j < p.opers.length ∧ 0 ≤ L
    · obtain ⟨hj, hL⟩ := hj
      obtain ⟨x, hx⟩ : ∃ x, p.opers[j]? = some x := ⟨_, List.getElem?_eq_getElem hj⟩
      obtain ⟨b, off, cc, T, fr, cs, rfl, e2, e3, ⟨vp, vb, rfl, r1, r2⟩, e5⟩ := h2.at hx
      have hxm := List.mem_iff_getElem?.2 ⟨_, hx⟩
      obtain ⟨y1, y2, y3, y4⟩ := z4 x hxm
      unfold szB at y1
      have k1 := fun L1 h1 h2 => room_spec w0 (PS.sizeL x.body) sh vb x.body L1 (Nat.le_refl _) y4 r2 h1 h2
      obtain ⟨a3, c3, hvp, _⟩ := id r1
      obtain ⟨a4, c4, hvb, _⟩ := r2.len
      subst hvp; subst hvb
      have hsn := PO.costL_snoc hx
      have hq4 := q4 hL
      have em : ∀ hF Γ w, Sh ((be, Obj.cells (List.toArray [Value.slice a1 p.stores.length c1, Value.slice (some ⟨b, off, none⟩) p.opers.length c2]) 25 (0, 0)) :: sh) hF → St w0 hF Γ w → w.heap[b]? = some (.cells cc T fr) := fun hF Γ w h1 h2 => e2 hF Γ w (fun p hp => h1 p (by simp [hp])) h2
      repeat (first | refine zck ?_ | refine zcl ?_ | refine zcm ?_ | refine zcn ?_)
      first | refine zcp (by kernel_rfl) ?_ | refine zcq PP_mixed (by kernel_rfl) (by kernel_rfl) ?_
      repeat' (refine zap rfl ?_; first | refine zaj rfl ?_ | refine zak rfl ?_ | refine zal rfl ?_ | refine zam rfl rfl (fun _ => ?_) (fun _ => ?_) | refine zan rfl ?_ | refine zan rfl ?_ | refine zaa 0 rfl rfl rfl ?_ | refine zaa 1 rfl rfl rfl ?_ | refine zaa 2 rfl rfl rfl ?_ | refine zaa 3 rfl rfl rfl ?_ | refine zaa 4 rfl rfl rfl ?_ | refine zaa 5 rfl rfl rfl ?_ | refine zab 0 rfl rfl rfl ?_ | refine zab 1 rfl rfl rfl ?_ | refine zab 2 rfl rfl rfl ?_ | refine zab 3 rfl rfl rfl ?_ | refine zab 4 rfl rfl rfl ?_ | refine zab 5 rfl rfl rfl ?_ | refine zce rfl ?_ | refine zao rfl ?_ | refine zbg rfl rfl (by omega) ?_ | refine zbh rfl rfl (by omega) ?_ | refine zbm rfl rfl (by omega) ?_ | refine zbn rfl rfl (by omega) ?_ | refine reg_addZ rfl rfl (by omega) ?_ | refine zau rfl rfl (by omega) ?_ | refine zav rfl rfl (by omega) ?_ | refine zbq rfl rfl ?_ | refine zbt rfl rfl ?_ | refine zax rfl rfl (by omega) ?_ | refine zbu rfl ?_ | refine zbv rfl ?_ | refine zbw rfl rfl rfl ?_ | refine zas rfl rfl (by omega) ?_ | refine zat rfl rfl (by omega) ?_ | refine zaq (cs := [_, _]) rfl (fun nb => ?_))
      all_goals refine zch ?_
      all_goals repeat (first | refine zck ?_ | refine zcl ?_ | refine zcm ?_ | refine zcn ?_)
      refine zci rfl ?_
      repeat (first | refine zck ?_ | refine zcl ?_ | refine zcm ?_ | refine zcn ?_)
      first | refine zcp (by kernel_rfl) ?_ | refine zcq PP_mixed (by kernel_rfl) (by kernel_rfl) ?_
      repeat' (refine zap rfl ?_; first | refine zad rfl em (e5 2 _ rfl _ (by omega)) ?_ | refine zad rfl em (e5 1 _ rfl _ (by omega)) ?_ | refine zad rfl em (e5 0 _ rfl _ (by omega)) ?_ | refine zaj rfl ?_ | refine zak rfl ?_ | refine zal rfl ?_ | refine zam rfl rfl (fun _ => ?_) (fun _ => ?_) | refine zan rfl ?_ | refine zan rfl ?_ | refine zaa 0 rfl rfl rfl ?_ | refine zaa 1 rfl rfl rfl ?_ | refine zaa 2 rfl rfl rfl ?_ | refine zaa 3 rfl rfl rfl ?_ | refine zaa 4 rfl rfl rfl ?_ | refine zaa 5 rfl rfl rfl ?_ | refine zab 0 rfl rfl rfl ?_ | refine zab 1 rfl rfl rfl ?_ | refine zab 2 rfl rfl rfl ?_ | refine zab 3 rfl rfl rfl ?_ | refine zab 4 rfl rfl rfl ?_ | refine zab 5 rfl rfl rfl ?_ | refine reg_lenS rfl ?_ | refine zce rfl ?_ | (refine zai [] (k1 _ (by omega) (by omega)) rfl rfl rfl (fun p hp => by simp [hp]) ?_; rintro v Γ ⟨rfl, L2, rfl, p1, p2, p3⟩) | refine zce rfl ?_ | refine zao rfl ?_ | refine zbg rfl rfl (by omega) ?_ | refine zbh rfl rfl (by omega) ?_ | refine zbm rfl rfl (by omega) ?_ | refine zbn rfl rfl (by omega) ?_ | refine reg_addZ rfl rfl (by omega) ?_ | refine zau rfl rfl (by omega) ?_ | refine zav rfl rfl (by omega) ?_ | refine zbq rfl rfl ?_ | refine zbt rfl rfl ?_ | refine zax rfl rfl (by omega) ?_ | refine zbu rfl ?_ | refine zbv rfl ?_ | refine zbw rfl rfl rfl ?_ | refine zas rfl rfl (by omega) ?_ | refine zat rfl rfl (by omega) ?_ | refine zaq (cs := [_, _]) rfl (fun nb => ?_))
      all_goals refine zch ?_
      all_goals repeat (first | refine zck ?_ | refine zcl ?_ | refine zcm ?_ | refine zcn ?_)
      have hcost : 0 ≤ L2 → L2 + PO.costL (p.opers.take (j + 1)) ≤ 400 := fun h => by rw [hsn]; have := p3 h; unfold PO.cost; omega
      repeat (first | refine zck ?_ | refine zcl ?_ | refine zcm ?_ | refine zcn ?_)
      first | refine zcp (by kernel_rfl) ?_ | refine zcq PP_mixed (by kernel_rfl) (by kernel_rfl) ?_
      repeat' (refine zap rfl ?_; first | refine zaj rfl ?_ | refine zak rfl ?_ | refine zal rfl ?_ | refine zam rfl rfl (fun _ => ?_) (fun _ => ?_) | refine zan rfl ?_ | refine zan rfl ?_ | refine zaa 0 rfl rfl rfl ?_ | refine zaa 1 rfl rfl rfl ?_ | refine zaa 2 rfl rfl rfl ?_ | refine zaa 3 rfl rfl rfl ?_ | refine zaa 4 rfl rfl rfl ?_ | refine zaa 5 rfl rfl rfl ?_ | refine zab 0 rfl rfl rfl ?_ | refine zab 1 rfl rfl rfl ?_ | refine zab 2 rfl rfl rfl ?_ | refine zab 3 rfl rfl rfl ?_ | refine zab 4 rfl rfl rfl ?_ | refine zab 5 rfl rfl rfl ?_ | refine zce rfl ?_ | refine zao rfl ?_ | refine reg_addZ rfl rfl (by omega) ?_ | refine zau rfl rfl (by omega) ?_ | refine zav rfl rfl (by omega) ?_ | refine zbq rfl rfl ?_ | refine zbt rfl rfl ?_ | refine zax rfl rfl (by omega) ?_ | refine zbu rfl ?_ | refine zbv rfl ?_ | refine zbw rfl rfl rfl ?_ | refine zas rfl rfl (by omega) ?_ | refine zat rfl rfl (by omega) ?_ | refine zaq (cs := [_, _]) rfl (fun nb => ?_))
      all_goals refine zch ?_
      all_goals repeat (refine zck ?_)
      refine run_bind_eq2 (σ := { L : Int // -2000000000000000000 ≤ L ∧ L ≤ L2 }) (l' := fun s => [(1, .pointer (some ⟨be, 0, none⟩)), (3, .int .i64 s.1), (4, .int .i64 j)]) (Γ' := fun _ => []) ?_ ?_
      · refine zcl ?_
        refine run_loop (S := Nat × Int) (fun s => [(1, .pointer (some ⟨be, 0, none⟩)), (3, .int .i64 s.2), (4, .int .i64 j), (5, .int .i64 s.1)])
          (fun s Γ => Γ = [] ∧ s.1 ≤ x.params.length ∧ s.1 ≤ 20 ∧ -200000000000000000 - 50000000000000000 * (s.1 : Int) ≤ s.2 ∧ s.2 ≤ L2) (fun s => x.params.length - s.1) (0, L2)
          ⟨rfl, rfl, rfl, rfl, trivial⟩ ⟨rfl, Nat.zero_le _, by dsimp only; omega, by dsimp only; omega, by dsimp only; omega⟩ ?_
        rintro ⟨i, L3⟩ Γ junk ⟨rfl, w1, w2, w3, w4⟩
        dsimp only at w1 w2 w3 w4 ⊢
        by_cases hi : i < x.params.length ∧ i < 20
        · obtain ⟨hi, hi2⟩ := hi
          obtain ⟨s, hs⟩ : ∃ s, x.params[i]? = some s := ⟨_, List.getElem?_eq_getElem hi⟩
          obtain ⟨b3, off3, cc3, T3, fr3, rfl, g2, _, g3⟩ := r1.cells hs
          have hsz := y2 s (List.mem_iff_getElem?.2 ⟨_, hs⟩)
          unfold szB at hsz
          have em3 : ∀ hF Γ w, Sh ((be, Obj.cells (List.toArray [Value.slice a1 p.stores.length c1, Value.slice (some ⟨b, off, none⟩) p.opers.length c2]) 25 (0, 0)) :: sh) hF → St w0 hF Γ w → w.heap[b3]? = some (.cells cc3 T3 fr3) := fun hF Γ w h1 h2 => g2 hF Γ w (fun p hp => h1 p (by simp [hp])) h2
          repeat' (first | refine zck ?_ | refine zcp (by kernel_rfl) ?_ | refine zcq PP_mixed (by kernel_rfl) (by kernel_rfl) ?_ | refine zcm ?_ | refine zcl ?_ | refine zcn ?_ | refine zco ?_ | refine zcs rfl ?_ | (refine zap rfl ?_; first | refine zad rfl em (e5 1 _ rfl _ (by omega)) ?_ | refine zad rfl em3 (g3 0 _ rfl _ (by omega)) ?_ | refine zaj rfl ?_ | refine zak rfl ?_ | refine zal rfl ?_ | refine zam rfl rfl (fun _ => ?_) (fun _ => ?_) | refine zan rfl ?_ | refine zan rfl ?_ | refine zaa 0 rfl rfl rfl ?_ | refine zaa 1 rfl rfl rfl ?_ | refine zaa 2 rfl rfl rfl ?_ | refine zaa 3 rfl rfl rfl ?_ | refine zaa 4 rfl rfl rfl ?_ | refine zaa 5 rfl rfl rfl ?_ | refine zab 0 rfl rfl rfl ?_ | refine zab 1 rfl rfl rfl ?_ | refine zab 2 rfl rfl rfl ?_ | refine zab 3 rfl rfl rfl ?_ | refine zab 4 rfl rfl rfl ?_ | refine zab 5 rfl rfl rfl ?_ | refine reg_lenS rfl ?_ | refine zce rfl ?_ | refine zce rfl ?_ | refine zao rfl ?_ | refine zbg rfl rfl (by omega) ?_ | refine zbh rfl rfl (by omega) ?_ | refine zbm rfl rfl (by omega) ?_ | refine zbn rfl rfl (by omega) ?_ | refine reg_addZ rfl rfl (by omega) ?_ | refine zau rfl rfl (by omega) ?_ | refine zav rfl rfl (by omega) ?_ | refine zbq rfl rfl ?_ | refine zbt rfl rfl ?_ | refine zax rfl rfl (by omega) ?_ | refine zbu rfl ?_ | refine zbv rfl ?_ | refine zbw rfl rfl rfl ?_ | refine zas rfl rfl (by omega) ?_ | refine zat rfl rfl (by omega) ?_ | refine zaq (cs := [_, _]) rfl (fun nb => ?_)) | refine zch ?_ | refine zci rfl ?_ | refine zcj rfl ?_)
          exact cut_end ⟨rfl, (i + 1, L3 - ((s.size : Nat) : Int) / 100), ⟨rfl, rfl, rfl, int_eq (by dsimp only; omega), trivial⟩, ⟨rfl, by dsimp only; omega, by dsimp only; omega, by dsimp only; omega, by dsimp only; omega⟩, by dsimp only; omega⟩
        · by_cases hi1 : i < x.params.length
          · repeat' (first | refine zck ?_ | refine zcp (by kernel_rfl) ?_ | refine zcq PP_mixed (by kernel_rfl) (by kernel_rfl) ?_ | refine zcm ?_ | refine zcl ?_ | refine zcn ?_ | refine zco ?_ | refine zcs rfl ?_ | (refine zap rfl ?_; first | refine zad rfl em (e5 1 _ rfl _ (by omega)) ?_ | refine zaj rfl ?_ | refine zak rfl ?_ | refine zal rfl ?_ | refine zam rfl rfl (fun _ => ?_) (fun _ => ?_) | refine zan rfl ?_ | refine zan rfl ?_ | refine zaa 0 rfl rfl rfl ?_ | refine zaa 1 rfl rfl rfl ?_ | refine zaa 2 rfl rfl rfl ?_ | refine zaa 3 rfl rfl rfl ?_ | refine zaa 4 rfl rfl rfl ?_ | refine zaa 5 rfl rfl rfl ?_ | refine zab 0 rfl rfl rfl ?_ | refine zab 1 rfl rfl rfl ?_ | refine zab 2 rfl rfl rfl ?_ | refine zab 3 rfl rfl rfl ?_ | refine zab 4 rfl rfl rfl ?_ | refine zab 5 rfl rfl rfl ?_ | refine zce rfl ?_ | refine zao rfl ?_ | refine zbg rfl rfl (by omega) ?_ | refine zbh rfl rfl (by omega) ?_ | refine zbm rfl rfl (by omega) ?_ | refine zbn rfl rfl (by omega) ?_ | refine reg_addZ rfl rfl (by omega) ?_ | refine zau rfl rfl (by omega) ?_ | refine zav rfl rfl (by omega) ?_ | refine zbq rfl rfl ?_ | refine zbt rfl rfl ?_ | refine zax rfl rfl (by omega) ?_ | refine zbu rfl ?_ | refine zbv rfl ?_ | refine zbw rfl rfl rfl ?_ | refine zas rfl rfl (by omega) ?_ | refine zat rfl rfl (by omega) ?_ | refine zaq (cs := [_, _]) rfl (fun nb => ?_)) | refine zch ?_ | refine zci rfl ?_ | refine zcj rfl ?_)
            refine cut_exit rfl rfl ?_
            exact cut_end ⟨rfl, ⟨L3, by omega, w4⟩, ⟨rfl, rfl, rfl, trivial⟩, rfl⟩
          · repeat' (first | refine zck ?_ | refine zcp (by kernel_rfl) ?_ | refine zcq PP_mixed (by kernel_rfl) (by kernel_rfl) ?_ | refine zcm ?_ | refine zcl ?_ | refine zcn ?_ | refine zco ?_ | refine zcs rfl ?_ | (refine zap rfl ?_; first | refine zad rfl em (e5 1 _ rfl _ (by omega)) ?_ | refine zaj rfl ?_ | refine zak rfl ?_ | refine zal rfl ?_ | refine zam rfl rfl (fun _ => ?_) (fun _ => ?_) | refine zan rfl ?_ | refine zan rfl ?_ | refine zaa 0 rfl rfl rfl ?_ | refine zaa 1 rfl rfl rfl ?_ | refine zaa 2 rfl rfl rfl ?_ | refine zaa 3 rfl rfl rfl ?_ | refine zaa 4 rfl rfl rfl ?_ | refine zaa 5 rfl rfl rfl ?_ | refine zab 0 rfl rfl rfl ?_ | refine zab 1 rfl rfl rfl ?_ | refine zab 2 rfl rfl rfl ?_ | refine zab 3 rfl rfl rfl ?_ | refine zab 4 rfl rfl rfl ?_ | refine zab 5 rfl rfl rfl ?_ | refine zce rfl ?_ | refine zao rfl ?_ | refine zbg rfl rfl (by omega) ?_ | refine zbh rfl rfl (by omega) ?_ | refine zbm rfl rfl (by omega) ?_ | refine zbn rfl rfl (by omega) ?_ | refine reg_addZ rfl rfl (by omega) ?_ | refine zau rfl rfl (by omega) ?_ | refine zav rfl rfl (by omega) ?_ | refine zbq rfl rfl ?_ | refine zbt rfl rfl ?_ | refine zax rfl rfl (by omega) ?_ | refine zbu rfl ?_ | refine zbv rfl ?_ | refine zbw rfl rfl rfl ?_ | refine zas rfl rfl (by omega) ?_ | refine zat rfl rfl (by omega) ?_ | refine zaq (cs := [_, _]) rfl (fun nb => ?_)) | refine zch ?_ | refine zci rfl ?_ | refine zcj rfl ?_)
            refine cut_exit rfl rfl ?_
            exact cut_end ⟨rfl, ⟨L3, by omega, w4⟩, ⟨rfl, rfl, rfl, trivial⟩, rfl⟩
      · rintro ⟨L3, w1, w2⟩ junk
        dsimp only
        repeat' (first | refine zck ?_ | refine zcp (by kernel_rfl) ?_ | refine zcq PP_mixed (by kernel_rfl) (by kernel_rfl) ?_ | refine zcm ?_ | refine zcl ?_ | refine zcn ?_ | refine zco ?_ | refine zcs rfl ?_ | (refine zap rfl ?_; first | refine zaj rfl ?_ | refine zak rfl ?_ | refine zal rfl ?_ | refine zam rfl rfl (fun _ => ?_) (fun _ => ?_) | refine zan rfl ?_ | refine zan rfl ?_ | refine zaa 0 rfl rfl rfl ?_ | refine zaa 1 rfl rfl rfl ?_ | refine zaa 2 rfl rfl rfl ?_ | refine zaa 3 rfl rfl rfl ?_ | refine zaa 4 rfl rfl rfl ?_ | refine zaa 5 rfl rfl rfl ?_ | refine zab 0 rfl rfl rfl ?_ | refine zab 1 rfl rfl rfl ?_ | refine zab 2 rfl rfl rfl ?_ | refine zab 3 rfl rfl rfl ?_ | refine zab 4 rfl rfl rfl ?_ | refine zab 5 rfl rfl rfl ?_ | refine zce rfl ?_ | refine zao rfl ?_ | refine zbg rfl rfl (by omega) ?_ | refine zbh rfl rfl (by omega) ?_ | refine zbm rfl rfl (by omega) ?_ | refine zbn rfl rfl (by omega) ?_ | refine reg_addZ rfl rfl (by omega) ?_ | refine zau rfl rfl (by omega) ?_ | refine zav rfl rfl (by omega) ?_ | refine zbq rfl rfl ?_ | refine zbt rfl rfl ?_ | refine zax rfl rfl (by omega) ?_ | refine zbu rfl ?_ | refine zbv rfl ?_ | refine zbw rfl rfl rfl ?_ | refine zas rfl rfl (by omega) ?_ | refine zat rfl rfl (by omega) ?_ | refine zaq (cs := [_, _]) rfl (fun nb => ?_)) | refine zch ?_ | refine zci rfl ?_ | refine zcj rfl ?_)
        exact cut_end ⟨rfl, (j + 1, L3), ⟨rfl, rfl, int_eq (by dsimp only; omega), trivial⟩, ⟨rfl, by dsimp only; omega, by dsimp only; omega, by dsimp only; omega, fun h => by dsimp only at h ⊢; have := hcost (by omega); omega⟩, by dsimp only; omega⟩
    · by_cases hj1 : j < p.opers.length
      · have hL : L < 0 := by omega
        repeat' (first | refine zck ?_ | refine zcp (by kernel_rfl) ?_ | refine zcq PP_mixed (by kernel_rfl) (by kernel_rfl) ?_ | refine zcm ?_ | refine zcl ?_ | refine zcn ?_ | refine zco ?_ | refine zcs rfl ?_ | (refine zap rfl ?_; first | refine zaj rfl ?_ | refine zak rfl ?_ | refine zal rfl ?_ | refine zam rfl rfl (fun _ => ?_) (fun _ => ?_) | refine zan rfl ?_ | refine zan rfl ?_ | refine zaa 0 rfl rfl rfl ?_ | refine zaa 1 rfl rfl rfl ?_ | refine zaa 2 rfl rfl rfl ?_ | refine zaa 3 rfl rfl rfl ?_ | refine zaa 4 rfl rfl rfl ?_ | refine zaa 5 rfl rfl rfl ?_ | refine zab 0 rfl rfl rfl ?_ | refine zab 1 rfl rfl rfl ?_ | refine zab 2 rfl rfl rfl ?_ | refine zab 3 rfl rfl rfl ?_ | refine zab 4 rfl rfl rfl ?_ | refine zab 5 rfl rfl rfl ?_ | refine zce rfl ?_ | refine zao rfl ?_ | refine zbg rfl rfl (by omega) ?_ | refine zbh rfl rfl (by omega) ?_ | refine zbm rfl rfl (by omega) ?_ | refine zbn rfl rfl (by omega) ?_ | refine reg_addZ rfl rfl (by omega) ?_ | refine zau rfl rfl (by omega) ?_ | refine zav rfl rfl (by omega) ?_ | refine zbq rfl rfl ?_ | refine zbt rfl rfl ?_ | refine zax rfl rfl (by omega) ?_ | refine zbu rfl ?_ | refine zbv rfl ?_ | refine zbw rfl rfl rfl ?_ | refine zas rfl rfl (by omega) ?_ | refine zat rfl rfl (by omega) ?_ | refine zaq (cs := [_, _]) rfl (fun nb => ?_)) | refine zch ?_ | refine zci rfl ?_ | refine zcj rfl ?_)
        refine cut_exit rfl rfl ?_
        exact cut_end ⟨rfl, ⟨L, q2, q3, fun h => by omega⟩, ⟨rfl, rfl, trivial⟩, rfl⟩
      · repeat' (first | refine zck ?_ | refine zcp (by kernel_rfl) ?_ | refine zcq PP_mixed (by kernel_rfl) (by kernel_rfl) ?_ | refine zcm ?_ | refine zcl ?_ | refine zcn ?_ | refine zco ?_ | refine zcs rfl ?_ | (refine zap rfl ?_; first | refine zaj rfl ?_ | refine zak rfl ?_ | refine zal rfl ?_ | refine zam rfl rfl (fun _ => ?_) (fun _ => ?_) | refine zan rfl ?_ | refine zan rfl ?_ | refine zaa 0 rfl rfl rfl ?_ | refine zaa 1 rfl rfl rfl ?_ | refine zaa 2 rfl rfl rfl ?_ | refine zaa 3 rfl rfl rfl ?_ | refine zaa 4 rfl rfl rfl ?_ | refine zaa 5 rfl rfl rfl ?_ | refine zab 0 rfl rfl rfl ?_ | refine zab 1 rfl rfl rfl ?_ | refine zab 2 rfl rfl rfl ?_ | refine zab 3 rfl rfl rfl ?_ | refine zab 4 rfl rfl rfl ?_ | refine zab 5 rfl rfl rfl ?_ | refine zce rfl ?_ | refine zao rfl ?_ | refine zbg rfl rfl (by omega) ?_ | refine zbh rfl rfl (by omega) ?_ | refine zbm rfl rfl (by omega) ?_ | refine zbn rfl rfl (by omega) ?_ | refine reg_addZ rfl rfl (by omega) ?_ | refine zau rfl rfl (by omega) ?_ | refine zav rfl rfl (by omega) ?_ | refine zbq rfl rfl ?_ | refine zbt rfl rfl ?_ | refine zax rfl rfl (by omega) ?_ | refine zbu rfl ?_ | refine zbv rfl ?_ | refine zbw rfl rfl rfl ?_ | refine zas rfl rfl (by omega) ?_ | refine zat rfl rfl (by omega) ?_ | refine zaq (cs := [_, _]) rfl (fun nb => ?_)) | refine zch ?_ | refine zci rfl ?_ | refine zcj rfl ?_)
        refine cut_exit rfl rfl ?_
        exact cut_end ⟨rfl, ⟨L, q2, q3, fun h => by have := q4 h; rwa [List.take_of_length_le (by omega)] at this⟩, ⟨rfl, rfl, trivial⟩, rfl⟩
  · rintro ⟨L1, w1, w2, w3⟩ junk
    dsimp only
    repeat (first | refine zck ?_ | refine zcl ?_ | refine zcm ?_ | refine zcn ?_)
    first | refine zcp (by kernel_rfl) ?_ | refine zcq PP_mixed (by kernel_rfl) (by kernel_rfl) ?_
    repeat' (refine zap rfl ?_; first | refine zaj rfl ?_ | refine zak rfl ?_ | refine zal rfl ?_ | refine zam rfl rfl (fun _ => ?_) (fun _ => ?_) | refine zan rfl ?_ | refine zan rfl ?_ | refine zaa 0 rfl rfl rfl ?_ | refine zaa 1 rfl rfl rfl ?_ | refine zaa 2 rfl rfl rfl ?_ | refine zaa 3 rfl rfl rfl ?_ | refine zaa 4 rfl rfl rfl ?_ | refine zaa 5 rfl rfl rfl ?_ | refine zab 0 rfl rfl rfl ?_ | refine zab 1 rfl rfl rfl ?_ | refine zab 2 rfl rfl rfl ?_ | refine zab 3 rfl rfl rfl ?_ | refine zab 4 rfl rfl rfl ?_ | refine zab 5 rfl rfl rfl ?_ | refine zce rfl ?_ | refine zao rfl ?_ | refine reg_addZ rfl rfl (by omega) ?_ | refine zau rfl rfl (by omega) ?_ | refine zav rfl rfl (by omega) ?_ | refine zbq rfl rfl ?_ | refine zbt rfl rfl ?_ | refine zax rfl rfl (by omega) ?_ | refine zbu rfl ?_ | refine zbv rfl ?_ | refine zbw rfl rfl rfl ?_ | refine zas rfl rfl (by omega) ?_ | refine zat rfl rfl (by omega) ?_ | refine zaq (cs := [_, _]) rfl (fun nb => ?_))
    all_goals refine zch ?_
    all_goals repeat (first | refine zck ?_ | refine zcl ?_ | refine zcm ?_ | refine zcn ?_)
    refine run_loop (S := Nat × Int) (fun s => [(1, .pointer (some ⟨be, 0, none⟩)), (3, .int .i64 s.2), (6, .int .i64 s.1)])
      (fun s Γ => Γ = [] ∧ s.1 ≤ p.stores.length ∧ -2000000000000000000 ≤ s.2 ∧ s.2 ≤ L1 ∧ (0 ≤ s.2 → s.2 + (s.1 : Int) ≤ L1)) (fun s => p.stores.length - s.1) (0, L1)
      ⟨rfl, rfl, rfl, trivial⟩ ⟨rfl, Nat.zero_le _, by dsimp only; omega, by dsimp only; omega, fun _ => by simp⟩ ?_
    rintro ⟨j, L⟩ Γ junk ⟨rfl, q1, q2, q3, q4⟩
    dsimp only at q1 q2 q3 q4 ⊢
    by_cases hj : j < p.stores.length ∧ 0 ≤ L
    · obtain ⟨hj, hL⟩ := hj
      obtain ⟨x, hx⟩ : ∃ x, p.stores[j]? = some x := ⟨_, List.getElem?_eq_getElem hj⟩
      obtain ⟨b, off, cc, T, fr, rfl, e2, _, e5⟩ := h1.cells hx
      obtain ⟨y1, y2⟩ := z1 x (List.mem_iff_getElem?.2 ⟨_, hx⟩)
      unfold szB at y1 y2
      have hq4 := q4 hL
      have em : ∀ hF Γ w, Sh ((be, Obj.cells (List.toArray [Value.slice (some ⟨b, off, none⟩) p.stores.length c1, Value.slice a2 p.opers.length c2]) 25 (0, 0)) :: sh) hF → St w0 hF Γ w → w.heap[b]? = some (.cells cc T fr) := fun hF Γ w h1 h2 => e2 hF Γ w (fun p hp => h1 p (by simp [hp])) h2
      repeat' (first | refine zck ?_ | refine zcp (by kernel_rfl) ?_ | refine zcq PP_mixed (by kernel_rfl) (by kernel_rfl) ?_ | refine zcm ?_ | refine zcl ?_ | refine zcn ?_ | refine zco ?_ | refine zcs rfl ?_ | (refine zap rfl ?_; first | refine zad rfl em (e5 0 _ rfl _ (by omega)) ?_ | refine zad rfl em (e5 1 _ rfl _ (by omega)) ?_ | refine zaj rfl ?_ | refine zak rfl ?_ | refine zal rfl ?_ | refine zam rfl rfl (fun _ => ?_) (fun _ => ?_) | refine zan rfl ?_ | refine zan rfl ?_ | refine zaa 0 rfl rfl rfl ?_ | refine zaa 1 rfl rfl rfl ?_ | refine zaa 2 rfl rfl rfl ?_ | refine zaa 3 rfl rfl rfl ?_ | refine zaa 4 rfl rfl rfl ?_ | refine zaa 5 rfl rfl rfl ?_ | refine zab 0 rfl rfl rfl ?_ | refine zab 1 rfl rfl rfl ?_ | refine zab 2 rfl rfl rfl ?_ | refine zab 3 rfl rfl rfl ?_ | refine zab 4 rfl rfl rfl ?_ | refine zab 5 rfl rfl rfl ?_ | refine reg_lenS rfl ?_ | refine zce rfl ?_ | refine zce rfl ?_ | refine zao rfl ?_ | refine zbg rfl rfl (by omega) ?_ | refine zbh rfl rfl (by omega) ?_ | refine zbm rfl rfl (by omega) ?_ | refine zbn rfl rfl (by omega) ?_ | refine reg_addZ rfl rfl (by omega) ?_ | refine zau rfl rfl (by omega) ?_ | refine zav rfl rfl (by omega) ?_ | refine zbq rfl rfl ?_ | refine zbt rfl rfl ?_ | refine zax rfl rfl (by omega) ?_ | refine zbu rfl ?_ | refine zbv rfl ?_ | refine zbw rfl rfl rfl ?_ | refine zas rfl rfl (by omega) ?_ | refine zat rfl rfl (by omega) ?_ | refine zaq (cs := [_, _]) rfl (fun nb => ?_)) | refine zch ?_ | refine zci rfl ?_ | refine zcj rfl ?_)
      exact cut_end ⟨rfl, (j + 1, L - 1 - ((x.1.size : Nat) : Int) / 100 - ((x.2.size : Nat) : Int) / 100), ⟨rfl, rfl, int_eq (by dsimp only; omega), trivial⟩, ⟨rfl, by dsimp only; omega, by dsimp only; omega, by dsimp only; omega, fun h => by dsimp only at h ⊢; omega⟩, by dsimp only; omega⟩
    · by_cases hj1 : j < p.stores.length
      · have hL : L < 0 := by omega
        repeat' (first | refine zck ?_ | refine zcp (by kernel_rfl) ?_ | refine zcq PP_mixed (by kernel_rfl) (by kernel_rfl) ?_ | refine zcm ?_ | refine zcl ?_ | refine zcn ?_ | refine zco ?_ | refine zcs rfl ?_ | (refine zap rfl ?_; first | refine zaj rfl ?_ | refine zak rfl ?_ | refine zal rfl ?_ | refine zam rfl rfl (fun _ => ?_) (fun _ => ?_) | refine zan rfl ?_ | refine zan rfl ?_ | refine zaa 0 rfl rfl rfl ?_ | refine zaa 1 rfl rfl rfl ?_ | refine zaa 2 rfl rfl rfl ?_ | refine zaa 3 rfl rfl rfl ?_ | refine zaa 4 rfl rfl rfl ?_ | refine zaa 5 rfl rfl rfl ?_ | refine zab 0 rfl rfl rfl ?_ | refine zab 1 rfl rfl rfl ?_ | refine zab 2 rfl rfl rfl ?_ | refine zab 3 rfl rfl rfl ?_ | refine zab 4 rfl rfl rfl ?_ | refine zab 5 rfl rfl rfl ?_ | refine zce rfl ?_ | refine zao rfl ?_ | refine zbg rfl rfl (by omega) ?_ | refine zbh rfl rfl (by omega) ?_ | refine zbm rfl rfl (by omega) ?_ | refine zbn rfl rfl (by omega) ?_ | refine reg_addZ rfl rfl (by omega) ?_ | refine zau rfl rfl (by omega) ?_ | refine zav rfl rfl (by omega) ?_ | refine zbq rfl rfl ?_ | refine zbt rfl rfl ?_ | refine zax rfl rfl (by omega) ?_ | refine zbu rfl ?_ | refine zbv rfl ?_ | refine zbw rfl rfl rfl ?_ | refine zas rfl rfl (by omega) ?_ | refine zat rfl rfl (by omega) ?_ | refine zaq (cs := [_, _]) rfl (fun nb => ?_)) | refine zch ?_ | refine zci rfl ?_ | refine zcj rfl ?_)
        refine cut_exit rfl rfl ?_
        repeat' (first | refine zck ?_ | refine zcp (by kernel_rfl) ?_ | refine zcq PP_mixed (by kernel_rfl) (by kernel_rfl) ?_ | refine zcm ?_ | refine zcl ?_ | refine zcn ?_ | refine zco ?_ | refine zcs rfl ?_ | (refine zap rfl ?_; first | refine zaj rfl ?_ | refine zak rfl ?_ | refine zal rfl ?_ | refine zam rfl rfl (fun _ => ?_) (fun _ => ?_) | refine zan rfl ?_ | refine zan rfl ?_ | refine zaa 0 rfl rfl rfl ?_ | refine zaa 1 rfl rfl rfl ?_ | refine zaa 2 rfl rfl rfl ?_ | refine zaa 3 rfl rfl rfl ?_ | refine zaa 4 rfl rfl rfl ?_ | refine zaa 5 rfl rfl rfl ?_ | refine zab 0 rfl rfl rfl ?_ | refine zab 1 rfl rfl rfl ?_ | refine zab 2 rfl rfl rfl ?_ | refine zab 3 rfl rfl rfl ?_ | refine zab 4 rfl rfl rfl ?_ | refine zab 5 rfl rfl rfl ?_ | refine zce rfl ?_ | refine zao rfl ?_ | refine zbg rfl rfl (by omega) ?_ | refine zbh rfl rfl (by omega) ?_ | refine zbm rfl rfl (by omega) ?_ | refine zbn rfl rfl (by omega) ?_ | refine reg_addZ rfl rfl (by omega) ?_ | refine zau rfl rfl (by omega) ?_ | refine zav rfl rfl (by omega) ?_ | refine zbq rfl rfl ?_ | refine zbt rfl rfl ?_ | refine zax rfl rfl (by omega) ?_ | refine zbu rfl ?_ | refine zbv rfl ?_ | refine zbw rfl rfl rfl ?_ | refine zas rfl rfl (by omega) ?_ | refine zat rfl rfl (by omega) ?_ | refine zaq (cs := [_, _]) rfl (fun nb => ?_)) | refine zch ?_ | refine zci rfl ?_ | refine zcj rfl ?_)
        exact ret_tmp1 rfl ⟨rfl, true, rfl, fun h => by cases h⟩
      · repeat' (first | refine zck ?_ | refine zcp (by kernel_rfl) ?_ | refine zcq PP_mixed (by kernel_rfl) (by kernel_rfl) ?_ | refine zcm ?_ | refine zcl ?_ | refine zcn ?_ | refine zco ?_ | refine zcs rfl ?_ | (refine zap rfl ?_; first | refine zaj rfl ?_ | refine zak rfl ?_ | refine zal rfl ?_ | refine zam rfl rfl (fun _ => ?_) (fun _ => ?_) | refine zan rfl ?_ | refine zan rfl ?_ | refine zaa 0 rfl rfl rfl ?_ | refine zaa 1 rfl rfl rfl ?_ | refine zaa 2 rfl rfl rfl ?_ | refine zaa 3 rfl rfl rfl ?_ | refine zaa 4 rfl rfl rfl ?_ | refine zaa 5 rfl rfl rfl ?_ | refine zab 0 rfl rfl rfl ?_ | refine zab 1 rfl rfl rfl ?_ | refine zab 2 rfl rfl rfl ?_ | refine zab 3 rfl rfl rfl ?_ | refine zab 4 rfl rfl rfl ?_ | refine zab 5 rfl rfl rfl ?_ | refine zce rfl ?_ | refine zao rfl ?_ | refine zbg rfl rfl (by omega) ?_ | refine zbh rfl rfl (by omega) ?_ | refine zbm rfl rfl (by omega) ?_ | refine zbn rfl rfl (by omega) ?_ | refine reg_addZ rfl rfl (by omega) ?_ | refine zau rfl rfl (by omega) ?_ | refine zav rfl rfl (by omega) ?_ | refine zbq rfl rfl ?_ | refine zbt rfl rfl ?_ | refine zax rfl rfl (by omega) ?_ | refine zbu rfl ?_ | refine zbv rfl ?_ | refine zbw rfl rfl rfl ?_ | refine zas rfl rfl (by omega) ?_ | refine zat rfl rfl (by omega) ?_ | refine zaq (cs := [_, _]) rfl (fun nb => ?_)) | refine zch ?_ | refine zci rfl ?_ | refine zcj rfl ?_)
        refine cut_exit rfl rfl ?_
        repeat' (first | refine zck ?_ | refine zcp (by kernel_rfl) ?_ | refine zcq PP_mixed (by kernel_rfl) (by kernel_rfl) ?_ | refine zcm ?_ | refine zcl ?_ | refine zcn ?_ | refine zco ?_ | refine zcs rfl ?_ | (refine zap rfl ?_; first | refine zaj rfl ?_ | refine zak rfl ?_ | refine zal rfl ?_ | refine zam rfl rfl (fun _ => ?_) (fun _ => ?_) | refine zan rfl ?_ | refine zan rfl ?_ | refine zaa 0 rfl rfl rfl ?_ | refine zaa 1 rfl rfl rfl ?_ | refine zaa 2 rfl rfl rfl ?_ | refine zaa 3 rfl rfl rfl ?_ | refine zaa 4 rfl rfl rfl ?_ | refine zaa 5 rfl rfl rfl ?_ | refine zab 0 rfl rfl rfl ?_ | refine zab 1 rfl rfl rfl ?_ | refine zab 2 rfl rfl rfl ?_ | refine zab 3 rfl rfl rfl ?_ | refine zab 4 rfl rfl rfl ?_ | refine zab 5 rfl rfl rfl ?_ | refine zce rfl ?_ | refine zao rfl ?_ | refine reg_addZ rfl rfl (by omega) ?_ | refine zau rfl rfl (by omega) ?_ | refine zav rfl rfl (by omega) ?_ | refine zbq rfl rfl ?_ | refine zbt rfl rfl ?_ | refine zax rfl rfl (by omega) ?_ | refine zbu rfl ?_ | refine zbv rfl ?_ | refine zbw rfl rfl rfl ?_ | refine zas rfl rfl (by omega) ?_ | refine zat rfl rfl (by omega) ?_ | refine zaq (cs := [_, _]) rfl (fun nb => ?_)) | refine zch ?_ | refine zci rfl ?_ | refine zcj rfl ?_)
        refine ret_tmp1 rfl ⟨rfl, _, rfl, fun h => ?_⟩
        have h3 := of_decide_eq_false h
        have h4 := q4 (by omega)
        have h5 := w3 (by omega)
        have h6 : j = p.stores.length := by omega
        omega
end Go.Proofs.YtjapaghhgpaldaaGreatDoor

namespace Go.Vc
open Sim
theorem RdEs.of {w0 : World} {sh : Shared} : ∀ {cl : List (List Value)}, (∀ c ∈ cl, c.length = 6 ∧ ∃ e : PE, RdE w0 sh e c ∧ e.sz) → ∃ l, RdEs w0 sh l cl ∧ PE.szL l
  | [], _ => ⟨[], by unfold RdEs; rfl, by unfold PE.szL; trivial⟩
  | c :: cl, h => by
    obtain ⟨_, e, h1, h2⟩ := h c (.head _)
    obtain ⟨l, h3, h4⟩ := RdEs.of fun c hc => h c (.tail _ hc)
    exact ⟨e :: l, by unfold RdEs; exact ⟨c, cl, rfl, h1, h3⟩, by unfold PE.szL; exact ⟨h2, h4⟩⟩
theorem RdSs.of {w0 : World} {sh : Shared} : ∀ {cl : List (List Value)}, (∀ c ∈ cl, c.length = 11 ∧ ∃ e : PS, RdS w0 sh e c ∧ e.sz) → ∃ l, RdSs w0 sh l cl ∧ PS.szL l
  | [], _ => ⟨[], by unfold RdSs; rfl, by unfold PS.szL; trivial⟩
  | c :: cl, h => by
    obtain ⟨_, e, h1, h2⟩ := h c (.head _)
    obtain ⟨l, h3, h4⟩ := RdSs.of fun c hc => h c (.tail _ hc)
    exact ⟨e :: l, by unfold RdSs; exact ⟨c, cl, rfl, h1, h3⟩, by unfold PS.szL; exact ⟨h2, h4⟩⟩
def PO.sz (o : PO) : Prop := szB o.name ∧ (∀ s ∈ o.params, szB s) ∧ o.params.length ≤ 1125899906842624 ∧ PS.szL o.body
theorem RdOs.of {w0 : World} {sh : Shared} : ∀ {cl : List (List Value)}, (∀ c ∈ cl, c.length = 3 ∧ ∃ e : PO, RdO w0 sh e c ∧ PO.sz e) → ∃ l, RdOs w0 sh l cl ∧ ∀ o ∈ l, PO.sz o
  | [], _ => ⟨[], rfl, fun o h => by simp at h⟩
  | c :: cl, h => by
    obtain ⟨_, e, h1, h2⟩ := h c (.head _)
    obtain ⟨l, h3, h4⟩ := RdOs.of fun c hc => h c (.tail _ hc)
    refine ⟨e :: l, ⟨c, cl, rfl, h1, h3⟩, fun o ho => ?_⟩
    rcases List.mem_cons.1 ho with rfl | ho
    · exact h2
    · exact h4 o ho
end Go.Vc
namespace Go.Proofs.YtjapaghhgpaldaaGreatDoor
open Go.Vc Sim
set_option maxRecDepth 100000
section
variable {H : Type} {enc : TypeId × Value → H} {w : World} {base : Nat} {spare : Nat → Bool} {held : Bool}
theorem in_pe : ∀ (n : Nat) (cs : List Value) (y : DataW H × List MemPlace), DataW.trod enc Tryz.prog w base spare held n 41 cs = some y → (∀ q ∈ y.1.weights Tryz.prog 41, q ≤ reachBytes) → cs.length = 6 ∧ ∃ e : PE, RdE w [] e cs ∧ e.sz := by
  intro n
  induction n using Nat.strongRecOn with
  | _ n ih =>
  intro cs y h hw
  obtain ⟨xs, n', hn', hy, hlen, hxl, hf⟩ := DataW.trod_struct Tryz.underlying41 h
  have cI : Tryz.prog.cellsOf 3 = 1 := by kernel_rfl
  have cI6 : Tryz.prog.cellsOf 2 = 1 := by kernel_rfl
  have cS : Tryz.prog.cellsOf 9 = 1 := by kernel_rfl
  have cL : Tryz.prog.cellsOf 39 = 1 := by kernel_rfl
  have c6 : Tryz.prog.cellsOf 41 = 6 := by kernel_rfl
  rw [c6] at hlen
  have f0 : DataW.trod enc Tryz.prog w base spare held n' 3 ((cs.drop 0).take (Tryz.prog.cellsOf 3)) = xs[0]? := hf 0 _ rfl
  have f1 : DataW.trod enc Tryz.prog w base spare held n' 2 ((cs.drop 1).take (Tryz.prog.cellsOf 2)) = xs[1]? := hf 1 _ rfl
  have f2 : DataW.trod enc Tryz.prog w base spare held n' 9 ((cs.drop 2).take (Tryz.prog.cellsOf 9)) = xs[2]? := hf 2 _ rfl
  have f3 : DataW.trod enc Tryz.prog w base spare held n' 9 ((cs.drop 3).take (Tryz.prog.cellsOf 9)) = xs[3]? := hf 3 _ rfl
  have f4 : DataW.trod enc Tryz.prog w base spare held n' 39 ((cs.drop 4).take (Tryz.prog.cellsOf 39)) = xs[4]? := hf 4 _ rfl
  have f5 : DataW.trod enc Tryz.prog w base spare held n' 39 ((cs.drop 5).take (Tryz.prog.cellsOf 39)) = xs[5]? := hf 5 _ rfl
  rw [cI] at f0
  rw [cI6] at f1
  rw [cS] at f2 f3
  rw [cL] at f4 f5
  match cs, hlen with
  | [a0, a1, a2, a3, a4, a5], _ =>
    match xs, hxl with
    | [y0, y1, y2, y3, y4, y5], _ =>
      have hwt : y.1.weights Tryz.prog 41 = y0.1.weights Tryz.prog 3 ++ (y1.1.weights Tryz.prog 2 ++ (y2.1.weights Tryz.prog 9 ++ (y3.1.weights Tryz.prog 9 ++ (y4.1.weights Tryz.prog 39 ++ (y5.1.weights Tryz.prog 39 ++ []))))) := by
        rw [hy]
        simp only [DataW.weights, Tryz.underlying41]
        rfl
      rw [hwt] at hw
      obtain ⟨k0, e0, _⟩ := DataW.trod_int Tryz.underlying3 (show DataW.trod _ _ _ _ _ _ n' _ [a0] = some y0 from f0)
      obtain ⟨k1, e1, _⟩ := DataW.trod_int Tryz.underlying2 (show DataW.trod _ _ _ _ _ _ n' _ [a1] = some y1 from f1)
      obtain ⟨s2, e2, z2⟩ := in_strW Tryz.underlying9 (show DataW.trod _ _ _ _ _ _ n' _ [a2] = some y2 from f2) (fun q hq => hw q (by simp [hq]))
      obtain ⟨s3, e3, z3⟩ := in_strW Tryz.underlying9 (show DataW.trod _ _ _ _ _ _ n' _ [a3] = some y3 from f3) (fun q hq => hw q (by simp [hq]))
      obtain ⟨v4, l4, e4, r4, p4, _⟩ := in_sliceF (fun c : List Value => c) (fun c => c.length = 6 ∧ ∃ e : PE, RdE w [] e c ∧ e.sz) Tryz.underlying39 c6 (by decide) (show DataW.trod _ _ _ _ _ _ n' _ [a4] = some y4 from f4) (fun q hq => hw q (by simp [hq])) (fun m hm cs y hy hq => ⟨cs, ih m (by omega) cs y hy hq, rfl⟩)
      obtain ⟨v5, l5, e5, r5, p5, _⟩ := in_sliceF (fun c : List Value => c) (fun c => c.length = 6 ∧ ∃ e : PE, RdE w [] e c ∧ e.sz) Tryz.underlying39 c6 (by decide) (show DataW.trod _ _ _ _ _ _ n' _ [a5] = some y5 from f5) (fun q hq => hw q (by simp [hq])) (fun m hm cs y hy hq => ⟨cs, ih m (by omega) cs y hy hq, rfl⟩)
      simp only [List.cons.injEq, and_true] at e0 e1 e2 e3 e4 e5
      subst e0; subst e1; subst e2; subst e3; subst e4; subst e5
      obtain ⟨xs4, q4, t4⟩ := RdEs.of p4
      obtain ⟨xs5, q5, t5⟩ := RdEs.of p5
      have hR : reachBytes = 140737488351232 := rfl
      refine ⟨rfl, .mk k0 k1 s2 s3 xs4 xs5, RdE.of (e := .mk k0 k1 s2 s3 xs4 xs5) ⟨l4, r4.rd, q4⟩ ⟨l5, r5.rd, q5⟩, ?_⟩
      unfold PE.sz szB
      exact ⟨by omega, by omega, t4, t5⟩
theorem in_ps : ∀ (n : Nat) (cs : List Value) (y : DataW H × List MemPlace), DataW.trod enc Tryz.prog w base spare held n 43 cs = some y → (∀ q ∈ y.1.weights Tryz.prog 43, q ≤ reachBytes) → cs.length = 11 ∧ ∃ e : PS, RdS w [] e cs ∧ e.sz := by
  intro n
  induction n using Nat.strongRecOn with
  | _ n ih =>
  intro cs y h hw
  obtain ⟨xs, n', hn', hy, hlen, hxl, hf⟩ := DataW.trod_struct Tryz.underlying43 h
  have c0 : Tryz.prog.cellsOf 3 = 1 := by kernel_rfl
  have c1 : Tryz.prog.cellsOf 9 = 1 := by kernel_rfl
  have c2 : Tryz.prog.cellsOf 2 = 1 := by kernel_rfl
  have c3 : Tryz.prog.cellsOf 41 = 6 := by kernel_rfl
  have c4 : Tryz.prog.cellsOf 35 = 1 := by kernel_rfl
  have cT : Tryz.prog.cellsOf 43 = 11 := by kernel_rfl
  rw [cT] at hlen
  have f0 : DataW.trod enc Tryz.prog w base spare held n' 3 ((cs.drop 0).take (Tryz.prog.cellsOf 3)) = xs[0]? := hf 0 _ rfl
  have f1 : DataW.trod enc Tryz.prog w base spare held n' 9 ((cs.drop 1).take (Tryz.prog.cellsOf 9)) = xs[1]? := hf 1 _ rfl
  have f2 : DataW.trod enc Tryz.prog w base spare held n' 2 ((cs.drop 2).take (Tryz.prog.cellsOf 2)) = xs[2]? := hf 2 _ rfl
  have f3 : DataW.trod enc Tryz.prog w base spare held n' 41 ((cs.drop 3).take (Tryz.prog.cellsOf 41)) = xs[3]? := hf 3 _ rfl
  have f4 : DataW.trod enc Tryz.prog w base spare held n' 35 ((cs.drop 9).take (Tryz.prog.cellsOf 35)) = xs[4]? := hf 4 _ rfl
  have f5 : DataW.trod enc Tryz.prog w base spare held n' 35 ((cs.drop 10).take (Tryz.prog.cellsOf 35)) = xs[5]? := hf 5 _ rfl
  rw [c0] at f0
  rw [c1] at f1
  rw [c2] at f2
  rw [c3] at f3
  rw [c4] at f4 f5
  match cs, hlen with
  | [a0, a1, a2, a3, a4, a5, a6, a7, a8, a9, a10], _ =>
    match xs, hxl with
    | [y0, y1, y2, y3, y4, y5], _ =>
      have hwt : y.1.weights Tryz.prog 43 = y0.1.weights Tryz.prog 3 ++ (y1.1.weights Tryz.prog 9 ++ (y2.1.weights Tryz.prog 2 ++ (y3.1.weights Tryz.prog 41 ++ (y4.1.weights Tryz.prog 35 ++ (y5.1.weights Tryz.prog 35 ++ []))))) := by
        rw [hy]
        simp only [DataW.weights, Tryz.underlying43]
        rfl
      rw [hwt] at hw
      obtain ⟨k0, e0, _⟩ := DataW.trod_int Tryz.underlying3 (show DataW.trod _ _ _ _ _ _ n' _ [a0] = some y0 from f0)
      obtain ⟨s1, e1, z1⟩ := in_strW Tryz.underlying9 (show DataW.trod _ _ _ _ _ _ n' _ [a1] = some y1 from f1) (fun q hq => hw q (by simp [hq]))
      obtain ⟨k2, e2, _⟩ := DataW.trod_int Tryz.underlying2 (show DataW.trod _ _ _ _ _ _ n' _ [a2] = some y2 from f2)
      obtain ⟨_, x3, r3, z3⟩ := in_pe n' _ _ (show DataW.trod _ _ _ _ _ _ n' _ [a3, a4, a5, a6, a7, a8] = some y3 from f3) (fun q hq => hw q (by simp [hq]))
      obtain ⟨v4, l4, e4, r4, p4, _⟩ := in_sliceF (fun c : List Value => c) (fun c => c.length = 11 ∧ ∃ e : PS, RdS w [] e c ∧ e.sz) Tryz.underlying35 cT (by decide) (show DataW.trod _ _ _ _ _ _ n' _ [a9] = some y4 from f4) (fun q hq => hw q (by simp [hq])) (fun m hm cs y hy hq => ⟨cs, ih m (by omega) cs y hy hq, rfl⟩)
      obtain ⟨v5, l5, e5, r5, p5, _⟩ := in_sliceF (fun c : List Value => c) (fun c => c.length = 11 ∧ ∃ e : PS, RdS w [] e c ∧ e.sz) Tryz.underlying35 cT (by decide) (show DataW.trod _ _ _ _ _ _ n' _ [a10] = some y5 from f5) (fun q hq => hw q (by simp [hq])) (fun m hm cs y hy hq => ⟨cs, ih m (by omega) cs y hy hq, rfl⟩)
      simp only [List.cons.injEq, and_true] at e0 e1 e2 e4 e5
      subst e0; subst e1; subst e2; subst e4; subst e5
      obtain ⟨xs4, q4, t4⟩ := RdSs.of p4
      obtain ⟨xs5, q5, t5⟩ := RdSs.of p5
      have hR : reachBytes = 140737488351232 := rfl
      refine ⟨rfl, .mk k0 s1 k2 x3 xs4 xs5, ?_, ?_⟩
      · unfold RdS
        exact ⟨_, _, _, _, _, rfl, r3, r4.rd, q4, r5.rd, q5⟩
      · unfold PS.sz szB
        exact ⟨by omega, z3, t4, t5⟩

theorem in_po : ∀ (n : Nat) (cs : List Value) (y : DataW H × List MemPlace), DataW.trod enc Tryz.prog w base spare held n 37 cs = some y → (∀ q ∈ y.1.weights Tryz.prog 37, q ≤ reachBytes) → cs.length = 3 ∧ ∃ e : PO, RdO w [] e cs ∧ PO.sz e := by
  intro n
  intro cs y h hw
  obtain ⟨xs, n', hn', hy, hlen, hxl, hf⟩ := DataW.trod_struct Tryz.underlying37 h
  have c0 : Tryz.prog.cellsOf 9 = 1 := by kernel_rfl
  have c1 : Tryz.prog.cellsOf 28 = 1 := by kernel_rfl
  have c2 : Tryz.prog.cellsOf 35 = 1 := by kernel_rfl
  have cT : Tryz.prog.cellsOf 37 = 3 := by kernel_rfl
  rw [cT] at hlen
  have f0 : DataW.trod enc Tryz.prog w base spare held n' 9 ((cs.drop 0).take (Tryz.prog.cellsOf 9)) = xs[0]? := hf 0 _ rfl
  have f1 : DataW.trod enc Tryz.prog w base spare held n' 28 ((cs.drop 1).take (Tryz.prog.cellsOf 28)) = xs[1]? := hf 1 _ rfl
  have f2 : DataW.trod enc Tryz.prog w base spare held n' 35 ((cs.drop 2).take (Tryz.prog.cellsOf 35)) = xs[2]? := hf 2 _ rfl
  rw [c0] at f0
  rw [c1] at f1
  rw [c2] at f2
  match cs, hlen with
  | [a0, a1, a2], _ =>
    match xs, hxl with
    | [y0, y1, y2], _ =>
      have hwt : y.1.weights Tryz.prog 37 = y0.1.weights Tryz.prog 9 ++ (y1.1.weights Tryz.prog 28 ++ (y2.1.weights Tryz.prog 35 ++ [])) := by
        rw [hy]
        simp only [DataW.weights, Tryz.underlying37]
        rfl
      rw [hwt] at hw
      obtain ⟨s0, e0, z0⟩ := in_strW Tryz.underlying9 (show DataW.trod _ _ _ _ _ _ n' _ [a0] = some y0 from f0) (fun q hq => hw q (by simp [hq]))
      obtain ⟨v1, l1, e1, r1, p1, w1⟩ := in_sliceF (m := 1) encY szB Tryz.underlying28 c0 (by decide) (show DataW.trod _ _ _ _ _ _ n' _ [a1] = some y1 from f1) (fun q hq => hw q (by simp [hq])) (fun m hm cs y hy hq => by
        obtain ⟨s, h1, h2⟩ := in_strW Tryz.underlying9 hy hq
        have hR : reachBytes = 140737488351232 := rfl
        exact ⟨s, by unfold szB; omega, h1⟩)
      obtain ⟨v2, l2, e2, r2, p2, _⟩ := in_sliceF (m := 11) (fun c : List Value => c) (fun c => c.length = 11 ∧ ∃ e : PS, RdS w [] e c ∧ e.sz) Tryz.underlying35 (by kernel_rfl) (by decide) (show DataW.trod _ _ _ _ _ _ n' _ [a2] = some y2 from f2) (fun q hq => hw q (by simp [hq])) (fun m hm cs y hy hq => ⟨cs, in_ps m cs y hy hq, rfl⟩)
      simp only [List.cons.injEq, and_true] at e0 e1 e2
      subst e0; subst e1; subst e2
      obtain ⟨xs2, q2, t2⟩ := RdSs.of p2
      have hR : reachBytes = 140737488351232 := rfl
      have bs1 : Tryz.prog.bytesOf 9 = 16 := by kernel_rfl
      rw [bs1] at w1
      refine ⟨rfl, ⟨s0, l1, xs2⟩, ⟨_, _, rfl, r1.rd, l2, r2.rd, q2⟩, ?_⟩
      unfold PO.sz szB
      exact ⟨by dsimp only; omega, p1, by dsimp only; omega, t2⟩

theorem in_decl : ∀ (n : Nat) (cs : List Value) (y : DataW H × List MemPlace), DataW.trod enc Tryz.prog w base spare held n 72 cs = some y → (∀ q ∈ y.1.weights Tryz.prog 72, q ≤ reachBytes) → ∃ d : ByteArray × ByteArray, (szB d.1 ∧ szB d.2) ∧ cs = encD d := by
  intro n
  intro cs y h hw
  obtain ⟨xs, n', hn', hy, hlen, hxl, hf⟩ := DataW.trod_struct Tryz.underlying72 h
  have c0 : Tryz.prog.cellsOf 9 = 1 := by kernel_rfl
  have cT : Tryz.prog.cellsOf 72 = 2 := by kernel_rfl
  rw [cT] at hlen
  have f0 : DataW.trod enc Tryz.prog w base spare held n' 9 ((cs.drop 0).take (Tryz.prog.cellsOf 9)) = xs[0]? := hf 0 _ rfl
  have f1 : DataW.trod enc Tryz.prog w base spare held n' 9 ((cs.drop 1).take (Tryz.prog.cellsOf 9)) = xs[1]? := hf 1 _ rfl
  rw [c0] at f0 f1
  match cs, hlen with
  | [a0, a1], _ =>
    match xs, hxl with
    | [y0, y1], _ =>
      have hwt : y.1.weights Tryz.prog 72 = y0.1.weights Tryz.prog 9 ++ (y1.1.weights Tryz.prog 9 ++ []) := by
        rw [hy]
        simp only [DataW.weights, Tryz.underlying72]
        rfl
      rw [hwt] at hw
      obtain ⟨s0, e0, z0⟩ := in_strW Tryz.underlying9 (show DataW.trod _ _ _ _ _ _ n' _ [a0] = some y0 from f0) (fun q hq => hw q (by simp [hq]))
      obtain ⟨s1, e1, z1⟩ := in_strW Tryz.underlying9 (show DataW.trod _ _ _ _ _ _ n' _ [a1] = some y1 from f1) (fun q hq => hw q (by simp [hq]))
      simp only [List.cons.injEq, and_true] at e0 e1
      subst e0; subst e1
      have hR : reachBytes = 140737488351232 := rfl
      refine ⟨(s0, s1), ⟨?_, ?_⟩, rfl⟩ <;> (unfold szB; dsimp only; omega)

theorem in_pp : ∀ (n : Nat) (cs : List Value) (y : DataW H × List MemPlace), DataW.trod enc Tryz.prog w base spare held n 25 cs = some y → (∀ q ∈ y.1.weights Tryz.prog 25, q ≤ reachBytes) → ∃ (a b : Value) (p : PP'), cs = [a, b] ∧ RdP w [] (.agg #[a, b]) p ∧ p.sz := by
  intro n
  intro cs y h hw
  obtain ⟨xs, n', hn', hy, hlen, hxl, hf⟩ := DataW.trod_struct Tryz.underlying25 h
  have c0 : Tryz.prog.cellsOf 22 = 1 := by kernel_rfl
  have c1 : Tryz.prog.cellsOf 23 = 1 := by kernel_rfl
  have cT : Tryz.prog.cellsOf 25 = 2 := by kernel_rfl
  rw [cT] at hlen
  have f0 : DataW.trod enc Tryz.prog w base spare held n' 22 ((cs.drop 0).take (Tryz.prog.cellsOf 22)) = xs[0]? := hf 0 _ rfl
  have f1 : DataW.trod enc Tryz.prog w base spare held n' 23 ((cs.drop 1).take (Tryz.prog.cellsOf 23)) = xs[1]? := hf 1 _ rfl
  rw [c0] at f0
  rw [c1] at f1
  match cs, hlen with
  | [a0, a1], _ =>
    match xs, hxl with
    | [y0, y1], _ =>
      have hwt : y.1.weights Tryz.prog 25 = y0.1.weights Tryz.prog 22 ++ (y1.1.weights Tryz.prog 23 ++ []) := by
        rw [hy]
        simp only [DataW.weights, Tryz.underlying25]
        rfl
      rw [hwt] at hw
      obtain ⟨v0, l0, e0, r0, p0, w0⟩ := in_sliceF (m := 2) encD (fun d => szB d.1 ∧ szB d.2) Tryz.underlying22 (by kernel_rfl) (by decide) (show DataW.trod _ _ _ _ _ _ n' _ [a0] = some y0 from f0) (fun q hq => hw q (by simp [hq])) (fun m hm cs y hy hq => in_decl m cs y hy hq)
      obtain ⟨v1, l1, e1, r1, p1, w1⟩ := in_sliceF (m := 3) (fun c : List Value => c) (fun c => c.length = 3 ∧ ∃ e : PO, RdO w [] e c ∧ PO.sz e) Tryz.underlying23 (by kernel_rfl) (by decide) (show DataW.trod _ _ _ _ _ _ n' _ [a1] = some y1 from f1) (fun q hq => hw q (by simp [hq])) (fun m hm cs y hy hq => ⟨cs, in_po m cs y hy hq, rfl⟩)
      simp only [List.cons.injEq, and_true] at e0 e1
      subst e0; subst e1
      obtain ⟨xs1, q1, t1⟩ := RdOs.of p1
      have hR : reachBytes = 140737488351232 := rfl
      have b0 : Tryz.prog.bytesOf 72 = 32 := by kernel_rfl
      have b1 : Tryz.prog.bytesOf 37 = 64 := by kernel_rfl
      rw [b0] at w0
      rw [b1] at w1
      have hl := q1.len
      refine ⟨_, _, ⟨l0, xs1⟩, rfl, ⟨_, _, rfl, r0.rd, l1, r1.rd, q1⟩, ?_⟩
      exact ⟨p0, by dsimp only; omega, by dsimp only; omega, t1⟩

end
end Go.Proofs.YtjapaghhgpaldaaGreatDoor

