import Derived.OpenShut
import Derived.Test.YtagmagnkigjggaaGreatDoorPart6
import Derived.Test.YtagmagnkigjggaaGreatDoorPart4
import Derived.Test.YtagmagnkigjggaaGreatDoorPart3
import Derived.Test.YtagmagnkigjggaaGreatDoorPart1
import Derived.Test.YtagmagnkigjggaaGreatDoorKit
/- Lemmas and walks for the claims of this seat (own work): Gt0 Gt1 Gt2 Gp0 Rp1 Eo4 Eo5 Eo6 Rn1. -/
namespace Sim
def szB (s : ByteArray) : Prop := s.size ≤ 4611686018427387904
mutual
def PE.sz : PE → Prop
  | .mk _ _ a b xs ys => szB a ∧ szB b ∧ PE.szL xs ∧ PE.szL ys
def PE.szL : List PE → Prop
  | [] => True
  | e :: l => PE.sz e ∧ PE.szL l
end
theorem PE.sz_eq {e : PE} (h : e.sz) : szB e.name ∧ szB e.meth ∧ PE.szL e.args ∧ PE.szL e.or := by cases e; unfold PE.sz at h; exact h
theorem PE.szL_mem : ∀ {l : List PE}, PE.szL l → ∀ x ∈ l, x.sz
  | [], _, x, hx => by simp at hx
  | e :: l, h, x, hx => by
    unfold PE.szL at h
    rcases List.mem_cons.1 hx with rfl | hx
    · exact h.1
    · exact PE.szL_mem h.2 x hx
theorem PE.sizeL_snoc : ∀ {l : List PE} {j : Nat} {x : PE}, l[j]? = some x → PE.sizeL (l.take (j + 1)) = PE.sizeL (l.take j) + x.size
  | e :: l, 0, x, h => by simp at h; subst h; simp [PE.sizeL]
  | e :: l, j + 1, x, h => by
    have := PE.sizeL_snoc (l := l) (j := j) (x := x) (by simpa using h)
    rw [List.take_succ_cons, List.take_succ_cons, PE.sizeL, PE.sizeL, this]; omega
end Sim
namespace Go.Proofs.YtagmagnkigjggaaGreatDoor
open Go.Vc Sim
def RmE (w0 : World) (n : Nat) : Prop := ∀ (sh : Shared) (e : PE) (va vo : Value) (left : Int), e.size ≤ n → e.sz → RdEl w0 sh va e.args → RdEl w0 sh vo e.or → -50000000000000000 ≤ left → left ≤ 400 →
  Vc.Fn PP w0 sh 28 [.agg (List.toArray (peC e.kind e.num e.name e.meth va vo)), .int .i64 left] [] (fun v Γ => Γ = [] ∧ ∃ L : Int, v = .int .i64 L ∧ -200000000000000000 ≤ L ∧ L ≤ left ∧ (0 ≤ L → L + e.size ≤ left))
set_option maxHeartbeats 4000000 in
theorem roomE_spec (w0 : World) : ∀ n, RmE w0 n := by
  intro n
  induction n with
  | zero => intro sh e va vo left h; have := e.size_pos; omega
  | succ n ih =>
  intro sh e va vo left hs hz ha ho hl1 hl2
  obtain ⟨z1, z2, z3, z4⟩ := PE.sz_eq hz
  unfold szB at z1 z2
  have hsz := e.size_eq
  have hsa := fun (x : PE) (h : x ∈ e.args) => PE.size_args h
  have hso := fun (x : PE) (h : x ∈ e.or) => PE.size_or h
  obtain ⟨a1, c1, hva, _⟩ := id ha.len
  obtain ⟨a2, c2, hvo, _⟩ := id ho.len
  subst hva; subst hvo
  obtain ⟨L1, hL1⟩ : ∃ L1, left - 1 - ((e.name.size : Nat) : Int) / 100 - ((e.meth.size : Nat) : Int) / 100 = L1 := ⟨_, rfl⟩
  refine fn_of_run en28 fn28 rfl rfl rfl ?_
  repeat (first | refine zck ?_ | refine zcl ?_ | refine zcm ?_ | refine zcn ?_)
  first | refine zcp (by kernel_rfl) ?_ | refine zcq PP_mixed (by kernel_rfl) (by kernel_rfl) ?_
  repeat' (refine zap rfl ?_; first | refine zan rfl ?_ | refine zaq (cs := [_, _, _, _, _, _]) rfl (fun nb => ?_))
  all_goals refine zch ?_
  all_goals repeat (first | refine zck ?_ | refine zcl ?_ | refine zcm ?_ | refine zcn ?_)
  refine run_share [0] rfl ?_
  obtain ⟨be, hbe⟩ : ∃ b, b = nb := ⟨_, rfl⟩
  subst hbe
  repeat (first | refine zck ?_ | refine zcl ?_ | refine zcm ?_ | refine zcn ?_)
  first | refine zcp (by kernel_rfl) ?_ | refine zcq PP_mixed (by kernel_rfl) (by kernel_rfl) ?_
  repeat' (refine zap rfl ?_; first | refine zan rfl ?_ | refine zan rfl ?_ | refine zaa 0 rfl rfl rfl ?_ | refine reg_lenS rfl ?_ | refine zao rfl ?_ | refine zav rfl rfl (by omega) ?_ | refine zax rfl rfl (by omega) ?_)
  all_goals refine zch ?_
  all_goals repeat (first | refine zck ?_ | refine zcl ?_ | refine zcm ?_ | refine zcn ?_)
  repeat (first | refine zck ?_ | refine zcl ?_ | refine zcm ?_ | refine zcn ?_)
  first | refine zcp (by kernel_rfl) ?_ | refine zcq PP_mixed (by kernel_rfl) (by kernel_rfl) ?_
  repeat' (refine zap rfl ?_; first | refine zan rfl ?_)
  all_goals refine zch ?_
  all_goals repeat (refine zck ?_)
  refine run_bind_eq2 (σ := { L : Int // -200000000000000000 ≤ L ∧ L ≤ L1 ∧ (0 ≤ L → L + PE.sizeL e.args ≤ L1) }) (l' := fun s => [(1, .int .i64 s.1), (2, .pointer (some ⟨be, 0, none⟩))]) (Γ' := fun _ => []) ?_ ?_
  · refine zcl ?_
    refine run_loop (S := Nat × Int) (fun s => [(1, .int .i64 s.2), (2, .pointer (some ⟨be, 0, none⟩)), (5, .int .i64 s.1)])
      (fun s Γ => Γ = [] ∧ s.1 ≤ e.args.length ∧ s.1 ≤ 401 ∧ -200000000000000000 ≤ s.2 ∧ s.2 ≤ L1 ∧ (0 ≤ s.2 → s.2 + PE.sizeL (e.args.take s.1) ≤ L1)) (fun s => e.args.length - s.1) (0, L1)
      ⟨int_eq (by dsimp only; omega), rfl, rfl, trivial⟩ ⟨rfl, Nat.zero_le _, by dsimp only; omega, by dsimp only; omega, by dsimp only; omega, fun _ => by simp [PE.sizeL]⟩ ?_
    rintro ⟨j, L⟩ Γ junk ⟨rfl, q1, q0, q2, q3, q4⟩
    dsimp only at q1 q0 q2 q3 q4 ⊢
    by_cases hj : j < e.args.length ∧ 0 ≤ L
    · obtain ⟨hj, hL⟩ := hj
      obtain ⟨x, hx⟩ : ∃ x, e.args[j]? = some x := ⟨_, List.getElem?_eq_getElem hj⟩
      obtain ⟨b, off, cc, T, fr, cs, rfl, e2, e3, e4, _⟩ := ha.at hx
      obtain ⟨va, vo, rfl, r1, r2⟩ := e4.cs
      have hxm := List.mem_iff_getElem?.2 ⟨_, hx⟩
      have hcall := ih sh x va vo L (by have := hsa x hxm; omega) (PE.szL_mem z3 x hxm) r1 r2 (by omega) (by omega)
      have hsn := PE.sizeL_snoc hx
      have hxp := x.size_pos
      have hq4 := q4 hL
      have hlt := PE.sizeL_len (e.args.take j)
      rw [List.length_take] at hlt
      repeat' (first | refine zck ?_ | refine zcp (by kernel_rfl) ?_ | refine zcm ?_ | refine zcl ?_ | refine zcn ?_ | (refine zap rfl ?_; first | refine zad rfl (fun hF Γ w h1 h2 => e2 hF Γ w (fun p hp => h1 p (by simp [hp])) h2) (e3 _ (by omega)) ?_ | refine zaj rfl ?_ | refine zan rfl ?_ | refine zan rfl ?_ | refine zaa 0 rfl rfl rfl ?_ | refine zce rfl ?_ | (refine zai [] hcall rfl rfl rfl (fun p hp => by simp [hp]) ?_; rintro v Γ ⟨rfl, L', rfl, p1, p2, p3⟩) | refine zce rfl ?_ | refine zao rfl ?_ | refine zbg rfl rfl (by omega) ?_ | refine zbm rfl rfl (by omega) ?_ | refine zau rfl rfl (by omega) ?_ | refine zbu rfl ?_ | refine zas rfl rfl (by omega) ?_) | refine zch ?_ | refine zci rfl ?_)
      exact cut_end ⟨rfl, (j + 1, L'), ⟨rfl, rfl, int_eq (by dsimp only; omega), trivial⟩, ⟨rfl, by dsimp only; omega, by dsimp only; omega, by dsimp only; omega, by dsimp only; omega, fun h => by dsimp only at h ⊢; rw [hsn]; have := p3 h; omega⟩, by dsimp only; omega⟩
    · by_cases hj1 : j < e.args.length
      · have hL : L < 0 := by omega
        repeat' (first | refine zck ?_ | refine zcp (by kernel_rfl) ?_ | (refine zap rfl ?_; first | refine zaj rfl ?_ | refine zan rfl ?_ | refine zaa 0 rfl rfl rfl ?_ | refine zce rfl ?_ | refine zao rfl ?_ | refine zbg rfl rfl (by omega) ?_ | refine zbn rfl rfl (by omega) ?_ | refine zbu rfl ?_) | refine zch ?_ | refine zcj rfl ?_)
        refine cut_exit rfl rfl ?_
        exact cut_end ⟨rfl, ⟨L, q2, q3, fun h => by omega⟩, ⟨rfl, rfl, trivial⟩, rfl⟩
      · repeat' (first | refine zck ?_ | refine zcp (by kernel_rfl) ?_ | (refine zap rfl ?_; first | refine zak rfl ?_ | refine zan rfl ?_ | refine zaa 0 rfl rfl rfl ?_ | refine zce rfl ?_ | refine zao rfl ?_ | refine zbh rfl rfl (by omega) ?_ | refine zbv rfl ?_) | refine zch ?_ | refine zcj rfl ?_)
        refine cut_exit rfl rfl ?_
        exact cut_end ⟨rfl, ⟨L, q2, q3, fun h => by have := q4 h; rwa [List.take_of_length_le (by omega)] at this⟩, ⟨rfl, rfl, trivial⟩, rfl⟩
  · rintro ⟨L2, w1, w2, w3⟩ junk
    dsimp only
    repeat (first | refine zck ?_ | refine zcl ?_ | refine zcm ?_ | refine zcn ?_)
    first | refine zcp (by kernel_rfl) ?_ | refine zcq PP_mixed (by kernel_rfl) (by kernel_rfl) ?_
    repeat' (refine zap rfl ?_; first | refine zan rfl ?_)
    all_goals refine zch ?_
    all_goals repeat (first | refine zck ?_ | refine zcl ?_ | refine zcm ?_ | refine zcn ?_)
    refine run_loop (S := Nat × Int) (fun s => [(1, .int .i64 s.2), (2, .pointer (some ⟨be, 0, none⟩)), (6, .int .i64 s.1)])
      (fun s Γ => Γ = [] ∧ s.1 ≤ e.or.length ∧ s.1 ≤ 401 ∧ -200000000000000000 ≤ s.2 ∧ s.2 ≤ L2 ∧ (0 ≤ s.2 → s.2 + PE.sizeL (e.or.take s.1) ≤ L2)) (fun s => e.or.length - s.1) (0, L2)
      ⟨rfl, rfl, rfl, trivial⟩ ⟨rfl, Nat.zero_le _, by dsimp only; omega, by dsimp only; omega, by dsimp only; omega, fun _ => by simp [PE.sizeL]⟩ ?_
    rintro ⟨j, L⟩ Γ junk ⟨rfl, q1, q0, q2, q3, q4⟩
    dsimp only at q1 q0 q2 q3 q4 ⊢
    by_cases hj : j < e.or.length ∧ 0 ≤ L
    · obtain ⟨hj, hL⟩ := hj
      obtain ⟨x, hx⟩ : ∃ x, e.or[j]? = some x := ⟨_, List.getElem?_eq_getElem hj⟩
      obtain ⟨b, off, cc, T, fr, cs, rfl, e2, e3, e4, _⟩ := ho.at hx
      obtain ⟨va, vo, rfl, r1, r2⟩ := e4.cs
      have hxm := List.mem_iff_getElem?.2 ⟨_, hx⟩
      have hcall := ih sh x va vo L (by have := hso x hxm; omega) (PE.szL_mem z4 x hxm) r1 r2 (by omega) (by omega)
      have hsn := PE.sizeL_snoc hx
      have hxp := x.size_pos
      have hq4 := q4 hL
      have hlt := PE.sizeL_len (e.or.take j)
      rw [List.length_take] at hlt
      repeat' (first | refine zck ?_ | refine zcp (by kernel_rfl) ?_ | refine zcm ?_ | refine zcl ?_ | refine zcn ?_ | (refine zap rfl ?_; first | refine zad rfl (fun hF Γ w h1 h2 => e2 hF Γ w (fun p hp => h1 p (by simp [hp])) h2) (e3 _ (by omega)) ?_ | refine zaj rfl ?_ | refine zan rfl ?_ | refine zan rfl ?_ | refine zaa 0 rfl rfl rfl ?_ | refine zce rfl ?_ | (refine zai [] hcall rfl rfl rfl (fun p hp => by simp [hp]) ?_; rintro v Γ ⟨rfl, L', rfl, p1, p2, p3⟩) | refine zce rfl ?_ | refine zao rfl ?_ | refine zbg rfl rfl (by omega) ?_ | refine zbm rfl rfl (by omega) ?_ | refine zau rfl rfl (by omega) ?_ | refine zbu rfl ?_ | refine zas rfl rfl (by omega) ?_) | refine zch ?_ | refine zci rfl ?_)
      exact cut_end ⟨rfl, (j + 1, L'), ⟨rfl, rfl, int_eq (by dsimp only; omega), trivial⟩, ⟨rfl, by dsimp only; omega, by dsimp only; omega, by dsimp only; omega, by dsimp only; omega, fun h => by dsimp only at h ⊢; rw [hsn]; have := p3 h; omega⟩, by dsimp only; omega⟩
    · by_cases hj1 : j < e.or.length
      · have hL : L < 0 := by omega
        repeat' (first | refine zck ?_ | refine zcp (by kernel_rfl) ?_ | (refine zap rfl ?_; first | refine zaj rfl ?_ | refine zan rfl ?_ | refine zaa 0 rfl rfl rfl ?_ | refine zce rfl ?_ | refine zao rfl ?_ | refine zbg rfl rfl (by omega) ?_ | refine zbn rfl rfl (by omega) ?_ | refine zbu rfl ?_) | refine zch ?_ | refine zcj rfl ?_)
        refine cut_exit rfl rfl ?_
        repeat' (first | refine zck ?_ | refine zcp (by kernel_rfl) ?_ | (refine zap rfl ?_; first | refine zan rfl ?_ | refine zan rfl ?_) | refine zch ?_)
        exact ret_tmp1 rfl ⟨rfl, L, rfl, by omega, by omega, fun h => by omega⟩
      · repeat' (first | refine zck ?_ | refine zcp (by kernel_rfl) ?_ | (refine zap rfl ?_; first | refine zak rfl ?_ | refine zan rfl ?_ | refine zaa 0 rfl rfl rfl ?_ | refine zce rfl ?_ | refine zao rfl ?_ | refine zbh rfl rfl (by omega) ?_ | refine zbv rfl ?_) | refine zch ?_ | refine zcj rfl ?_)
        refine cut_exit rfl rfl ?_
        repeat' (first | refine zck ?_ | refine zcp (by kernel_rfl) ?_ | (refine zap rfl ?_; first | refine zan rfl ?_ | refine zan rfl ?_) | refine zch ?_)
        refine ret_tmp1 rfl ⟨rfl, L, rfl, by omega, by omega, fun h => ?_⟩
        have h1 := q4 h
        rw [List.take_of_length_le (by omega)] at h1
        have h2 := w3 (by omega)
        omega
end Go.Proofs.YtagmagnkigjggaaGreatDoor

namespace Sim
mutual
def PS.sz : PS → Prop
  | .mk _ a _ e xs ys => szB a ∧ e.sz ∧ PS.szL xs ∧ PS.szL ys
def PS.szL : List PS → Prop
  | [] => True
  | e :: l => PS.sz e ∧ PS.szL l
end
theorem PS.sz_eq {e : PS} (h : e.sz) : szB e.name ∧ e.expr.sz ∧ PS.szL e.body ∧ PS.szL e.els := by cases e; unfold PS.sz at h; exact h
theorem PS.szL_mem : ∀ {l : List PS}, PS.szL l → ∀ x ∈ l, x.sz
  | [], _, x, hx => by simp at hx
  | e :: l, h, x, hx => by
    unfold PS.szL at h
    rcases List.mem_cons.1 hx with rfl | hx
    · exact h.1
    · exact PS.szL_mem h.2 x hx
theorem PS.sizeL_snoc : ∀ {l : List PS} {j : Nat} {x : PS}, l[j]? = some x → PS.sizeL (l.take (j + 1)) = PS.sizeL (l.take j) + x.size
  | e :: l, 0, x, h => by simp at h; subst h; simp [PS.sizeL]
  | e :: l, j + 1, x, h => by
    have := PS.sizeL_snoc (l := l) (j := j) (x := x) (by simpa using h)
    rw [List.take_succ_cons, List.take_succ_cons, PS.sizeL, PS.sizeL, this]; omega
theorem PS.size_eq (e : PS) : e.size = 1 + e.expr.size + PS.sizeL e.body + PS.sizeL e.els := by cases e; unfold PS.size; rfl
end Sim
namespace Go.Proofs.YtagmagnkigjggaaGreatDoor
open Go.Vc Sim
set_option maxHeartbeats 4000000 in
theorem room_spec (w0 : World) : ∀ (n : Nat) (sh : Shared) (v : Value) (l : List PS) (left : Int), PS.sizeL l ≤ n → PS.szL l → RdSt w0 sh v l → -200000000000000000 ≤ left → left ≤ 400 →
    Vc.Fn PP w0 sh 14 [v, .int .i64 left] [] (fun v Γ => Γ = [] ∧ ∃ L : Int, v = .int .i64 L ∧ -200000000000000000 ≤ L ∧ L ≤ left ∧ (0 ≤ L → L + PS.sizeL l ≤ left)) := by
  intro n
  induction n using Nat.strongRecOn with
  | _ n ih =>
  intro sh v l left hn hz hr hl1 hl2
  obtain ⟨a, c, hv, _⟩ := hr.len
  subst hv
  refine fn_of_run en14 fn14 rfl rfl rfl ?_
  repeat' (first | refine zck ?_ | refine zcp (by kernel_rfl) ?_ | refine zcl ?_ | (refine zap rfl ?_; first | refine zan rfl ?_) | refine zch ?_)
  refine run_loop (S := Nat × Int) (fun s => [(0, .slice a l.length c), (1, .int .i64 s.2), (5, .int .i64 s.1)])
    (fun s Γ => Γ = [] ∧ s.1 ≤ l.length ∧ s.1 ≤ 401 ∧ -200000000000000000 ≤ s.2 ∧ s.2 ≤ left ∧ (0 ≤ s.2 → s.2 + PS.sizeL (l.take s.1) ≤ left)) (fun s => l.length - s.1) (0, left)
    ⟨rfl, rfl, rfl, trivial⟩ ⟨rfl, Nat.zero_le _, by dsimp only; omega, by dsimp only; omega, by dsimp only; omega, fun _ => by simp [PS.sizeL]⟩ ?_
  rintro ⟨j, L⟩ Γ junk ⟨rfl, q1, q0, q2, q3, q4⟩
  dsimp only at q1 q0 q2 q3 q4 ⊢
  by_cases hj : j < l.length ∧ 0 ≤ L
  · obtain ⟨hj, hL⟩ := hj
    obtain ⟨x, hx⟩ : ∃ x, l[j]? = some x := ⟨_, List.getElem?_eq_getElem hj⟩
    obtain ⟨b, off, cc, T, fr, cs, rfl, e2, e3, e4, e5⟩ := hr.at hx
    obtain ⟨va, vo, vb, ve, rfl, hsp⟩ := e4.sp
    have hxm := List.mem_iff_getElem?.2 ⟨_, hx⟩
    obtain ⟨z1, z2, z3, z4⟩ := PS.sz_eq (PS.szL_mem hz x hxm)
    unfold szB at z1
    have hxs := PS.sizeL_mem hxm
    have hse := x.size_eq
    have hep := x.expr.size_pos
    have k1 := fun L1 h1 h2 => roomE_spec w0 x.expr.size sh x.expr va vo L1 (Nat.le_refl _) z2 hsp.a hsp.o h1 h2
    have k2 := fun L1 h1 h2 => ih (PS.sizeL x.body) (by omega) sh vb x.body L1 (Nat.le_refl _) z3 hsp.b h1 h2
    have k3 := fun L1 h1 h2 => ih (PS.sizeL x.els) (by omega) sh ve x.els L1 (Nat.le_refl _) z4 hsp.e h1 h2
    obtain ⟨a1, c1, hva, _⟩ := hsp.a.len
    obtain ⟨a2, c2, hvo, _⟩ := hsp.o.len
    obtain ⟨a3, c3, hvb, _⟩ := hsp.b.len
    obtain ⟨a4, c4, hve, _⟩ := hsp.e.len
    subst hva; subst hvo; subst hvb; subst hve
    have hsn := PS.sizeL_snoc hx
    have hq4 := q4 hL
    have hlt := PS.sizeL_len (l.take j)
    rw [List.length_take] at hlt
    have rE : ∀ o, o = off + j * 11 + 3 → rd true 6 cc.toList o = some (.agg (List.toArray (peC x.expr.kind x.expr.num x.expr.name x.expr.meth (.slice a1 x.expr.args.length c1) (.slice a2 x.expr.or.length c2)))) := fun o ho =>
      rd_cells (c := cc) (o := off + j * 11 + 3) (q := 6) rfl (fun k u hk => by
        have h6 : k < 6 := (List.getElem?_eq_some_iff.1 hk).1
        have h7 := e5 (3 + k) u (by
          rcases (by omega : k = 0 ∨ k = 1 ∨ k = 2 ∨ k = 3 ∨ k = 4 ∨ k = 5) with rfl | rfl | rfl | rfl | rfl | rfl <;> exact hk) (off + j * 11 + (3 + k)) rfl
        have h8 : nth cc.toList (off + j * 11 + (3 + k)) = some u := h7
        rw [nth_eq] at h8
        simpa [Nat.add_assoc] using h8) o ho
    repeat (first | refine zck ?_ | refine zcl ?_ | refine zcm ?_ | refine zcn ?_)
    first | refine zcp (by kernel_rfl) ?_ | refine zcq PP_mixed (by kernel_rfl) (by kernel_rfl) ?_
    repeat' (refine zap rfl ?_; first | refine zaj rfl ?_ | refine zan rfl ?_ | refine zce rfl ?_ | refine zbg rfl rfl (by omega) ?_ | refine zbm rfl rfl (by omega) ?_ | refine zbu rfl ?_)
    all_goals refine zch ?_
    all_goals repeat (first | refine zck ?_ | refine zcl ?_ | refine zcm ?_ | refine zcn ?_)
    refine zci rfl ?_
    repeat (first | refine zck ?_ | refine zcl ?_ | refine zcm ?_ | refine zcn ?_)
    first | refine zcp (by kernel_rfl) ?_ | refine zcq PP_mixed (by kernel_rfl) (by kernel_rfl) ?_
    repeat' (refine zap rfl ?_; first | refine zad rfl e2 (rE _ (by omega)) ?_ | refine zad rfl e2 (e5 1 _ rfl _ (by omega)) ?_ | refine zan rfl ?_ | refine zan rfl ?_ | refine reg_lenS rfl ?_ | (refine zai [] (k1 _ (by omega) (by omega)) rfl rfl rfl (fun _ h => h) ?_; rintro v Γ ⟨rfl, L2, rfl, p1, p2, p3⟩) | refine zao rfl ?_ | refine zav rfl rfl (by omega) ?_ | refine zax rfl rfl (by omega) ?_ | refine zas rfl rfl (by omega) ?_)
    all_goals refine zch ?_
    all_goals repeat (first | refine zck ?_ | refine zcl ?_ | refine zcm ?_ | refine zcn ?_)
    repeat' (first | refine zcp (by kernel_rfl) ?_ | refine zcq PP_mixed (by kernel_rfl) (by kernel_rfl) ?_ | refine zcn ?_ | (refine zap rfl ?_; first | refine zad rfl e2 (e5 9 _ rfl _ (by omega)) ?_ | refine zad rfl e2 (e5 10 _ rfl _ (by omega)) ?_ | refine zan rfl ?_ | refine zan rfl ?_ | (refine zai [] (k2 _ (by omega) (by omega)) rfl rfl rfl (fun _ h => h) ?_; rintro v Γ ⟨rfl, L3, rfl, p4, p5, p6⟩) | (refine zai [] (k3 _ (by omega) (by omega)) rfl rfl rfl (fun _ h => h) ?_; rintro v Γ ⟨rfl, L4, rfl, p7, p8, p9⟩) | refine zao rfl ?_ | refine zau rfl rfl (by omega) ?_ | refine zas rfl rfl (by omega) ?_) | refine zch ?_)
    exact cut_end ⟨rfl, (j + 1, L4), ⟨rfl, rfl, int_eq (by dsimp only; omega), trivial⟩, ⟨rfl, by dsimp only; omega, by dsimp only; omega, by dsimp only; omega, by dsimp only; omega, fun h => by dsimp only at h ⊢; rw [hsn]; have h1 := p9 h; have h2 := p6 (by omega); have h3 := p3 (by omega); omega⟩, by dsimp only; omega⟩
  · by_cases hj1 : j < l.length
    · have hL : L < 0 := by omega
      repeat' (first | refine zck ?_ | refine zcp (by kernel_rfl) ?_ | (refine zap rfl ?_; first | refine zaj rfl ?_ | refine zan rfl ?_ | refine zce rfl ?_ | refine zbg rfl rfl (by omega) ?_ | refine zbn rfl rfl (by omega) ?_ | refine zbu rfl ?_) | refine zch ?_ | refine zcj rfl ?_)
      refine cut_exit rfl rfl ?_
      repeat' (first | refine zck ?_ | refine zcp (by kernel_rfl) ?_ | (refine zap rfl ?_; first | refine zan rfl ?_ | refine zan rfl ?_) | refine zch ?_)
      exact ret_tmp1 rfl ⟨rfl, L, rfl, q2, q3, fun h => by omega⟩
    · repeat' (first | refine zck ?_ | refine zcp (by kernel_rfl) ?_ | (refine zap rfl ?_; first | refine zak rfl ?_ | refine zan rfl ?_ | refine zce rfl ?_ | refine zbh rfl rfl (by omega) ?_ | refine zbv rfl ?_) | refine zch ?_ | refine zcj rfl ?_)
      refine cut_exit rfl rfl ?_
      repeat' (first | refine zck ?_ | refine zcp (by kernel_rfl) ?_ | (refine zap rfl ?_; first | refine zan rfl ?_ | refine zan rfl ?_) | refine zch ?_)
      exact ret_tmp1 rfl ⟨rfl, L, rfl, q2, q3, fun h => by have := q4 h; rwa [List.take_of_length_le (by omega)] at this⟩
end Go.Proofs.YtagmagnkigjggaaGreatDoor

namespace Sim
def PO.cost (o : PO) : Nat := 1 + PS.sizeL o.body + o.params.length
def PO.costL : List PO → Nat
  | [] => 0
  | o :: l => o.cost + PO.costL l
theorem PO.costL_mem : ∀ {l : List PO} {o : PO}, o ∈ l → o.cost ≤ PO.costL l
  | x :: l, o, h => by
    unfold PO.costL
    rcases List.mem_cons.1 h with rfl | h
    · omega
    · have := PO.costL_mem h; omega
theorem PO.costL_len : ∀ l : List PO, l.length ≤ PO.costL l
  | [] => Nat.zero_le _
  | x :: l => by have := PO.costL_len l; unfold PO.costL PO.cost; simp only [List.length_cons]; omega
theorem PO.costL_snoc : ∀ {l : List PO} {j : Nat} {x : PO}, l[j]? = some x → PO.costL (l.take (j + 1)) = PO.costL (l.take j) + x.cost
  | e :: l, 0, x, h => by simp at h; subst h; simp [PO.costL]
  | e :: l, j + 1, x, h => by
    have := PO.costL_snoc (l := l) (j := j) (x := x) (by simpa using h)
    rw [List.take_succ_cons, List.take_succ_cons, PO.costL, PO.costL, this]; omega
def PP'.sz (p : PP') : Prop := (∀ d ∈ p.stores, szB d.1 ∧ szB d.2) ∧ p.stores.length ≤ 1125899906842624 ∧ p.opers.length ≤ 1125899906842624 ∧ ∀ o ∈ p.opers, szB o.name ∧ (∀ s ∈ o.params, szB s) ∧ o.params.length ≤ 1125899906842624 ∧ PS.szL o.body
end Sim
namespace Go.Proofs.YtagmagnkigjggaaGreatDoor
open Go.Vc Sim
set_option maxHeartbeats 8000000 in
theorem greatP_spec (w0 : World) (sh : Shared) (v : Value) (p : PP') (hp : RdP w0 sh v p) (hz : p.sz) :
    Vc.Fn PP w0 sh 4 [v] [] (fun v Γ => Γ = [] ∧ ∃ B, v = .bool B ∧ (B = false → PO.costL p.opers + p.stores.length ≤ 400)) := by
  obtain ⟨vs, vo, hv, h1, h2⟩ := hp
  subst hv
  obtain ⟨a1, c1, hvs, hc1, _⟩ := id h1
  obtain ⟨a2, c2, hvo, hc2⟩ := h2.len
  subst hvs; subst hvo
  obtain ⟨z1, z2, z3, z4⟩ := hz
  refine fn_of_run en4 fn4 rfl rfl rfl ?_
  repeat (first | refine zck ?_ | refine zcl ?_ | refine zcm ?_ | refine zcn ?_)
  first | refine zcp (by kernel_rfl) ?_ | refine zcq PP_mixed (by kernel_rfl) (by kernel_rfl) ?_
  repeat' (refine zap rfl ?_; first | refine zan rfl ?_ | refine zaq (cs := [_, _]) rfl (fun nb => ?_))
  all_goals refine zch ?_
  all_goals repeat (first | refine zck ?_ | refine zcl ?_ | refine zcm ?_ | refine zcn ?_)
  refine run_share [0] rfl ?_
  obtain ⟨be, hbe⟩ : ∃ b, b = nb := ⟨_, rfl⟩
  subst hbe
  repeat (first | refine zck ?_ | refine zcl ?_ | refine zcm ?_ | refine zcn ?_)
  first | refine zcp (by kernel_rfl) ?_ | refine zcq PP_mixed (by kernel_rfl) (by kernel_rfl) ?_
  repeat' (refine zap rfl ?_; first | refine zan rfl ?_)
  all_goals refine zch ?_
  all_goals repeat (first | refine zck ?_ | refine zcl ?_ | refine zcm ?_ | refine zcn ?_)
  repeat (first | refine zck ?_ | refine zcl ?_ | refine zcm ?_ | refine zcn ?_)
  first | refine zcp (by kernel_rfl) ?_ | refine zcq PP_mixed (by kernel_rfl) (by kernel_rfl) ?_
  repeat' (refine zap rfl ?_; first | refine zan rfl ?_)
  all_goals refine zch ?_
  all_goals repeat (refine zck ?_)
  refine run_bind_eq2 (σ := { L : Int // -2000000000000000000 ≤ L ∧ L ≤ 400 ∧ (0 ≤ L → L + PO.costL p.opers ≤ 400) }) (l' := fun s => [(1, .pointer (some ⟨be, 0, none⟩)), (3, .int .i64 s.1)]) (Γ' := fun _ => []) ?_ ?_
  · refine zcl ?_
    refine run_loop (S := Nat × Int) (fun s => [(1, .pointer (some ⟨be, 0, none⟩)), (3, .int .i64 s.2), (4, .int .i64 s.1)])
      (fun s Γ => Γ = [] ∧ s.1 ≤ p.opers.length ∧ -2000000000000000000 ≤ s.2 ∧ s.2 ≤ 400 ∧ (0 ≤ s.2 → s.2 + PO.costL (p.opers.take s.1) ≤ 400)) (fun s => p.opers.length - s.1) (0, 400)
      ⟨rfl, rfl, rfl, trivial⟩ ⟨rfl, Nat.zero_le _, by dsimp only; omega, by dsimp only; omega, fun _ => by simp [PO.costL]⟩ ?_
    rintro ⟨j, L⟩ Γ junk ⟨rfl, q1, q2, q3, q4⟩
    dsimp only at q1 q2 q3 q4 ⊢
    by_cases hj : j < p.opers.length ∧ 0 ≤ L
    · obtain ⟨hj, hL⟩ := hj
      obtain ⟨x, hx⟩ : ∃ x, p.opers[j]? = some x := ⟨_, List.getElem?_eq_getElem hj⟩
      obtain ⟨b, off, cc, T, fr, cs, rfl, e2, e3, ⟨vp, vb, rfl, r1, r2⟩, e5⟩ := h2.at hx
      have hxm := List.mem_iff_getElem?.2 ⟨_, hx⟩
      obtain ⟨y1, y2, y3, y4⟩ := z4 x hxm
      unfold szB at y1
      have k1 := fun L1 h1 h2 => room_spec w0 (PS.sizeL x.body) sh vb x.body L1 (Nat.le_refl _) y4 r2 h1 h2
      obtain ⟨a3, c3, hvp, _⟩ := id r1
      obtain ⟨a4, c4, hvb, _⟩ := r2.len
      subst hvp; subst hvb
      have hsn := PO.costL_snoc hx
      have hq4 := q4 hL
      have em : ∀ hF Γ w, Sh ((be, Obj.cells (List.toArray [Value.slice a1 p.stores.length c1, Value.slice (some ⟨b, off, none⟩) p.opers.length c2]) 25 (0, 0)) :: sh) hF → St w0 hF Γ w → w.heap[b]? = some (.cells cc T fr) := fun hF Γ w h1 h2 => e2 hF Γ w (fun p hp => h1 p (by simp [hp])) h2
      repeat (first | refine zck ?_ | refine zcl ?_ | refine zcm ?_ | refine zcn ?_)
      first | refine zcp (by kernel_rfl) ?_ | refine zcq PP_mixed (by kernel_rfl) (by kernel_rfl) ?_
      repeat' (refine zap rfl ?_; first | refine zaj rfl ?_ | refine zan rfl ?_ | refine zaa 0 rfl rfl rfl ?_ | refine zce rfl ?_ | refine zao rfl ?_ | refine zbg rfl rfl (by omega) ?_ | refine zbm rfl rfl (by omega) ?_ | refine zbu rfl ?_)
      all_goals refine zch ?_
      all_goals repeat (first | refine zck ?_ | refine zcl ?_ | refine zcm ?_ | refine zcn ?_)
      refine zci rfl ?_
      repeat (first | refine zck ?_ | refine zcl ?_ | refine zcm ?_ | refine zcn ?_)
      first | refine zcp (by kernel_rfl) ?_ | refine zcq PP_mixed (by kernel_rfl) (by kernel_rfl) ?_
      repeat' (refine zap rfl ?_; first | refine zad rfl em (e5 2 _ rfl _ (by omega)) ?_ | refine zad rfl em (e5 1 _ rfl _ (by omega)) ?_ | refine zad rfl em (e5 0 _ rfl _ (by omega)) ?_ | refine zan rfl ?_ | refine zan rfl ?_ | refine zaa 0 rfl rfl rfl ?_ | refine reg_lenS rfl ?_ | refine zce rfl ?_ | (refine zai [] (k1 _ (by omega) (by omega)) rfl rfl rfl (fun p hp => by simp [hp]) ?_; rintro v Γ ⟨rfl, L2, rfl, p1, p2, p3⟩) | refine zce rfl ?_ | refine zao rfl ?_ | refine zav rfl rfl (by omega) ?_ | refine zax rfl rfl (by omega) ?_ | refine zas rfl rfl (by omega) ?_)
      all_goals refine zch ?_
      all_goals repeat (first | refine zck ?_ | refine zcl ?_ | refine zcm ?_ | refine zcn ?_)
      have hcost : 0 ≤ L2 → L2 + PO.costL (p.opers.take (j + 1)) ≤ 400 := fun h => by rw [hsn]; have := p3 h; unfold PO.cost; omega
      repeat (first | refine zck ?_ | refine zcl ?_ | refine zcm ?_ | refine zcn ?_)
      first | refine zcp (by kernel_rfl) ?_ | refine zcq PP_mixed (by kernel_rfl) (by kernel_rfl) ?_
      repeat' (refine zap rfl ?_; first | refine zan rfl ?_)
      all_goals refine zch ?_
      all_goals repeat (refine zck ?_)
      refine run_bind_eq2 (σ := { L : Int // -2000000000000000000 ≤ L ∧ L ≤ L2 }) (l' := fun s => [(1, .pointer (some ⟨be, 0, none⟩)), (3, .int .i64 s.1), (4, .int .i64 j)]) (Γ' := fun _ => []) ?_ ?_
      · refine zcl ?_
        refine run_loop (S := Nat × Int) (fun s => [(1, .pointer (some ⟨be, 0, none⟩)), (3, .int .i64 s.2), (4, .int .i64 j), (5, .int .i64 s.1)])
          (fun s Γ => Γ = [] ∧ s.1 ≤ x.params.length ∧ s.1 ≤ 20 ∧ -200000000000000000 - 50000000000000000 * (s.1 : Int) ≤ s.2 ∧ s.2 ≤ L2) (fun s => x.params.length - s.1) (0, L2)
          ⟨rfl, rfl, rfl, rfl, trivial⟩ ⟨rfl, Nat.zero_le _, by dsimp only; omega, by dsimp only; omega, by dsimp only; omega⟩ ?_
        rintro ⟨i, L3⟩ Γ junk ⟨rfl, w1, w2, w3, w4⟩
        dsimp only at w1 w2 w3 w4 ⊢
        by_cases hi : i < x.params.length ∧ i < 20
        · obtain ⟨hi, hi2⟩ := hi
          obtain ⟨s, hs⟩ : ∃ s, x.params[i]? = some s := ⟨_, List.getElem?_eq_getElem hi⟩
          obtain ⟨b3, off3, cc3, T3, fr3, rfl, g2, _, g3⟩ := r1.cells hs
          have hsz := y2 s (List.mem_iff_getElem?.2 ⟨_, hs⟩)
          unfold szB at hsz
          have em3 : ∀ hF Γ w, Sh ((be, Obj.cells (List.toArray [Value.slice a1 p.stores.length c1, Value.slice (some ⟨b, off, none⟩) p.opers.length c2]) 25 (0, 0)) :: sh) hF → St w0 hF Γ w → w.heap[b3]? = some (.cells cc3 T3 fr3) := fun hF Γ w h1 h2 => g2 hF Γ w (fun p hp => h1 p (by simp [hp])) h2
          repeat' (first | refine zck ?_ | refine zcp (by kernel_rfl) ?_ | refine zcm ?_ | refine zcl ?_ | refine zcn ?_ | (refine zap rfl ?_; first | refine zad rfl em (e5 1 _ rfl _ (by omega)) ?_ | refine zad rfl em3 (g3 0 _ rfl _ (by omega)) ?_ | refine zaj rfl ?_ | refine zan rfl ?_ | refine zan rfl ?_ | refine zaa 0 rfl rfl rfl ?_ | refine reg_lenS rfl ?_ | refine zce rfl ?_ | refine zao rfl ?_ | refine zbg rfl rfl (by omega) ?_ | refine zau rfl rfl (by omega) ?_ | refine zav rfl rfl (by omega) ?_ | refine zax rfl rfl (by omega) ?_ | refine zbu rfl ?_ | refine zas rfl rfl (by omega) ?_) | refine zch ?_ | refine zci rfl ?_)
          exact cut_end ⟨rfl, (i + 1, L3 - ((s.size : Nat) : Int) / 100), ⟨rfl, rfl, rfl, int_eq (by dsimp only; omega), trivial⟩, ⟨rfl, by dsimp only; omega, by dsimp only; omega, by dsimp only; omega, by dsimp only; omega⟩, by dsimp only; omega⟩
        · by_cases hi1 : i < x.params.length
          · repeat' (first | refine zck ?_ | refine zcp (by kernel_rfl) ?_ | (refine zap rfl ?_; first | refine zad rfl em (e5 1 _ rfl _ (by omega)) ?_ | refine zaj rfl ?_ | refine zan rfl ?_ | refine zaa 0 rfl rfl rfl ?_ | refine zce rfl ?_ | refine zao rfl ?_ | refine zbg rfl rfl (by omega) ?_ | refine zbh rfl rfl (by omega) ?_ | refine zbu rfl ?_ | refine zas rfl rfl (by omega) ?_) | refine zch ?_ | refine zcj rfl ?_)
            refine cut_exit rfl rfl ?_
            exact cut_end ⟨rfl, ⟨L3, by omega, w4⟩, ⟨rfl, rfl, rfl, trivial⟩, rfl⟩
          · repeat' (first | refine zck ?_ | refine zcp (by kernel_rfl) ?_ | (refine zap rfl ?_; first | refine zad rfl em (e5 1 _ rfl _ (by omega)) ?_ | refine zak rfl ?_ | refine zan rfl ?_ | refine zaa 0 rfl rfl rfl ?_ | refine zce rfl ?_ | refine zao rfl ?_ | refine zbh rfl rfl (by omega) ?_ | refine zbv rfl ?_ | refine zas rfl rfl (by omega) ?_) | refine zch ?_ | refine zcj rfl ?_)
            refine cut_exit rfl rfl ?_
            exact cut_end ⟨rfl, ⟨L3, by omega, w4⟩, ⟨rfl, rfl, rfl, trivial⟩, rfl⟩
      · rintro ⟨L3, w1, w2⟩ junk
        dsimp only
        repeat' (first | refine zcp (by kernel_rfl) ?_ | refine zcn ?_ | (refine zap rfl ?_; first | refine zan rfl ?_ | refine zan rfl ?_ | refine zau rfl rfl (by omega) ?_) | refine zch ?_)
        exact cut_end ⟨rfl, (j + 1, L3), ⟨rfl, rfl, int_eq (by dsimp only; omega), trivial⟩, ⟨rfl, by dsimp only; omega, by dsimp only; omega, by dsimp only; omega, fun h => by dsimp only at h ⊢; have := hcost (by omega); omega⟩, by dsimp only; omega⟩
    · by_cases hj1 : j < p.opers.length
      · have hL : L < 0 := by omega
        repeat' (first | refine zck ?_ | refine zcp (by kernel_rfl) ?_ | (refine zap rfl ?_; first | refine zaj rfl ?_ | refine zan rfl ?_ | refine zaa 0 rfl rfl rfl ?_ | refine zce rfl ?_ | refine zao rfl ?_ | refine zbg rfl rfl (by omega) ?_ | refine zbn rfl rfl (by omega) ?_ | refine zbu rfl ?_) | refine zch ?_ | refine zcj rfl ?_)
        refine cut_exit rfl rfl ?_
        exact cut_end ⟨rfl, ⟨L, q2, q3, fun h => by omega⟩, ⟨rfl, rfl, trivial⟩, rfl⟩
      · repeat' (first | refine zck ?_ | refine zcp (by kernel_rfl) ?_ | (refine zap rfl ?_; first | refine zak rfl ?_ | refine zan rfl ?_ | refine zaa 0 rfl rfl rfl ?_ | refine zce rfl ?_ | refine zao rfl ?_ | refine zbh rfl rfl (by omega) ?_ | refine zbv rfl ?_) | refine zch ?_ | refine zcj rfl ?_)
        refine cut_exit rfl rfl ?_
        exact cut_end ⟨rfl, ⟨L, q2, q3, fun h => by have := q4 h; rwa [List.take_of_length_le (by omega)] at this⟩, ⟨rfl, rfl, trivial⟩, rfl⟩
  · rintro ⟨L1, w1, w2, w3⟩ junk
    dsimp only
    repeat (first | refine zck ?_ | refine zcl ?_ | refine zcm ?_ | refine zcn ?_)
    first | refine zcp (by kernel_rfl) ?_ | refine zcq PP_mixed (by kernel_rfl) (by kernel_rfl) ?_
    repeat' (refine zap rfl ?_; first | refine zan rfl ?_)
    all_goals refine zch ?_
    all_goals repeat (first | refine zck ?_ | refine zcl ?_ | refine zcm ?_ | refine zcn ?_)
    refine run_loop (S := Nat × Int) (fun s => [(1, .pointer (some ⟨be, 0, none⟩)), (3, .int .i64 s.2), (6, .int .i64 s.1)])
      (fun s Γ => Γ = [] ∧ s.1 ≤ p.stores.length ∧ -2000000000000000000 ≤ s.2 ∧ s.2 ≤ L1 ∧ (0 ≤ s.2 → s.2 + (s.1 : Int) ≤ L1)) (fun s => p.stores.length - s.1) (0, L1)
      ⟨rfl, rfl, rfl, trivial⟩ ⟨rfl, Nat.zero_le _, by dsimp only; omega, by dsimp only; omega, fun _ => by simp⟩ ?_
    rintro ⟨j, L⟩ Γ junk ⟨rfl, q1, q2, q3, q4⟩
    dsimp only at q1 q2 q3 q4 ⊢
    by_cases hj : j < p.stores.length ∧ 0 ≤ L
    · obtain ⟨hj, hL⟩ := hj
      obtain ⟨x, hx⟩ : ∃ x, p.stores[j]? = some x := ⟨_, List.getElem?_eq_getElem hj⟩
      obtain ⟨b, off, cc, T, fr, rfl, e2, _, e5⟩ := h1.cells hx
      obtain ⟨y1, y2⟩ := z1 x (List.mem_iff_getElem?.2 ⟨_, hx⟩)
      unfold szB at y1 y2
      have hq4 := q4 hL
      have em : ∀ hF Γ w, Sh ((be, Obj.cells (List.toArray [Value.slice (some ⟨b, off, none⟩) p.stores.length c1, Value.slice a2 p.opers.length c2]) 25 (0, 0)) :: sh) hF → St w0 hF Γ w → w.heap[b]? = some (.cells cc T fr) := fun hF Γ w h1 h2 => e2 hF Γ w (fun p hp => h1 p (by simp [hp])) h2
      repeat' (first | refine zck ?_ | refine zcp (by kernel_rfl) ?_ | refine zcq PP_mixed (by kernel_rfl) (by kernel_rfl) ?_ | refine zcm ?_ | refine zcl ?_ | refine zcn ?_ | (refine zap rfl ?_; first | refine zad rfl em (e5 0 _ rfl _ (by omega)) ?_ | refine zad rfl em (e5 1 _ rfl _ (by omega)) ?_ | refine zaj rfl ?_ | refine zan rfl ?_ | refine zan rfl ?_ | refine zaa 0 rfl rfl rfl ?_ | refine reg_lenS rfl ?_ | refine zce rfl ?_ | refine zao rfl ?_ | refine zbg rfl rfl (by omega) ?_ | refine zbm rfl rfl (by omega) ?_ | refine zau rfl rfl (by omega) ?_ | refine zav rfl rfl (by omega) ?_ | refine zax rfl rfl (by omega) ?_ | refine zbu rfl ?_ | refine zas rfl rfl (by omega) ?_) | refine zch ?_ | refine zci rfl ?_)
      exact cut_end ⟨rfl, (j + 1, L - 1 - ((x.1.size : Nat) : Int) / 100 - ((x.2.size : Nat) : Int) / 100), ⟨rfl, rfl, int_eq (by dsimp only; omega), trivial⟩, ⟨rfl, by dsimp only; omega, by dsimp only; omega, by dsimp only; omega, fun h => by dsimp only at h ⊢; omega⟩, by dsimp only; omega⟩
    · by_cases hj1 : j < p.stores.length
      · have hL : L < 0 := by omega
        repeat' (first | refine zck ?_ | refine zcp (by kernel_rfl) ?_ | (refine zap rfl ?_; first | refine zaj rfl ?_ | refine zan rfl ?_ | refine zaa 0 rfl rfl rfl ?_ | refine zce rfl ?_ | refine zao rfl ?_ | refine zbg rfl rfl (by omega) ?_ | refine zbn rfl rfl (by omega) ?_ | refine zbu rfl ?_) | refine zch ?_ | refine zcj rfl ?_)
        refine cut_exit rfl rfl ?_
        repeat' (first | refine zck ?_ | refine zcp (by kernel_rfl) ?_ | (refine zap rfl ?_; first | refine zan rfl ?_ | refine zan rfl ?_ | refine zbg rfl rfl (by omega) ?_) | refine zch ?_)
        exact ret_tmp1 rfl ⟨rfl, true, rfl, fun h => by cases h⟩
      · repeat' (first | refine zck ?_ | refine zcp (by kernel_rfl) ?_ | (refine zap rfl ?_; first | refine zak rfl ?_ | refine zan rfl ?_ | refine zaa 0 rfl rfl rfl ?_ | refine zce rfl ?_ | refine zao rfl ?_ | refine zbh rfl rfl (by omega) ?_ | refine zbv rfl ?_) | refine zch ?_ | refine zcj rfl ?_)
        refine cut_exit rfl rfl ?_
        repeat' (first | refine zck ?_ | refine zcp (by kernel_rfl) ?_ | (refine zap rfl ?_; first | refine zan rfl ?_ | refine zan rfl ?_ | refine zbq rfl rfl ?_) | refine zch ?_)
        refine ret_tmp1 rfl ⟨rfl, _, rfl, fun h => ?_⟩
        have h3 := of_decide_eq_false h
        have h4 := q4 (by omega)
        have h5 := w3 (by omega)
        have h6 : j = p.stores.length := by omega
        omega
end Go.Proofs.YtagmagnkigjggaaGreatDoor

namespace Go.Vc
open Sim
theorem RdEs.of {w0 : World} {sh : Shared} : ∀ {cl : List (List Value)}, (∀ c ∈ cl, c.length = 6 ∧ ∃ e : PE, RdE w0 sh e c ∧ e.sz) → ∃ l, RdEs w0 sh l cl ∧ PE.szL l
  | [], _ => ⟨[], by unfold RdEs; rfl, by unfold PE.szL; trivial⟩
  | c :: cl, h => by
    obtain ⟨_, e, h1, h2⟩ := h c (.head _)
    obtain ⟨l, h3, h4⟩ := RdEs.of fun c hc => h c (.tail _ hc)
    exact ⟨e :: l, by unfold RdEs; exact ⟨c, cl, rfl, h1, h3⟩, by unfold PE.szL; exact ⟨h2, h4⟩⟩
theorem RdSs.of {w0 : World} {sh : Shared} : ∀ {cl : List (List Value)}, (∀ c ∈ cl, c.length = 11 ∧ ∃ e : PS, RdS w0 sh e c ∧ e.sz) → ∃ l, RdSs w0 sh l cl ∧ PS.szL l
  | [], _ => ⟨[], by unfold RdSs; rfl, by unfold PS.szL; trivial⟩
  | c :: cl, h => by
    obtain ⟨_, e, h1, h2⟩ := h c (.head _)
    obtain ⟨l, h3, h4⟩ := RdSs.of fun c hc => h c (.tail _ hc)
    exact ⟨e :: l, by unfold RdSs; exact ⟨c, cl, rfl, h1, h3⟩, by unfold PS.szL; exact ⟨h2, h4⟩⟩
def PO.sz (o : PO) : Prop := szB o.name ∧ (∀ s ∈ o.params, szB s) ∧ o.params.length ≤ 1125899906842624 ∧ PS.szL o.body
theorem RdOs.of {w0 : World} {sh : Shared} : ∀ {cl : List (List Value)}, (∀ c ∈ cl, c.length = 3 ∧ ∃ e : PO, RdO w0 sh e c ∧ PO.sz e) → ∃ l, RdOs w0 sh l cl ∧ ∀ o ∈ l, PO.sz o
  | [], _ => ⟨[], rfl, fun o h => by simp at h⟩
  | c :: cl, h => by
    obtain ⟨_, e, h1, h2⟩ := h c (.head _)
    obtain ⟨l, h3, h4⟩ := RdOs.of fun c hc => h c (.tail _ hc)
    refine ⟨e :: l, ⟨c, cl, rfl, h1, h3⟩, fun o ho => ?_⟩
    rcases List.mem_cons.1 ho with rfl | ho
    · exact h2
    · exact h4 o ho
end Go.Vc
namespace Go.Proofs.YtagmagnkigjggaaGreatDoor
open Go.Vc Sim
set_option maxRecDepth 100000
section
variable {H : Type} {enc : TypeId × Value → H} {w : World} {base : Nat} {spare : Nat → Bool} {held : Bool}
theorem in_pe : ∀ (n : Nat) (cs : List Value) (y : DataW H × List MemPlace), DataW.trod enc Tryz.prog w base spare held n 58 cs = some y → (∀ q ∈ y.1.weights Tryz.prog 58, q ≤ reachBytes) → cs.length = 6 ∧ ∃ e : PE, RdE w [] e cs ∧ e.sz := by
  intro n
  induction n using Nat.strongRecOn with
  | _ n ih =>
  intro cs y h hw
  obtain ⟨xs, n', hn', hy, hlen, hxl, hf⟩ := DataW.trod_struct Tryz.underlying58 h
  have cI : Tryz.prog.cellsOf 3 = 1 := by kernel_rfl
  have cI6 : Tryz.prog.cellsOf 2 = 1 := by kernel_rfl
  have cS : Tryz.prog.cellsOf 9 = 1 := by kernel_rfl
  have cL : Tryz.prog.cellsOf 56 = 1 := by kernel_rfl
  have c6 : Tryz.prog.cellsOf 58 = 6 := by kernel_rfl
  rw [c6] at hlen
  have f0 : DataW.trod enc Tryz.prog w base spare held n' 3 ((cs.drop 0).take (Tryz.prog.cellsOf 3)) = xs[0]? := hf 0 _ rfl
  have f1 : DataW.trod enc Tryz.prog w base spare held n' 2 ((cs.drop 1).take (Tryz.prog.cellsOf 2)) = xs[1]? := hf 1 _ rfl
  have f2 : DataW.trod enc Tryz.prog w base spare held n' 9 ((cs.drop 2).take (Tryz.prog.cellsOf 9)) = xs[2]? := hf 2 _ rfl
  have f3 : DataW.trod enc Tryz.prog w base spare held n' 9 ((cs.drop 3).take (Tryz.prog.cellsOf 9)) = xs[3]? := hf 3 _ rfl
  have f4 : DataW.trod enc Tryz.prog w base spare held n' 56 ((cs.drop 4).take (Tryz.prog.cellsOf 56)) = xs[4]? := hf 4 _ rfl
  have f5 : DataW.trod enc Tryz.prog w base spare held n' 56 ((cs.drop 5).take (Tryz.prog.cellsOf 56)) = xs[5]? := hf 5 _ rfl
  rw [cI] at f0
  rw [cI6] at f1
  rw [cS] at f2 f3
  rw [cL] at f4 f5
  match cs, hlen with
  | [a0, a1, a2, a3, a4, a5], _ =>
    match xs, hxl with
    | [y0, y1, y2, y3, y4, y5], _ =>
      have hwt : y.1.weights Tryz.prog 58 = y0.1.weights Tryz.prog 3 ++ (y1.1.weights Tryz.prog 2 ++ (y2.1.weights Tryz.prog 9 ++ (y3.1.weights Tryz.prog 9 ++ (y4.1.weights Tryz.prog 56 ++ (y5.1.weights Tryz.prog 56 ++ []))))) := by
        rw [hy]
        simp only [DataW.weights, Tryz.underlying58]
        rfl
      rw [hwt] at hw
      obtain ⟨k0, e0, _⟩ := DataW.trod_int Tryz.underlying3 (show DataW.trod _ _ _ _ _ _ n' _ [a0] = some y0 from f0)
      obtain ⟨k1, e1, _⟩ := DataW.trod_int Tryz.underlying2 (show DataW.trod _ _ _ _ _ _ n' _ [a1] = some y1 from f1)
      obtain ⟨s2, e2, z2⟩ := in_strW Tryz.underlying9 (show DataW.trod _ _ _ _ _ _ n' _ [a2] = some y2 from f2) (fun q hq => hw q (by simp [hq]))
      obtain ⟨s3, e3, z3⟩ := in_strW Tryz.underlying9 (show DataW.trod _ _ _ _ _ _ n' _ [a3] = some y3 from f3) (fun q hq => hw q (by simp [hq]))
      obtain ⟨v4, l4, e4, r4, p4, _⟩ := in_sliceF (fun c : List Value => c) (fun c => c.length = 6 ∧ ∃ e : PE, RdE w [] e c ∧ e.sz) Tryz.underlying56 c6 (by decide) (show DataW.trod _ _ _ _ _ _ n' _ [a4] = some y4 from f4) (fun q hq => hw q (by simp [hq])) (fun m hm cs y hy hq => ⟨cs, ih m (by omega) cs y hy hq, rfl⟩)
      obtain ⟨v5, l5, e5, r5, p5, _⟩ := in_sliceF (fun c : List Value => c) (fun c => c.length = 6 ∧ ∃ e : PE, RdE w [] e c ∧ e.sz) Tryz.underlying56 c6 (by decide) (show DataW.trod _ _ _ _ _ _ n' _ [a5] = some y5 from f5) (fun q hq => hw q (by simp [hq])) (fun m hm cs y hy hq => ⟨cs, ih m (by omega) cs y hy hq, rfl⟩)
      simp only [List.cons.injEq, and_true] at e0 e1 e2 e3 e4 e5
      subst e0; subst e1; subst e2; subst e3; subst e4; subst e5
      obtain ⟨xs4, q4, t4⟩ := RdEs.of p4
      obtain ⟨xs5, q5, t5⟩ := RdEs.of p5
      have hR : reachBytes = 140737488351232 := rfl
      refine ⟨rfl, .mk k0 k1 s2 s3 xs4 xs5, RdE.of (e := .mk k0 k1 s2 s3 xs4 xs5) ⟨l4, r4.rd, q4⟩ ⟨l5, r5.rd, q5⟩, ?_⟩
      unfold PE.sz szB
      exact ⟨by omega, by omega, t4, t5⟩
theorem in_ps : ∀ (n : Nat) (cs : List Value) (y : DataW H × List MemPlace), DataW.trod enc Tryz.prog w base spare held n 60 cs = some y → (∀ q ∈ y.1.weights Tryz.prog 60, q ≤ reachBytes) → cs.length = 11 ∧ ∃ e : PS, RdS w [] e cs ∧ e.sz := by
  intro n
  induction n using Nat.strongRecOn with
  | _ n ih =>
  intro cs y h hw
  obtain ⟨xs, n', hn', hy, hlen, hxl, hf⟩ := DataW.trod_struct Tryz.underlying60 h
  have c0 : Tryz.prog.cellsOf 3 = 1 := by kernel_rfl
  have c1 : Tryz.prog.cellsOf 9 = 1 := by kernel_rfl
  have c2 : Tryz.prog.cellsOf 2 = 1 := by kernel_rfl
  have c3 : Tryz.prog.cellsOf 58 = 6 := by kernel_rfl
  have c4 : Tryz.prog.cellsOf 34 = 1 := by kernel_rfl
  have cT : Tryz.prog.cellsOf 60 = 11 := by kernel_rfl
  rw [cT] at hlen
  have f0 : DataW.trod enc Tryz.prog w base spare held n' 3 ((cs.drop 0).take (Tryz.prog.cellsOf 3)) = xs[0]? := hf 0 _ rfl
  have f1 : DataW.trod enc Tryz.prog w base spare held n' 9 ((cs.drop 1).take (Tryz.prog.cellsOf 9)) = xs[1]? := hf 1 _ rfl
  have f2 : DataW.trod enc Tryz.prog w base spare held n' 2 ((cs.drop 2).take (Tryz.prog.cellsOf 2)) = xs[2]? := hf 2 _ rfl
  have f3 : DataW.trod enc Tryz.prog w base spare held n' 58 ((cs.drop 3).take (Tryz.prog.cellsOf 58)) = xs[3]? := hf 3 _ rfl
  have f4 : DataW.trod enc Tryz.prog w base spare held n' 34 ((cs.drop 9).take (Tryz.prog.cellsOf 34)) = xs[4]? := hf 4 _ rfl
  have f5 : DataW.trod enc Tryz.prog w base spare held n' 34 ((cs.drop 10).take (Tryz.prog.cellsOf 34)) = xs[5]? := hf 5 _ rfl
  rw [c0] at f0
  rw [c1] at f1
  rw [c2] at f2
  rw [c3] at f3
  rw [c4] at f4 f5
  match cs, hlen with
  | [a0, a1, a2, a3, a4, a5, a6, a7, a8, a9, a10], _ =>
    match xs, hxl with
    | [y0, y1, y2, y3, y4, y5], _ =>
      have hwt : y.1.weights Tryz.prog 60 = y0.1.weights Tryz.prog 3 ++ (y1.1.weights Tryz.prog 9 ++ (y2.1.weights Tryz.prog 2 ++ (y3.1.weights Tryz.prog 58 ++ (y4.1.weights Tryz.prog 34 ++ (y5.1.weights Tryz.prog 34 ++ []))))) := by
        rw [hy]
        simp only [DataW.weights, Tryz.underlying60]
        rfl
      rw [hwt] at hw
      obtain ⟨k0, e0, _⟩ := DataW.trod_int Tryz.underlying3 (show DataW.trod _ _ _ _ _ _ n' _ [a0] = some y0 from f0)
      obtain ⟨s1, e1, z1⟩ := in_strW Tryz.underlying9 (show DataW.trod _ _ _ _ _ _ n' _ [a1] = some y1 from f1) (fun q hq => hw q (by simp [hq]))
      obtain ⟨k2, e2, _⟩ := DataW.trod_int Tryz.underlying2 (show DataW.trod _ _ _ _ _ _ n' _ [a2] = some y2 from f2)
      obtain ⟨_, x3, r3, z3⟩ := in_pe n' _ _ (show DataW.trod _ _ _ _ _ _ n' _ [a3, a4, a5, a6, a7, a8] = some y3 from f3) (fun q hq => hw q (by simp [hq]))
      obtain ⟨v4, l4, e4, r4, p4, _⟩ := in_sliceF (fun c : List Value => c) (fun c => c.length = 11 ∧ ∃ e : PS, RdS w [] e c ∧ e.sz) Tryz.underlying34 cT (by decide) (show DataW.trod _ _ _ _ _ _ n' _ [a9] = some y4 from f4) (fun q hq => hw q (by simp [hq])) (fun m hm cs y hy hq => ⟨cs, ih m (by omega) cs y hy hq, rfl⟩)
      obtain ⟨v5, l5, e5, r5, p5, _⟩ := in_sliceF (fun c : List Value => c) (fun c => c.length = 11 ∧ ∃ e : PS, RdS w [] e c ∧ e.sz) Tryz.underlying34 cT (by decide) (show DataW.trod _ _ _ _ _ _ n' _ [a10] = some y5 from f5) (fun q hq => hw q (by simp [hq])) (fun m hm cs y hy hq => ⟨cs, ih m (by omega) cs y hy hq, rfl⟩)
      simp only [List.cons.injEq, and_true] at e0 e1 e2 e4 e5
      subst e0; subst e1; subst e2; subst e4; subst e5
      obtain ⟨xs4, q4, t4⟩ := RdSs.of p4
      obtain ⟨xs5, q5, t5⟩ := RdSs.of p5
      have hR : reachBytes = 140737488351232 := rfl
      refine ⟨rfl, .mk k0 s1 k2 x3 xs4 xs5, ?_, ?_⟩
      · unfold RdS
        exact ⟨_, _, _, _, _, rfl, r3, r4.rd, q4, r5.rd, q5⟩
      · unfold PS.sz szB
        exact ⟨by omega, z3, t4, t5⟩

theorem in_po : ∀ (n : Nat) (cs : List Value) (y : DataW H × List MemPlace), DataW.trod enc Tryz.prog w base spare held n 36 cs = some y → (∀ q ∈ y.1.weights Tryz.prog 36, q ≤ reachBytes) → cs.length = 3 ∧ ∃ e : PO, RdO w [] e cs ∧ PO.sz e := by
  intro n
  intro cs y h hw
  obtain ⟨xs, n', hn', hy, hlen, hxl, hf⟩ := DataW.trod_struct Tryz.underlying36 h
  have c0 : Tryz.prog.cellsOf 9 = 1 := by kernel_rfl
  have c1 : Tryz.prog.cellsOf 28 = 1 := by kernel_rfl
  have c2 : Tryz.prog.cellsOf 34 = 1 := by kernel_rfl
  have cT : Tryz.prog.cellsOf 36 = 3 := by kernel_rfl
  rw [cT] at hlen
  have f0 : DataW.trod enc Tryz.prog w base spare held n' 9 ((cs.drop 0).take (Tryz.prog.cellsOf 9)) = xs[0]? := hf 0 _ rfl
  have f1 : DataW.trod enc Tryz.prog w base spare held n' 28 ((cs.drop 1).take (Tryz.prog.cellsOf 28)) = xs[1]? := hf 1 _ rfl
  have f2 : DataW.trod enc Tryz.prog w base spare held n' 34 ((cs.drop 2).take (Tryz.prog.cellsOf 34)) = xs[2]? := hf 2 _ rfl
  rw [c0] at f0
  rw [c1] at f1
  rw [c2] at f2
  match cs, hlen with
  | [a0, a1, a2], _ =>
    match xs, hxl with
    | [y0, y1, y2], _ =>
      have hwt : y.1.weights Tryz.prog 36 = y0.1.weights Tryz.prog 9 ++ (y1.1.weights Tryz.prog 28 ++ (y2.1.weights Tryz.prog 34 ++ [])) := by
        rw [hy]
        simp only [DataW.weights, Tryz.underlying36]
        rfl
      rw [hwt] at hw
      obtain ⟨s0, e0, z0⟩ := in_strW Tryz.underlying9 (show DataW.trod _ _ _ _ _ _ n' _ [a0] = some y0 from f0) (fun q hq => hw q (by simp [hq]))
      obtain ⟨v1, l1, e1, r1, p1, w1⟩ := in_sliceF (m := 1) encY szB Tryz.underlying28 c0 (by decide) (show DataW.trod _ _ _ _ _ _ n' _ [a1] = some y1 from f1) (fun q hq => hw q (by simp [hq])) (fun m hm cs y hy hq => by
        obtain ⟨s, h1, h2⟩ := in_strW Tryz.underlying9 hy hq
        have hR : reachBytes = 140737488351232 := rfl
        exact ⟨s, by unfold szB; omega, h1⟩)
      obtain ⟨v2, l2, e2, r2, p2, _⟩ := in_sliceF (m := 11) (fun c : List Value => c) (fun c => c.length = 11 ∧ ∃ e : PS, RdS w [] e c ∧ e.sz) Tryz.underlying34 (by kernel_rfl) (by decide) (show DataW.trod _ _ _ _ _ _ n' _ [a2] = some y2 from f2) (fun q hq => hw q (by simp [hq])) (fun m hm cs y hy hq => ⟨cs, in_ps m cs y hy hq, rfl⟩)
      simp only [List.cons.injEq, and_true] at e0 e1 e2
      subst e0; subst e1; subst e2
      obtain ⟨xs2, q2, t2⟩ := RdSs.of p2
      have hR : reachBytes = 140737488351232 := rfl
      have bs1 : Tryz.prog.bytesOf 9 = 16 := by kernel_rfl
      rw [bs1] at w1
      refine ⟨rfl, ⟨s0, l1, xs2⟩, ⟨_, _, rfl, r1.rd, l2, r2.rd, q2⟩, ?_⟩
      unfold PO.sz szB
      exact ⟨by dsimp only; omega, p1, by dsimp only; omega, t2⟩

theorem in_decl : ∀ (n : Nat) (cs : List Value) (y : DataW H × List MemPlace), DataW.trod enc Tryz.prog w base spare held n 55 cs = some y → (∀ q ∈ y.1.weights Tryz.prog 55, q ≤ reachBytes) → ∃ d : ByteArray × ByteArray, (szB d.1 ∧ szB d.2) ∧ cs = encD d := by
  intro n
  intro cs y h hw
  obtain ⟨xs, n', hn', hy, hlen, hxl, hf⟩ := DataW.trod_struct Tryz.underlying55 h
  have c0 : Tryz.prog.cellsOf 9 = 1 := by kernel_rfl
  have cT : Tryz.prog.cellsOf 55 = 2 := by kernel_rfl
  rw [cT] at hlen
  have f0 : DataW.trod enc Tryz.prog w base spare held n' 9 ((cs.drop 0).take (Tryz.prog.cellsOf 9)) = xs[0]? := hf 0 _ rfl
  have f1 : DataW.trod enc Tryz.prog w base spare held n' 9 ((cs.drop 1).take (Tryz.prog.cellsOf 9)) = xs[1]? := hf 1 _ rfl
  rw [c0] at f0 f1
  match cs, hlen with
  | [a0, a1], _ =>
    match xs, hxl with
    | [y0, y1], _ =>
      have hwt : y.1.weights Tryz.prog 55 = y0.1.weights Tryz.prog 9 ++ (y1.1.weights Tryz.prog 9 ++ []) := by
        rw [hy]
        simp only [DataW.weights, Tryz.underlying55]
        rfl
      rw [hwt] at hw
      obtain ⟨s0, e0, z0⟩ := in_strW Tryz.underlying9 (show DataW.trod _ _ _ _ _ _ n' _ [a0] = some y0 from f0) (fun q hq => hw q (by simp [hq]))
      obtain ⟨s1, e1, z1⟩ := in_strW Tryz.underlying9 (show DataW.trod _ _ _ _ _ _ n' _ [a1] = some y1 from f1) (fun q hq => hw q (by simp [hq]))
      simp only [List.cons.injEq, and_true] at e0 e1
      subst e0; subst e1
      have hR : reachBytes = 140737488351232 := rfl
      refine ⟨(s0, s1), ⟨?_, ?_⟩, rfl⟩ <;> (unfold szB; dsimp only; omega)

theorem in_pp : ∀ (n : Nat) (cs : List Value) (y : DataW H × List MemPlace), DataW.trod enc Tryz.prog w base spare held n 25 cs = some y → (∀ q ∈ y.1.weights Tryz.prog 25, q ≤ reachBytes) → ∃ (a b : Value) (p : PP'), cs = [a, b] ∧ RdP w [] (.agg #[a, b]) p ∧ p.sz := by
  intro n
  intro cs y h hw
  obtain ⟨xs, n', hn', hy, hlen, hxl, hf⟩ := DataW.trod_struct Tryz.underlying25 h
  have c0 : Tryz.prog.cellsOf 22 = 1 := by kernel_rfl
  have c1 : Tryz.prog.cellsOf 23 = 1 := by kernel_rfl
  have cT : Tryz.prog.cellsOf 25 = 2 := by kernel_rfl
  rw [cT] at hlen
  have f0 : DataW.trod enc Tryz.prog w base spare held n' 22 ((cs.drop 0).take (Tryz.prog.cellsOf 22)) = xs[0]? := hf 0 _ rfl
  have f1 : DataW.trod enc Tryz.prog w base spare held n' 23 ((cs.drop 1).take (Tryz.prog.cellsOf 23)) = xs[1]? := hf 1 _ rfl
  rw [c0] at f0
  rw [c1] at f1
  match cs, hlen with
  | [a0, a1], _ =>
    match xs, hxl with
    | [y0, y1], _ =>
      have hwt : y.1.weights Tryz.prog 25 = y0.1.weights Tryz.prog 22 ++ (y1.1.weights Tryz.prog 23 ++ []) := by
        rw [hy]
        simp only [DataW.weights, Tryz.underlying25]
        rfl
      rw [hwt] at hw
      obtain ⟨v0, l0, e0, r0, p0, w0⟩ := in_sliceF (m := 2) encD (fun d => szB d.1 ∧ szB d.2) Tryz.underlying22 (by kernel_rfl) (by decide) (show DataW.trod _ _ _ _ _ _ n' _ [a0] = some y0 from f0) (fun q hq => hw q (by simp [hq])) (fun m hm cs y hy hq => in_decl m cs y hy hq)
      obtain ⟨v1, l1, e1, r1, p1, w1⟩ := in_sliceF (m := 3) (fun c : List Value => c) (fun c => c.length = 3 ∧ ∃ e : PO, RdO w [] e c ∧ PO.sz e) Tryz.underlying23 (by kernel_rfl) (by decide) (show DataW.trod _ _ _ _ _ _ n' _ [a1] = some y1 from f1) (fun q hq => hw q (by simp [hq])) (fun m hm cs y hy hq => ⟨cs, in_po m cs y hy hq, rfl⟩)
      simp only [List.cons.injEq, and_true] at e0 e1
      subst e0; subst e1
      obtain ⟨xs1, q1, t1⟩ := RdOs.of p1
      have hR : reachBytes = 140737488351232 := rfl
      have b0 : Tryz.prog.bytesOf 55 = 32 := by kernel_rfl
      have b1 : Tryz.prog.bytesOf 36 = 64 := by kernel_rfl
      rw [b0] at w0
      rw [b1] at w1
      have hl := q1.len
      refine ⟨_, _, ⟨l0, xs1⟩, rfl, ⟨_, _, rfl, r0.rd, l1, r1.rd, q1⟩, ?_⟩
      exact ⟨p0, by dsimp only; omega, by dsimp only; omega, t1⟩

end
end Go.Proofs.YtagmagnkigjggaaGreatDoor

namespace Go.Vc
open Sim
theorem allOne_app : ∀ {a b : List Value}, allOne a = true → allOne b = true → allOne (a ++ b) = true
  | [], b, _, h => h
  | x :: a, b, h, h2 => by
    rw [allOne, Bool.and_eq_true] at h
    rw [List.cons_append, allOne, Bool.and_eq_true]
    exact ⟨h.1, allOne_app h.2 h2⟩
theorem RdOs.flat {w0 : World} {sh : Shared} : ∀ {l : List PO} {cl : List (List Value)}, RdOs w0 sh l cl → allOne (cl.flatMap fun x => x) = true ∧ ∀ c ∈ cl, c.length = 3
  | [], _, h => by rw [show _ = [] from h]; exact ⟨rfl, by simp⟩
  | o :: l, _, h => by
    obtain ⟨c, cl', rfl, ⟨vp, vb, rfl, h1, h2⟩, h3⟩ := h
    obtain ⟨i1, i2⟩ := RdOs.flat h3
    obtain ⟨x1, y1, rfl⟩ := h1.val
    obtain ⟨x2, y2, rfl, _⟩ := h2.len
    refine ⟨?_, fun c hc => ?_⟩
    · rw [List.flatMap_cons]
      exact allOne_app rfl i1
    · rcases List.mem_cons.1 hc with rfl | hc
      · rfl
      · exact i2 c hc
theorem RdSs.flat {w0 : World} {sh : Shared} : ∀ {l : List PS} {cl : List (List Value)}, RdSs w0 sh l cl → allOne (cl.flatMap fun x => x) = true ∧ ∀ c ∈ cl, c.length = 11
  | [], _, h => by unfold RdSs at h; rw [h]; exact ⟨rfl, by simp⟩
  | .mk _ _ _ (.mk _ _ _ _ _ _) _ _ :: l, _, h => by
    unfold RdSs at h
    obtain ⟨c, cl', rfl, h2, h3⟩ := h
    obtain ⟨i1, i2⟩ := RdSs.flat h3
    unfold RdS at h2
    obtain ⟨ce, vb, ve, c1, c2, rfl, he, hb, _, hx, _⟩ := h2
    unfold RdE at he
    obtain ⟨va, vo, c3, c4, rfl, ha, _, ho, _⟩ := he
    obtain ⟨x1, y1, rfl, _⟩ := hb
    obtain ⟨x2, y2, rfl, _⟩ := hx
    obtain ⟨x3, y3, rfl, _⟩ := ha
    obtain ⟨x4, y4, rfl, _⟩ := ho
    refine ⟨?_, fun c hc => ?_⟩
    · rw [List.flatMap_cons]
      exact allOne_app rfl i1
    · rcases List.mem_cons.1 hc with rfl | hc
      · rfl
      · exact i2 c hc
theorem RdSs.app {w0 : World} {sh : Shared} : ∀ {l l' : List PS} {cl cl' : List (List Value)}, RdSs w0 sh l cl → RdSs w0 sh l' cl' → RdSs w0 sh (l ++ l') (cl ++ cl')
  | [], _, _, _, h, h2 => by unfold RdSs at h; rw [h]; exact h2
  | e :: l, _, _, _, h, h2 => by
    unfold RdSs at h
    obtain ⟨c, cl', rfl, h3, h4⟩ := h
    rw [List.cons_append]
    unfold RdSs
    exact ⟨c, _, rfl, h3, RdSs.app h4 h2⟩
end Go.Vc
namespace Go.Proofs.YtagmagnkigjggaaGreatDoor
open Go.Vc Sim
theorem small_of {p : PP'} (h : PO.costL p.opers + p.stores.length ≤ 400) : PP'.small p ∧ ∀ o ∈ p.opers, PS.sizeL o.body ≤ 400 := by
  have h1 := PO.costL_len p.opers
  refine ⟨⟨by omega, by omega, fun o ho => ?_⟩, fun o ho => ?_⟩
  all_goals
    have h2 := PO.costL_mem ho
    unfold PO.cost at h2
    omega
theorem sizeL_app : ∀ a b : List PS, PS.sizeL (a ++ b) = PS.sizeL a + PS.sizeL b
  | [], b => by rw [List.nil_append, PS.sizeL]; omega
  | x :: a, b => by rw [List.cons_append, PS.sizeL, PS.sizeL, sizeL_app a b]; omega
end Go.Proofs.YtagmagnkigjggaaGreatDoor

namespace Go.Proofs.YtagmagnkigjggaaGreatDoor
open Go.Vc Sim
def XSpec (w0 : World) (n : Nat) : Prop := ∀ (sh : Shared) (e : PE) (va vo : Value), e.size ≤ n → RdEl w0 sh va e.args → RdEl w0 sh vo e.or →
  Vc.Fn PP w0 sh 27 [.agg (List.toArray (peC e.kind e.num e.name e.meth va vo))] [] (fun r Γ => ∃ a c a' c', r = .agg (List.toArray (peC e.kind e.num e.name e.meth (.slice a e.args.length c) (.slice a' e.or.length c'))) ∧
    Γ = [Rds fun bl => RdEl w0 bl (.slice a e.args.length c) e.args ∧ RdEl w0 bl (.slice a' e.or.length c') e.or])
set_option maxHeartbeats 4000000 in
theorem conv_of (w0 : World) (n : Nat) (hE : XSpec w0 n) (sh : Shared) (v : Value) (l : List PE) (hl : RdEl w0 sh v l) (hn : ∀ x ∈ l, x.size ≤ n) (hlen : l.length ≤ 100000) :
    Vc.Fn PP w0 sh 42 [v] [] (fun r Γ => ∃ a c, r = .slice a l.length c ∧ Γ = [Rds fun bl => RdEl w0 bl (.slice a l.length c) l]) := by
  obtain ⟨a0, c0, rfl, hc0⟩ := hl.len
  refine fn_of_run en42 fn42 rfl rfl rfl ?_
  repeat' (first | refine zck ?_ | refine zcp (by kernel_rfl) ?_ | refine zcl ?_ | (refine zap rfl ?_; first | refine zan rfl ?_) | refine zch ?_)
  refine run_nilslice 74 6 ?_
  refine run_emptyR (fun bl => RdEs w0 bl [] []) (by unfold RdEs; rfl) ?_
  refine run_loop (S := Nat × Option Addr × Nat × List (List Value)) (fun s => [(0, .slice a0 l.length c0), (3, .slice s.2.1 s.1 s.2.2.1), (4, .int .i64 (s.1 : Int))])
    (fun s Γ => Γ = [Rds (fun bl => RdEs w0 bl (l.take s.1) s.2.2.2), SlA 74 6 s.2.1 s.1 s.2.2.1 (s.2.2.2.flatMap fun x => x)] ∧ s.1 ≤ l.length ∧ s.2.2.2.length = s.1 ∧ (∀ c ∈ s.2.2.2, c.length = 6)) (fun s => l.length - s.1) (0, none, 0, [])
    ⟨rfl, rfl, rfl, trivial⟩ ⟨rfl, Nat.zero_le _, rfl, fun c h => by cases h⟩ ?_
  rintro ⟨j, a, c, cl⟩ Γ junk ⟨rfl, g1, g2, g3⟩
  dsimp only at g1 g2 g3 ⊢
  by_cases hj : j < l.length
  · obtain ⟨x, hx⟩ : ∃ x, l[j]? = some x := ⟨_, List.getElem?_eq_getElem hj⟩
    obtain ⟨b, off, cc, T, fr, cs, rfl, e2, e3, e4, _⟩ := hl.at hx
    obtain ⟨va, vo, rfl, r1, r2⟩ := e4.cs
    have hcall := hE sh x _ _ (hn x (List.mem_iff_getElem?.2 ⟨_, hx⟩)) r1 r2
    obtain ⟨a3, c3, hv3, _⟩ := id r1.len
    obtain ⟨a4, c4, hv4, _⟩ := id r2.len
    subst hv3
    subst hv4
    repeat (first | refine zck ?_ | refine zcl ?_ | refine zcm ?_ | refine zcn ?_)
    first | refine zcp (by kernel_rfl) ?_ | refine zcq PP_mixed (by kernel_rfl) (by kernel_rfl) ?_
    repeat' (refine zap rfl ?_; first | refine zan rfl ?_ | refine zce rfl ?_ | refine zbg rfl rfl (by omega) ?_)
    all_goals refine zch ?_
    all_goals repeat (first | refine zck ?_ | refine zcl ?_ | refine zcm ?_ | refine zcn ?_)
    refine zci rfl ?_
    repeat (first | refine zck ?_ | refine zcl ?_ | refine zcm ?_ | refine zcn ?_)
    first | refine zcp (by kernel_rfl) ?_ | refine zcq PP_mixed (by kernel_rfl) (by kernel_rfl) ?_
    repeat' (refine zap rfl ?_; first | refine zad rfl (fun hF Γ w h1 h2 => e2 hF Γ w (fun p hp => h1 p (by simp [hp])) h2) (e3 _ (by omega)) ?_ | refine reg_buildSlice rfl rfl rfl rfl rfl rfl (fun nb => ?_) | refine zan rfl ?_ | refine zan rfl ?_ | (refine zai [] hcall rfl rfl rfl (fun p hp => by simp [hp]) ?_; rintro v Γ ⟨x1, y1, x2, y2, rfl, rfl⟩) | refine reg_append 2 3 rfl rfl rfl rfl rfl rfl rfl rfl (by omega) (fun _ _ => rfl) (fun a5 c5 => ?_) | refine zce rfl ?_ | refine zas rfl rfl (by omega) ?_)
    all_goals refine zch ?_
    all_goals repeat (first | refine zck ?_ | refine zcl ?_ | refine zcm ?_ | refine zcn ?_)
    refine run_joinR [1, 0] (χ := fun bl => RdEs w0 bl (l.take (j + 1)) (cl ++ [peC x.kind x.num x.name x.meth (.slice x1 x.args.length y1) (.slice x2 x.or.length y2)])) rfl (fun q1 q2 h1 h2 => by
      rw [take_snoc hx]
      exact (h1.mono fun p hp => List.mem_append_left _ hp).snoc (RdE.of (h2.1.mono fun p hp => List.mem_append_right _ hp) (h2.2.mono fun p hp => List.mem_append_right _ hp))) ?_
    refine run_take [0, 0] rfl ?_
    repeat' (first | refine zcp (by kernel_rfl) ?_ | (refine zap rfl ?_; first | refine zan rfl ?_ | refine zan rfl ?_ | refine zau rfl rfl (by omega) ?_) | refine zch ?_)
    refine cut_end ⟨rfl, (j + 1, a5, c5, cl ++ [peC x.kind x.num x.name x.meth (.slice x1 x.args.length y1) (.slice x2 x.or.length y2)]), ⟨rfl, rfl, int_eq (by dsimp only; omega), trivial⟩, ⟨?_, by dsimp only; omega, by dsimp only; rw [List.length_append, g2]; rfl, fun c hc => ?_⟩, by dsimp only; omega⟩
    · dsimp only
      rw [List.flatMap_append]
      rfl
    · rcases List.mem_append.1 hc with hc | hc
      · exact g3 c hc
      · rw [List.mem_singleton.1 hc]; rfl
  · repeat (first | refine zck ?_ | refine zcl ?_ | refine zcm ?_ | refine zcn ?_)
    first | refine zcp (by kernel_rfl) ?_ | refine zcq PP_mixed (by kernel_rfl) (by kernel_rfl) ?_
    repeat' (refine zap rfl ?_; first | refine zan rfl ?_ | refine zce rfl ?_ | refine zbh rfl rfl (by omega) ?_)
    all_goals refine zch ?_
    all_goals repeat (first | refine zck ?_ | refine zcl ?_ | refine zcm ?_ | refine zcn ?_)
    refine zcj rfl ?_
    refine cut_exit rfl rfl ?_
    have hjl : j = l.length := by omega
    subst hjl
    refine run_slR (fun x : List Value => x) 1 (l := cl) rfl rfl g3 g2 rfl ?_
    refine run_joinR [0, 0] (χ := fun bl => RdEl w0 bl (.slice a l.length c) l) rfl (fun q1 q2 h1 h2 => ⟨cl, h2.mono fun p hp => List.mem_append_right _ hp, by
      rw [List.take_of_length_le (Nat.le_refl _)] at h1
      exact h1.mono fun p hp => List.mem_append_left _ hp⟩) ?_
    repeat' (first | refine zck ?_ | refine zcp (by kernel_rfl) ?_ | (refine zap rfl ?_; first | refine zan rfl ?_ | refine zan rfl ?_) | refine zch ?_)
    exact ret_tmp1 rfl ⟨_, _, rfl, rfl⟩
set_option maxHeartbeats 4000000 in
theorem convE_step (w0 : World) (n : Nat) (hn : n ≤ 100000) (hE : XSpec w0 n) : XSpec w0 (n + 1) := by
  intro sh e va vo hs ha ho
  have h1 := e.size_eq
  have l1 := PE.sizeL_len e.args
  have l2 := PE.sizeL_len e.or
  have k1 := conv_of w0 n hE sh _ e.args ha (fun x h => by have := PE.size_args h; omega) (by omega)
  have k2 := conv_of w0 n hE sh _ e.or ho (fun x h => by have := PE.size_or h; omega) (by omega)
  obtain ⟨a1, c1, hva, _⟩ := id ha.len
  obtain ⟨a2, c2, hvo, _⟩ := id ho.len
  subst hva; subst hvo
  refine fn_of_run en27 fn27 rfl rfl rfl ?_
  repeat (first | refine zck ?_ | refine zcl ?_ | refine zcm ?_ | refine zcn ?_)
  first | refine zcp (by kernel_rfl) ?_ | refine zcq PP_mixed (by kernel_rfl) (by kernel_rfl) ?_
  repeat' (refine zap rfl ?_; first | refine zaq (cs := [_, _, _, _, _, _]) rfl (fun nb => ?_) | refine zar (fun nb => ?_))
  all_goals refine zch ?_
  all_goals repeat (first | refine zck ?_ | refine zcl ?_ | refine zcm ?_ | refine zcn ?_)
  refine run_share [0] rfl ?_
  repeat (first | refine zck ?_ | refine zcl ?_ | refine zcm ?_ | refine zcn ?_)
  first | refine zcp (by kernel_rfl) ?_ | refine zcq PP_mixed (by kernel_rfl) (by kernel_rfl) ?_
  repeat' (refine zap rfl ?_; first | refine zaa 0 rfl rfl rfl ?_ | (refine zai [] k1 rfl rfl rfl (fun p hp => by simp [hp]) ?_; rintro v Γ ⟨x1, y1, rfl, rfl⟩) | (refine zai [] k2 rfl rfl rfl (fun p hp => by simp [hp]) ?_; rintro v Γ ⟨x2, y2, rfl, rfl⟩) | refine zao rfl ?_ | refine zae 2 rfl rfl rfl rfl rfl rfl rfl ?_ | refine zcb rfl ?_)
  all_goals refine zch ?_
  all_goals repeat (first | refine zck ?_ | refine zcl ?_ | refine zcm ?_ | refine zcn ?_)
  refine run_joinR [1, 0] (χ := fun bl => RdEl w0 bl (.slice x1 e.args.length y1) e.args ∧ RdEl w0 bl (.slice x2 e.or.length y2) e.or) rfl
    (fun b1 b2 h1 h2 => ⟨h1.mono fun p hp => List.mem_append_left _ hp, h2.mono fun p hp => List.mem_append_right _ hp⟩) ?_
  exact run_ret (leaves_nil (ends_take [0] rfl (ends_one rfl (resOk_pt 1 rfl rfl rfl) ⟨rfl, x1, y1, x2, y2, rfl, rfl⟩)))
theorem convE_spec (w0 : World) : ∀ n, n ≤ 100000 → XSpec w0 n
  | 0, _ => fun sh e va vo h => by have := e.size_pos; omega
  | n + 1, hn => convE_step w0 n (by omega) (convE_spec w0 n (by omega))
end Go.Proofs.YtagmagnkigjggaaGreatDoor

namespace Go.Vc
open Sim
theorem RdSs.snoc {w0 : World} {sh : Shared} : ∀ {l : List PS} {cl : List (List Value)} {e : PS} {c : List Value}, RdSs w0 sh l cl → RdS w0 sh e c → RdSs w0 sh (l ++ [e]) (cl ++ [c])
  | [], _, e, c, h, he => by unfold RdSs at h; subst h; unfold RdSs; exact ⟨c, [], rfl, he, by unfold RdSs; rfl⟩
  | _ :: l, _, e, c, h, he => by
    unfold RdSs at h
    obtain ⟨c1, cl', h1, h2, h3⟩ := h
    subst h1
    rw [List.cons_append, List.cons_append]
    unfold RdSs
    exact ⟨c1, _, rfl, h2, RdSs.snoc h3 he⟩
end Go.Vc
namespace Go.Proofs.YtagmagnkigjggaaGreatDoor
open Go.Vc Sim
set_option maxHeartbeats 8000000 in
theorem convS_spec (w0 : World) : ∀ (n : Nat), n ≤ 100000 → ∀ (sh : Shared) (v : Value) (l : List PS), PS.sizeL l ≤ n → RdSt w0 sh v l →
    Vc.Fn PP w0 sh 13 [v] [] (fun r Γ => ∃ a c, r = .slice a l.length c ∧ Γ = [Rds fun bl => RdSt w0 bl (.slice a l.length c) l]) := by
  intro n
  induction n using Nat.strongRecOn with
  | _ n ih =>
  intro hn sh v l hs hl
  have hlen := PS.sizeL_len l
  obtain ⟨a0, c0, rfl, hc0⟩ := hl.len
  refine fn_of_run en13 fn13 rfl rfl rfl ?_
  repeat' (first | refine zck ?_ | refine zcp (by kernel_rfl) ?_ | refine zcl ?_ | (refine zap rfl ?_; first | refine zan rfl ?_) | refine zch ?_)
  refine run_nilslice 76 11 ?_
  refine run_emptyR (fun bl => RdSs w0 bl [] []) (by unfold RdSs; rfl) ?_
  refine run_loop (S := Nat × Option Addr × Nat × List (List Value)) (fun s => [(0, .slice a0 l.length c0), (3, .slice s.2.1 s.1 s.2.2.1), (4, .int .i64 (s.1 : Int))])
    (fun s Γ => Γ = [Rds (fun bl => RdSs w0 bl (l.take s.1) s.2.2.2), SlA 76 11 s.2.1 s.1 s.2.2.1 (s.2.2.2.flatMap fun x => x)] ∧ s.1 ≤ l.length ∧ s.2.2.2.length = s.1 ∧ (∀ c ∈ s.2.2.2, c.length = 11)) (fun s => l.length - s.1) (0, none, 0, [])
    ⟨rfl, rfl, rfl, trivial⟩ ⟨rfl, Nat.zero_le _, rfl, fun c h => by cases h⟩ ?_
  rintro ⟨j, a, c, cl⟩ Γ junk ⟨rfl, g1, g2, g3⟩
  dsimp only at g1 g2 g3 ⊢
  by_cases hj : j < l.length
  · obtain ⟨x, hx⟩ : ∃ x, l[j]? = some x := ⟨_, List.getElem?_eq_getElem hj⟩
    obtain ⟨b, off, cc, T, fr, cs, rfl, e2, e3, e4, _⟩ := hl.at hx
    obtain ⟨va, vo, vb, ve, rfl, r1, r2, r3, r4⟩ := e4.sp
    have hxn := PS.sizeL_mem (List.mem_iff_getElem?.2 ⟨_, hx⟩)
    have z1 := PS.size_expr x
    have z2 := PS.size_body x
    have z3 := PS.size_els x
    have k1 := convE_spec w0 n hn sh x.expr _ _ (by omega) r1 r2
    have k2 := ih (PS.sizeL x.body) (by omega) (by omega) sh _ x.body (Nat.le_refl _) r3
    have k3 := ih (PS.sizeL x.els) (by omega) (by omega) sh _ x.els (Nat.le_refl _) r4
    obtain ⟨p1, q1, hv1, _⟩ := id r1.len
    obtain ⟨p2, q2, hv2, _⟩ := id r2.len
    obtain ⟨p3, q3, hv3, _⟩ := id r3.len
    obtain ⟨p4, q4, hv4, _⟩ := id r4.len
    subst hv1; subst hv2; subst hv3; subst hv4
    clear ih
    repeat (first | refine zck ?_ | refine zcl ?_ | refine zcm ?_ | refine zcn ?_)
    first | refine zcp (by kernel_rfl) ?_ | refine zcq PP_mixed (by kernel_rfl) (by kernel_rfl) ?_
    repeat' (refine zap rfl ?_; first | refine zan rfl ?_ | refine zce rfl ?_ | refine zbg rfl rfl (by omega) ?_)
    all_goals refine zch ?_
    all_goals repeat (first | refine zck ?_ | refine zcl ?_ | refine zcm ?_ | refine zcn ?_)
    refine zci rfl ?_
    repeat (first | refine zck ?_ | refine zcl ?_ | refine zcm ?_ | refine zcn ?_)
    first | refine zcp (by kernel_rfl) ?_ | refine zcq PP_mixed (by kernel_rfl) (by kernel_rfl) ?_
    repeat' (refine zap rfl ?_; first | refine zad rfl (fun hF Γ w h1 h2 => e2 hF Γ w (fun p hp => h1 p (by simp [hp])) h2) (e3 _ (by omega)) ?_ | refine zar (fun t5 => ?_) | refine zae 2 rfl rfl rfl rfl rfl rfl rfl ?_ | refine zan rfl ?_ | refine zas rfl rfl (by omega) ?_)
    all_goals refine zch ?_
    all_goals repeat (first | refine zck ?_ | refine zcl ?_ | refine zcm ?_ | refine zcn ?_)
    refine run_share [2] rfl ?_
    repeat (first | refine zck ?_ | refine zcl ?_ | refine zcm ?_ | refine zcn ?_)
    first | refine zcp (by kernel_rfl) ?_ | refine zcq PP_mixed (by kernel_rfl) (by kernel_rfl) ?_
    repeat' (refine zap rfl ?_; first | refine reg_buildSlice rfl rfl rfl rfl rfl rfl (fun nb => ?_) | refine zan rfl ?_ | refine zan rfl ?_ | refine zaa 0 rfl rfl rfl ?_ | (refine zai [] k1 rfl rfl rfl (fun p hp => by simp [hp]) ?_; rintro v Γ ⟨x1, y1, x2, y2, rfl, rfl⟩) | (refine zai [] k2 rfl rfl rfl (fun p hp => by simp [hp]) ?_; rintro v Γ ⟨x3, y3, rfl, rfl⟩) | (refine zai [] k3 rfl rfl rfl (fun p hp => by simp [hp]) ?_; rintro v Γ ⟨x4, y4, rfl, rfl⟩) | refine reg_append 4 5 rfl rfl rfl rfl rfl rfl rfl rfl (by omega) (fun _ _ => rfl) (fun a5 c5 => ?_) | refine zce rfl ?_ | refine zao rfl ?_ | refine zcb rfl ?_)
    all_goals refine zch ?_
    all_goals repeat (first | refine zck ?_ | refine zcl ?_ | refine zcm ?_ | refine zcn ?_)
    refine run_joinR [2, 1] (χ := fun bl => (RdEl w0 bl (.slice x1 x.expr.args.length y1) x.expr.args ∧ RdEl w0 bl (.slice x2 x.expr.or.length y2) x.expr.or) ∧ RdSt w0 bl (.slice x3 x.body.length y3) x.body) rfl (fun b1 b2 h1 h2 => ⟨⟨h1.1.mono fun p hp => List.mem_append_left _ hp, h1.2.mono fun p hp => List.mem_append_left _ hp⟩, h2.mono fun p hp => List.mem_append_right _ hp⟩) ?_
    refine run_joinR [0, 0] (χ := fun bl => ((RdEl w0 bl (.slice x1 x.expr.args.length y1) x.expr.args ∧ RdEl w0 bl (.slice x2 x.expr.or.length y2) x.expr.or) ∧ RdSt w0 bl (.slice x3 x.body.length y3) x.body) ∧ RdSt w0 bl (.slice x4 x.els.length y4) x.els) rfl (fun b1 b2 h1 h2 => ⟨⟨⟨h1.1.1.mono fun p hp => List.mem_append_left _ hp, h1.1.2.mono fun p hp => List.mem_append_left _ hp⟩, h1.2.mono fun p hp => List.mem_append_left _ hp⟩, h2.mono fun p hp => List.mem_append_right _ hp⟩) ?_
    refine run_joinR [1, 0] (χ := fun bl => RdSs w0 bl (l.take (j + 1)) (cl ++ [psC x (.slice x1 x.expr.args.length y1) (.slice x2 x.expr.or.length y2) (.slice x3 x.body.length y3) (.slice x4 x.els.length y4)])) rfl (fun b1 b2 h1 h2 => by
      rw [take_snoc hx]
      exact (h1.mono fun p hp => List.mem_append_left _ hp).snoc (RdS.of (h2.1.1.1.mono fun p hp => List.mem_append_right _ hp) (h2.1.1.2.mono fun p hp => List.mem_append_right _ hp) (h2.1.2.mono fun p hp => List.mem_append_right _ hp) (h2.2.mono fun p hp => List.mem_append_right _ hp))) ?_
    refine run_take [0, 0] rfl ?_
    repeat' (first | refine zcp (by kernel_rfl) ?_ | (refine zap rfl ?_; first | refine zan rfl ?_ | refine zan rfl ?_ | refine zau rfl rfl (by omega) ?_) | refine zch ?_)
    refine cut_end ⟨rfl, (j + 1, a5, c5, cl ++ [psC x (.slice x1 x.expr.args.length y1) (.slice x2 x.expr.or.length y2) (.slice x3 x.body.length y3) (.slice x4 x.els.length y4)]), ⟨rfl, rfl, int_eq (by dsimp only; omega), trivial⟩, ⟨?_, by dsimp only; omega, by dsimp only; rw [List.length_append, g2]; rfl, fun c hc => ?_⟩, by dsimp only; omega⟩
    · dsimp only
      rw [List.flatMap_append]
      rfl
    · rcases List.mem_append.1 hc with hc | hc
      · exact g3 c hc
      · rw [List.mem_singleton.1 hc]; rfl
  · repeat (first | refine zck ?_ | refine zcl ?_ | refine zcm ?_ | refine zcn ?_)
    first | refine zcp (by kernel_rfl) ?_ | refine zcq PP_mixed (by kernel_rfl) (by kernel_rfl) ?_
    repeat' (refine zap rfl ?_; first | refine zan rfl ?_ | refine zce rfl ?_ | refine zbh rfl rfl (by omega) ?_)
    all_goals refine zch ?_
    all_goals repeat (first | refine zck ?_ | refine zcl ?_ | refine zcm ?_ | refine zcn ?_)
    refine zcj rfl ?_
    refine cut_exit rfl rfl ?_
    have hjl : j = l.length := by omega
    subst hjl
    refine run_slR (fun x : List Value => x) 1 (l := cl) rfl rfl g3 g2 rfl ?_
    refine run_joinR [0, 0] (χ := fun bl => RdSt w0 bl (.slice a l.length c) l) rfl (fun q1 q2 h1 h2 => ⟨cl, h2.mono fun p hp => List.mem_append_right _ hp, by
      rw [List.take_of_length_le (Nat.le_refl _)] at h1
      exact h1.mono fun p hp => List.mem_append_left _ hp⟩) ?_
    repeat' (first | refine zck ?_ | refine zcp (by kernel_rfl) ?_ | (refine zap rfl ?_; first | refine zan rfl ?_ | refine zan rfl ?_) | refine zch ?_)
    exact ret_tmp1 rfl ⟨_, _, rfl, rfl⟩
end Go.Proofs.YtagmagnkigjggaaGreatDoor

namespace Sim
theorem refEs_app (st : List (ByteArray × ByteArray)) (ml : List MR) : ∀ (l l' : List PE) (out : Ef), refEs st ml (l ++ l') out = if (refEs st ml l out).2 ≠ 0 then (zeroE, (refEs st ml l out).2) else refEs st ml l' (refEs st ml l out).1
  | [], l', out => by rw [List.nil_append, refEs]; simp
  | e :: l, l', out => by
    rw [List.cons_append, refEs, refEs]
    by_cases h : (refE st ml e).2 = 0
    · simp only [h, ne_eq, not_true_eq_false, if_false]
      exact refEs_app st ml l l' _
    · rw [if_pos h, if_pos h]
      simp [h]
theorem refE_app (st : List (ByteArray × ByteArray)) (ml : List MR) (e : PE) : refE st ml e =
    if (refEs st ml (e.args ++ e.or) zeroE).2 ≠ 0 then (zeroE, (refEs st ml (e.args ++ e.or) zeroE).2) else
    if e.kind = 7 then (joinE (refEs st ml (e.args ++ e.or) zeroE).1 ⟨[], [], [e.name], 0⟩, 0) else
    if e.kind ≠ 6 then ((refEs st ml (e.args ++ e.or) zeroE).1, 0) else refCall st ml e.name e.meth (refEs st ml (e.args ++ e.or) zeroE).1 := by
  obtain ⟨k, n, name, meth, xs, ys⟩ := e
  show refE st ml (.mk k n name meth xs ys) = _
  rw [refE_mk]
  show _ = if (refEs st ml (xs ++ ys) zeroE).2 ≠ 0 then (zeroE, (refEs st ml (xs ++ ys) zeroE).2) else
    if k = 7 then (joinE (refEs st ml (xs ++ ys) zeroE).1 ⟨[], [], [name], 0⟩, 0) else
    if k ≠ 6 then ((refEs st ml (xs ++ ys) zeroE).1, 0) else refCall st ml name meth (refEs st ml (xs ++ ys) zeroE).1
  rw [refEs_app]
  by_cases h : (refEs st ml xs zeroE).2 = 0
  · simp only [h, ne_eq, not_true_eq_false, if_false]
  · simp only [h, ne_eq, not_false_eq_true, if_true]
theorem refEs_drop {st : List (ByteArray × ByteArray)} {ml : List MR} {l : List PE} {j : Nat} {x : PE} {out : Ef} (h : l[j]? = some x) : refEs st ml (l.drop j) out = if (refE st ml x).2 ≠ 0 then (zeroE, (refE st ml x).2) else refEs st ml (l.drop (j + 1)) (joinE out (refE st ml x).1) := by
  have hj := (List.getElem?_eq_some_iff.1 h).1
  rw [List.drop_eq_getElem_cons hj, (List.getElem?_eq_some_iff.1 h).2, refEs]
theorem scanM_drop {k m : ByteArray} {l : List MR} {j : Nat} {x : MR} {known : Bool} (h : l[j]? = some x) : scanM k m (l.drop j) known = if x.1 ≠ k then scanM k m (l.drop (j + 1)) known else if x.2.1 = m then (some x.2.2, true) else scanM k m (l.drop (j + 1)) true := by
  have hj := (List.getElem?_eq_some_iff.1 h).1
  rw [List.drop_eq_getElem_cons hj, (List.getElem?_eq_some_iff.1 h).2, scanM]
end Sim

namespace Sim
def rightE (a : Ef) : Ef := ⟨normN a.reads, normN a.writes, normN a.hosts, bndC a.calls⟩
theorem rightE_sm {a : Ef} {n : Nat} (h : a.sm n) : (rightE a).sm n := ⟨Nat.le_trans (normN_len _) h.1, Nat.le_trans (normN_len _) h.2.1, Nat.le_trans (normN_len _) h.2.2⟩
theorem rightE_join (a : Ef) : rightE a = joinE a zeroE := by
  unfold rightE joinE zeroE
  simp only [normN_nil, sumC_zero]
end Sim
namespace Go.Proofs.YtagmagnkigjggaaGreatDoor
open Go.Vc Sim
theorem bound_spec (w0 : World) (x : Int) : FnE PP w0 [] 37 [.int .i64 x] [] (.int .i64 (bndC x)) [] := by
  refine fn_of_run en37 fn37 rfl rfl rfl ?_
  repeat' (first | refine zck ?_ | refine zcp (by kernel_rfl) ?_ | (refine zap rfl ?_; first | refine zan rfl ?_ | refine zan rfl ?_ | refine zcg rfl rfl ?_ | refine zcf rfl rfl ?_) | refine zch ?_)
  refine ret_tmp1 rfl ⟨int_eq ?_, rfl⟩
  unfold bndC mostC
  split <;> split <;> (try split) <;> omega
set_option maxHeartbeats 1000000 in
theorem right_spec (w0 : World) (sh : Shared) (va : Value) (a : Ef) (ha : RdEfV w0 sh va a) (sa : a.sm 100000) :
    Vc.Fn PP w0 sh 36 [va] [] (fun v Γ => ∃ r : P6, v = efV r (rightE a) ∧ Γ = [rdV w0 (efV r (rightE a)) (rightE a)]) := by
  obtain ⟨_, rfl, v1, v2, v3, rfl, h1, h2, h3⟩ := ha
  obtain ⟨s1, s2, s3⟩ := sa
  have k1 := names47_spec w0 sh v1 a.reads h1 s1
  have k2 := names47_spec w0 sh v2 a.writes h2 s2
  have k3 := names47_spec w0 sh v3 a.hosts h3 s3
  obtain ⟨a1, c1, rfl⟩ := h1.val
  obtain ⟨a2, c2, rfl⟩ := h2.val
  obtain ⟨a3, c3, rfl⟩ := h3.val
  refine fn_of_run en36 fn36 rfl rfl rfl ?_
  repeat (first | refine zck ?_ | refine zcl ?_ | refine zcm ?_ | refine zcn ?_)
  first | refine zcp (by kernel_rfl) ?_ | refine zcq PP_mixed (by kernel_rfl) (by kernel_rfl) ?_
  repeat' (refine zap rfl ?_; first | refine zaq (cs := [_, _, _, _]) rfl (fun nb => ?_) | refine zar (fun nb => ?_))
  all_goals refine zch ?_
  all_goals repeat (first | refine zck ?_ | refine zcl ?_ | refine zcm ?_ | refine zcn ?_)
  refine run_share [0] rfl ?_
  repeat' (first | refine zcq PP_mixed (by kernel_rfl) (by kernel_rfl) ?_ | (refine zap rfl ?_; first | refine zaa 0 rfl rfl rfl ?_ | refine zah [] (bound_spec w0 _) rfl rfl rfl sub_nil rfl ?_ | (refine zai [] k1 rfl rfl rfl (fun p hp => by simp [hp]) ?_; rintro v Γ ⟨x1, y1, rfl, rfl⟩) | (refine zai [] k2 rfl rfl rfl (fun p hp => by simp [hp]) ?_; rintro v Γ ⟨x2, y2, rfl, rfl⟩) | (refine zai [] k3 rfl rfl rfl (fun p hp => by simp [hp]) ?_; rintro v Γ ⟨x3, y3, rfl, rfl⟩) | refine zao rfl ?_ | refine zae 3 rfl rfl rfl rfl rfl rfl rfl ?_ | refine zcb rfl ?_) | refine zch ?_)
  refine run_joinR [2, 1] (χ := fun bl => RdSl w0 bl encY 1 (.slice x1 (normN a.reads).length y1) (normN a.reads) ∧ RdSl w0 bl encY 1 (.slice x2 (normN a.writes).length y2) (normN a.writes)) rfl
    (fun b1 b2 h1 h2 => ⟨h1.mono fun p hp => List.mem_append_left _ hp, h2.mono fun p hp => List.mem_append_right _ hp⟩) ?_
  refine run_joinR [0, 0] (χ := fun bl => RdEfV w0 bl (efV ((x1, y1), (x2, y2), (x3, y3)) (rightE a)) (rightE a)) rfl
    (fun b1 b2 h1 h2 => ⟨_, rfl, _, _, _, rfl, h1.1.mono fun p hp => List.mem_append_left _ hp, h1.2.mono fun p hp => List.mem_append_left _ hp, h2.mono fun p hp => List.mem_append_right _ hp⟩) ?_
  exact run_ret (leaves_nil (ends_take [0] rfl (ends_one rfl (resOk_pt 1 rfl rfl rfl) ⟨rfl, ((x1, y1), (x2, y2), (x3, y3)), rfl, rfl⟩)))
set_option maxHeartbeats 2000000 in
theorem rtimes_spec (w0 : World) (sh : Shared) (p : P6) (a : Ef) (n : Int) (ha : RdEfV w0 sh (efV p a) a) (sa : a.sm 30000) (hn : n ≤ 9223372036854775807) :
    Vc.Fn PP w0 sh 23 [efV p a, .int .i64 n] [] (fun v Γ => ∃ r : P6, v = efV r (timesE a n) ∧ Γ = [rdV w0 (efV r (timesE a n)) (timesE a n)]) := by
  have hj := right_spec w0 sh _ a ha (sa.mono (by omega))
  rw [rightE_join] at hj
  have hc : 0 ≤ (joinE a zeroE).calls ∧ (joinE a zeroE).calls ≤ 4611686018427387904 := sumC_range a.calls 0
  have ht : timesE a n = if n < 1 then zeroE else { joinE a zeroE with calls := if mostC / n < (joinE a zeroE).calls then mostC else (joinE a zeroE).calls * n } := rfl
  generalize hJ : joinE a zeroE = J at *
  refine fn_of_run en23 fn23 rfl rfl rfl ?_
  by_cases h1 : n < 1
  · rw [if_pos h1] at ht
    repeat' (first | refine zck ?_ | refine zcp (by kernel_rfl) ?_ | (refine zap rfl ?_; first | refine zan rfl ?_ | refine zbg rfl rfl (by omega) ?_ | refine zae 1 rfl rfl rfl rfl rfl rfl rfl ?_ | refine zaq (cs := [_, _, _, _]) rfl (fun nb => ?_) | refine zar (fun nb => ?_) | refine zcb rfl ?_) | refine zch ?_ | refine zci rfl ?_)
    refine run_emptyR (fun bl => RdEfV w0 bl (efV p0 zeroE) zeroE) RdEfV.zero ?_
    rw [ht]
    exact run_ret (leaves_nil (ends_take [0] rfl (ends_one rfl (resOk_pt 2 rfl rfl rfl) ⟨rfl, p0, rfl, rfl⟩)))
  · rw [if_neg h1] at ht
    obtain ⟨X, hX⟩ : ∃ X, (4611686018427387904 : Int) / n = X := ⟨_, rfl⟩
    have ht : timesE a n = { J with calls := if X < J.calls then 4611686018427387904 else J.calls * n } := by rw [ht, ← hX]
    have hd : X < J.calls ∨ (J.calls ≤ X ∧ J.calls * n ≤ 4611686018427387904 ∧ 0 ≤ J.calls * n) := by
      by_cases h : X < J.calls
      · exact .inl h
      · refine .inr ⟨by omega, ?_, Int.mul_nonneg hc.1 (by omega)⟩
        have h2 : J.calls * n ≤ X * n := Int.mul_le_mul_of_nonneg_right (by omega) (by omega)
        have h3 := Int.ediv_mul_le 4611686018427387904 (show n ≠ 0 by omega)
        rw [hX] at h3
        omega
    rcases hd with hd | ⟨hd, hm1, hm2⟩
    · rw [if_pos hd] at ht
      repeat' (first | refine zck ?_ | refine zcp (by kernel_rfl) ?_ | refine run_drawR PP_mixed (by kernel_rfl) (by kernel_rfl) ?_ | refine zcm ?_ | (refine zap rfl ?_; first | (refine zax rfl rfl (by omega) ?_; rw [hX]) | refine zan rfl ?_ | refine zab 0 rfl rfl rfl ?_ | refine zab 3 rfl rfl rfl ?_ | (refine zai [] hj rfl rfl rfl (fun _ h => h) ?_; rintro v Γ ⟨r, rfl, rfl⟩) | refine zao rfl ?_ | refine zbh rfl rfl (by omega) ?_ | refine zbk rfl rfl (by omega) ?_ | refine zae 2 rfl rfl rfl rfl rfl rfl rfl ?_ | refine zae 3 rfl rfl rfl rfl rfl rfl rfl ?_ | refine zaq (cs := [_, _, _, _]) rfl (fun nb => ?_) | refine zar (fun nb => ?_)) | refine zch ?_ | refine zci rfl ?_ | refine zcj rfl ?_)
      rw [ht]
      refine run_exch 0 (rdV w0 (efV r { J with calls := 4611686018427387904 }) { J with calls := 4611686018427387904 }) rfl (fun g hg => Rds.mono (fun bl h => RdEfV.calls h _) g hg) rfl ?_
      exact run_ret (leaves_nil (ends_take [0] rfl (ends_one rfl (resOk_pt 2 rfl rfl rfl) ⟨rfl, r, rfl, rfl⟩)))
    · rw [if_neg (by omega)] at ht
      have hb := bound_spec w0 (J.calls * n)
      rw [bndC_id hm2 hm1] at hb
      repeat' (first | refine zck ?_ | refine zcp (by kernel_rfl) ?_ | refine run_drawR PP_mixed (by kernel_rfl) (by kernel_rfl) ?_ | refine zcm ?_ | (refine zap rfl ?_; first | (refine zax rfl rfl (by omega) ?_; rw [hX]) | refine zan rfl ?_ | refine zab 0 rfl rfl rfl ?_ | refine zab 3 rfl rfl rfl ?_ | refine zah [] hb rfl rfl rfl sub_nil rfl ?_ | (refine zai [] hj rfl rfl rfl (fun _ h => h) ?_; rintro v Γ ⟨r, rfl, rfl⟩) | refine zao rfl ?_ | refine zbh rfl rfl (by omega) ?_ | refine zbl rfl rfl (by omega) ?_ | refine zaw rfl rfl (by omega) ?_ | refine zae 2 rfl rfl rfl rfl rfl rfl rfl ?_ | refine zae 3 rfl rfl rfl rfl rfl rfl rfl ?_ | refine zaq (cs := [_, _, _, _]) rfl (fun nb => ?_) | refine zar (fun nb => ?_)) | refine zch ?_ | refine zcj rfl ?_)
      rw [ht]
      refine run_exch 0 (rdV w0 (efV r { J with calls := J.calls * n }) { J with calls := J.calls * n }) rfl (fun g hg => Rds.mono (fun bl h => RdEfV.calls h _) g hg) rfl ?_
      exact run_ret (leaves_nil (ends_take [0] rfl (ends_one rfl (resOk_pt 2 rfl rfl rfl) ⟨rfl, r, rfl, rfl⟩)))
end Go.Proofs.YtagmagnkigjggaaGreatDoor

