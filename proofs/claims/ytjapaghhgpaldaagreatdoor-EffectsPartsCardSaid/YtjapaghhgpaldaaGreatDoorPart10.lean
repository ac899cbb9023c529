import Derived.Test.YtjapaghhgpaldaaGreatDoorPart9
import Derived.Test.YtjapaghhgpaldaaGreatDoorPart7
/- Lemmas and walks for the claims of this seat (own work): Pp2. -/
namespace Sim
theorem withinS_sub {a b : List ByteArray} (h : ∀ x ∈ a, x ∈ b) : withinS a b = true := by
  unfold withinS
  rw [List.all_eq_true]
  intro x hx
  unfold inS
  rw [List.any_eq_true]
  exact ⟨x, h x hx, by simp⟩
end Sim
namespace Go.Vc
open Sim
theorem flat_len3 : ∀ {cl : List (List Value)}, (∀ c ∈ cl, c.length = 3) → (cl.flatMap fun x => x).length = cl.length * 3
  | [], _ => rfl
  | c :: cl, h => by
    rw [List.flatMap_cons, List.length_append, flat_len3 (fun x hx => h x (.tail _ hx)), h c (.head _), List.length_cons]; omega
theorem flat_at3 : ∀ {cl : List (List Value)} {j k : Nat} {c : List Value} {u : Value}, (∀ c ∈ cl, c.length = 3) → cl[j]? = some c → c[k]? = some u → k < 3 → (cl.flatMap fun x => x)[j * 3 + k]? = some u
  | [], j, k, c, u, _, h, _, _ => by simp at h
  | x :: cl, 0, k, c, u, h3, h, hu, hk => by
    simp at h; subst h
    rw [List.flatMap_cons, List.getElem?_append_left (by rw [h3 _ (.head _)]; omega), Nat.zero_mul, Nat.zero_add]; exact hu
  | x :: cl, j + 1, k, c, u, h3, h, hu, hk => by
    rw [List.flatMap_cons, List.getElem?_append_right (by rw [h3 _ (.head _)]; omega), h3 _ (.head _), show (j + 1) * 3 + k - 3 = j * 3 + k by omega]
    exact flat_at3 (fun c hc => h3 c (.tail _ hc)) (by simpa using h) hu hk
theorem flat_set3 : ∀ {cl : List (List Value)} {j : Nat} {a b u : Value} (v : Value), (∀ c ∈ cl, c.length = 3) → cl[j]? = some [a, b, u] → (cl.flatMap fun x => x).set (j * 3 + 2) v = (cl.set j [a, b, v]).flatMap fun x => x
  | [], j, a, b, u, v, _, h => by simp at h
  | x :: cl, 0, a, b, u, v, h3, h => by
    simp at h; subst h; rfl
  | x :: cl, j + 1, a, b, u, v, h3, h => by
    rw [List.flatMap_cons, List.set_append_right _ _ (by rw [h3 _ (.head _)]; omega), h3 _ (.head _), show (j + 1) * 3 + 2 - 3 = j * 3 + 2 by omega, List.set_cons_succ, List.flatMap_cons,
      flat_set3 v (fun c hc => h3 c (.tail _ hc)) (by simpa using h)]
theorem flat_rd3 {cl : List (List Value)} {j k : Nat} {c : List Value} {u : Value} (h3 : ∀ c ∈ cl, c.length = 3) (h : cl[j]? = some c) (hu : c[k]? = some u) (hk : k < 3) (q : Nat) (hq : q = 0 + j * 3 + k) : rd false 1 (cl.flatMap fun x => x) q = some u := by
  subst hq
  rw [Nat.zero_add]
  show nth _ _ = _
  rw [nth_eq]
  exact flat_at3 h3 h hu hk
theorem flat_wr3 {cl : List (List Value)} {j : Nat} {a b u : Value} (v : Value) (h3 : ∀ c ∈ cl, c.length = 3) (h : cl[j]? = some [a, b, u]) (q : Nat) (hq : q = 0 + j * 3 + 2) : wr [v] q (cl.flatMap fun x => x) = some ((cl.set j [a, b, v]).flatMap fun x => x) := by
  have hj := (List.getElem?_eq_some_iff.1 h).1
  subst hq
  rw [Nat.zero_add, wr_one_at _ _ _ (by rw [flat_len3 h3]; omega), flat_set3 v h3 h]
theorem RdOs.put {w0 : World} {sh : Shared} : ∀ {l : List PO} {cl : List (List Value)} {j : Nat} {o : PO} {c : List Value}, RdOs w0 sh l cl → j < l.length → RdO w0 sh o c → RdOs w0 sh (l.set j o) (cl.set j c)
  | [], _, j, o, c, _, hj, _ => by simp at hj
  | x :: l, _, 0, o, c, h, _, ho => by
    obtain ⟨c', cl', rfl, h2, h3⟩ := h
    exact ⟨c, cl', rfl, ho, h3⟩
  | x :: l, _, j + 1, o, c, h, hj, ho => by
    obtain ⟨c', cl', rfl, h2, h3⟩ := h
    exact ⟨c', _, rfl, h2, RdOs.put h3 (by simpa using hj) ho⟩
theorem RdSs.take {w0 : World} {sh : Shared} : ∀ {l : List PS} {cl : List (List Value)} (k : Nat), RdSs w0 sh l cl → RdSs w0 sh (l.take k) (cl.take k)
  | l, cl, 0, _ => by rw [List.take_zero, List.take_zero]; unfold RdSs; rfl
  | [], _, k + 1, h => by unfold RdSs at h; rw [h]; unfold RdSs; rfl
  | e :: l, _, k + 1, h => by
    unfold RdSs at h
    obtain ⟨c, cl', rfl, h3, h4⟩ := h
    rw [List.take_succ_cons, List.take_succ_cons]
    unfold RdSs
    exact ⟨c, _, rfl, h3, RdSs.take k h4⟩
theorem RdSt.head {w0 : World} {sh : Shared} {a : Option Addr} {cap k : Nat} {l : List PS} (h : RdSt w0 sh (.slice a l.length cap) l) (hk : k ≤ l.length) : RdSt w0 sh (.slice a k cap) (l.take k) := by
  obtain ⟨cl, h1, h2⟩ := h
  rw [← h2.len] at h1 hk
  exact ⟨_, RdSl.head h1 hk, h2.take k⟩
theorem set_eq3 {α : Type} : ∀ {l : List α} {j : Nat} {x : α}, l[j]? = some x → l.set j x = l
  | [], _, _, h => rfl
  | y :: l, 0, x, h => by simp at h; subst h; rfl
  | y :: l, j + 1, x, h => by rw [List.set_cons_succ, set_eq3 (by simpa using h)]
end Go.Vc
namespace Sim
theorem cut_next {name : ByteArray} {c j : Nat} {l : List PO} {o : PO} (h : l[j]? = some o) : ((l.take j).map (cutO name c) ++ l.drop j).set j (cutO name c o) = (l.take (j + 1)).map (cutO name c) ++ l.drop (j + 1) := by
  have hj := (List.getElem?_eq_some_iff.1 h).1
  have hl : ((l.take j).map (cutO name c)).length = j := by rw [List.length_map, List.length_take]; omega
  rw [List.set_append_right _ _ (by omega), hl, Nat.sub_self, List.drop_eq_getElem_cons hj, (List.getElem?_eq_some_iff.1 h).2, List.set_cons_zero, take_snoc h, List.map_append, List.map_cons, List.map_nil, List.append_assoc]
  rfl
theorem cut_here {name : ByteArray} {c j : Nat} {l : List PO} {o : PO} (h : l[j]? = some o) : ((l.take j).map (cutO name c) ++ l.drop j)[j]? = some o := by
  have hj := (List.getElem?_eq_some_iff.1 h).1
  have hl : ((l.take j).map (cutO name c)).length = j := by rw [List.length_map, List.length_take]; omega
  rw [List.getElem?_append_right (by omega), hl, Nat.sub_self, List.getElem?_drop]; exact h
end Sim
namespace Go.Proofs.YtjapaghhgpaldaaGreatDoor
open Go.Vc Sim
theorem meetS_sub {a b : List ByteArray} (h : ∀ x ∈ a, x ∈ b) (ha : a ≠ []) : meetS a b = true := by
  cases a with
  | nil => exact absurd rfl ha
  | cons x a =>
    unfold meetS inS
    rw [List.any_eq_true]
    exact ⟨x, .head _, by rw [List.any_eq_true]; exact ⟨x, h x (.head _), by simp⟩⟩
theorem sizeL_take (l : List PS) (n : Nat) : PS.sizeL (l.take n) ≤ PS.sizeL l := by
  have h := sizeL_app (l.take n) (l.drop n)
  rw [List.take_append_drop] at h
  omega
theorem cutO_size (name : ByteArray) (c : Nat) (o : PO) : PS.sizeL (cutO name c o).body ≤ PS.sizeL o.body ∧ (cutO name c o).params = o.params := by
  unfold cutO
  split
  · exact ⟨sizeL_take _ _, rfl⟩
  · exact ⟨Nat.le_refl _, rfl⟩
theorem small_cut {p : PP'} (name : ByteArray) (c : Nat) (h : PP'.small p) (hb : ∀ o ∈ p.opers, PS.sizeL o.body ≤ 400) : PP'.small ⟨p.stores, p.opers.map (cutO name c)⟩ ∧ ∀ o ∈ p.opers.map (cutO name c), PS.sizeL o.body ≤ 10000 := by
  refine ⟨⟨h.1, by rw [List.length_map]; exact h.2.1, fun o ho => ?_⟩, fun o ho => ?_⟩
  all_goals
    obtain ⟨x, hx, rfl⟩ := List.mem_map.1 ho
    obtain ⟨h1, h2⟩ := cutO_size name c x
    have := hb x hx
  · rw [h2]; exact ⟨by omega, (h.2.2 x hx).2⟩
  · omega
theorem ofP_sm {p : PP'} {n : ByteArray} {m : Nat} (h : ∀ o ∈ p.opers, PS.sizeL o.body ≤ m) : (ofP p n).1.sm m := by
  unfold ofP
  split
  · exact zeroE_sm m
  · split
    · exact zeroE_sm m
    · rename_i o hq
      have ho := h o (List.mem_of_find?_eq_some hq)
      split
      · exact zeroE_sm m
      · exact (stmtEs_sm p.stores o.body zeroE 0 0 (zeroE_sm 0)).mono (by omega)
theorem ofP_ne {p : PP'} {n : ByteArray} (h : (ofP p n).2 = 0) : 0 < p.opers.length := by
  cases hq : p.opers with
  | cons o l => rw [List.length_cons]; omega
  | nil =>
    exfalso
    unfold ofP findP at h
    rw [hq] at h
    by_cases h1 : checkP p = 0
    · rw [if_neg (by omega)] at h
      exact absurd (show (10 : Int) = 0 from h) (by decide)
    · rw [if_pos h1] at h; exact absurd h h1
set_option maxHeartbeats 8000000 in
theorem parts_spec (w0 : World) (hk : KwOk w0) (v : Value) (p : PP') (oper : ByteArray) (c8 : Nat) (hp : RdP w0 [] v p) (hz : p.sz) (hc8 : c8 ≤ 255) :
    FnE PP w0 [] 3 [v, .string oper, .int .u8 (c8 : Int)] [] (.bool true) [] := by
  have haw := awake_spec w0 hk
  have hgr := greatP_spec w0 [] v p hp hz
  have hp0 := hp
  obtain ⟨vs, vo, rfl, h1, h2⟩ := hp
  obtain ⟨a1, c1, hvs, hc1, _⟩ := id h1
  obtain ⟨a2, c2, hvo, hc2⟩ := h2.len
  subst hvs; subst hvo
  have hlen := hz.2.2.1
  refine fn_of_run en3 fn3 rfl rfl rfl ?_
  repeat (first | refine zck ?_ | refine zcl ?_ | refine zcm ?_ | refine zcn ?_)
  first | refine zcp (by kernel_rfl) ?_ | refine zcq PP_mixed (by kernel_rfl) (by kernel_rfl) ?_
  repeat' (refine zap rfl ?_; first | refine zaj rfl ?_ | refine zak rfl ?_ | refine zal rfl ?_ | refine zam rfl rfl (fun _ => ?_) (fun _ => ?_) | refine zan rfl ?_ | refine zan rfl ?_ | refine zaa 0 rfl rfl rfl ?_ | refine zaa 1 rfl rfl rfl ?_ | refine zaa 2 rfl rfl rfl ?_ | refine zaa 3 rfl rfl rfl ?_ | refine zaa 4 rfl rfl rfl ?_ | refine zaa 5 rfl rfl rfl ?_ | refine zab 0 rfl rfl rfl ?_ | refine zab 1 rfl rfl rfl ?_ | refine zab 2 rfl rfl rfl ?_ | refine zab 3 rfl rfl rfl ?_ | refine zab 4 rfl rfl rfl ?_ | refine zab 5 rfl rfl rfl ?_ | refine zce rfl ?_ | refine zao rfl ?_ | refine zan rfl ?_ | refine reg_addZ rfl rfl (by omega) ?_ | refine zau rfl rfl (by omega) ?_ | refine zbo rfl rfl ?_ | refine zbp rfl rfl ?_ | refine zbq rfl rfl ?_ | refine zbr rfl rfl ?_ | refine zbs rfl rfl ?_ | refine zay rfl rfl (by omega) ?_ | refine zaz rfl rfl ?_ | refine zbb rfl rfl ?_ | refine zba rfl rfl ?_ | refine zby rfl ?_ | refine zbx rfl ?_ | refine zbu rfl ?_ | refine zbv rfl ?_ | refine zbw rfl rfl rfl ?_ | refine zae 0 rfl rfl rfl rfl rfl rfl rfl ?_ | refine zae 1 rfl rfl rfl rfl rfl rfl rfl ?_ | refine zae 2 rfl rfl rfl rfl rfl rfl rfl ?_ | refine zae 3 rfl rfl rfl rfl rfl rfl rfl ?_ | refine zae 4 rfl rfl rfl rfl rfl rfl rfl ?_ | refine zae 5 rfl rfl rfl rfl rfl rfl rfl ?_ | refine zas rfl rfl (by omega) ?_ | refine zat rfl rfl (by omega) ?_ | refine zaq (cs := [_, _]) rfl (fun nb => ?_) | refine zar (fun nb => ?_) | refine zbz rfl (by omega) ?_ | refine zca rfl ?_)
  all_goals refine zch ?_
  all_goals repeat (first | refine zck ?_ | refine zcl ?_ | refine zcm ?_ | refine zcn ?_)
  refine run_share [0] rfl ?_
  by_cases hn : 300 < oper.size
  · repeat (first | refine zck ?_ | refine zcl ?_ | refine zcm ?_ | refine zcn ?_)
    first | refine zcp (by kernel_rfl) ?_ | refine zcq PP_mixed (by kernel_rfl) (by kernel_rfl) ?_
    repeat' (refine zap rfl ?_; first | refine zaa 0 rfl rfl rfl ?_ | refine zaj rfl ?_ | refine zak rfl ?_ | refine zal rfl ?_ | refine zam rfl rfl (fun _ => ?_) (fun _ => ?_) | refine zan rfl ?_ | refine zan rfl ?_ | refine zaa 0 rfl rfl rfl ?_ | refine zaa 1 rfl rfl rfl ?_ | refine zaa 2 rfl rfl rfl ?_ | refine zaa 3 rfl rfl rfl ?_ | refine zaa 4 rfl rfl rfl ?_ | refine zaa 5 rfl rfl rfl ?_ | refine zab 0 rfl rfl rfl ?_ | refine zab 1 rfl rfl rfl ?_ | refine zab 2 rfl rfl rfl ?_ | refine zab 3 rfl rfl rfl ?_ | refine zab 4 rfl rfl rfl ?_ | refine zab 5 rfl rfl rfl ?_ | (refine zai [] hgr rfl rfl rfl sub_nil ?_; rintro v Γ ⟨rfl, B, rfl, hB⟩; cases B) | refine zce rfl ?_ | refine reg_lenS rfl ?_ | refine zce rfl ?_ | refine zao rfl ?_ | refine zan rfl ?_ | refine zbc rfl rfl (by omega) ?_ | refine zbd rfl rfl (by omega) ?_ | refine zbe rfl rfl (by omega) ?_ | refine zbf rfl rfl (by omega) ?_ | refine zbg rfl rfl (by omega) ?_ | refine zbh rfl rfl (by omega) ?_ | refine zbi rfl rfl (by omega) ?_ | refine zbj rfl rfl (by omega) ?_ | refine zbk rfl rfl (by omega) ?_ | refine zbl rfl rfl (by omega) ?_ | refine reg_addZ rfl rfl (by omega) ?_ | refine zau rfl rfl (by omega) ?_ | refine zbo rfl rfl ?_ | refine zbp rfl rfl ?_ | refine zbq rfl rfl ?_ | refine zbr rfl rfl ?_ | refine zbs rfl rfl ?_ | refine zay rfl rfl (by omega) ?_ | refine zaz rfl rfl ?_ | refine zbb rfl rfl ?_ | refine zba rfl rfl ?_ | refine zby rfl ?_ | refine zbx rfl ?_ | refine zbu rfl ?_ | refine zbv rfl ?_ | refine zbw rfl rfl rfl ?_ | refine zae 0 rfl rfl rfl rfl rfl rfl rfl ?_ | refine zae 1 rfl rfl rfl rfl rfl rfl rfl ?_ | refine zae 2 rfl rfl rfl rfl rfl rfl rfl ?_ | refine zae 3 rfl rfl rfl rfl rfl rfl rfl ?_ | refine zae 4 rfl rfl rfl rfl rfl rfl rfl ?_ | refine zae 5 rfl rfl rfl rfl rfl rfl rfl ?_ | refine zas rfl rfl (by omega) ?_ | refine zat rfl rfl (by omega) ?_ | refine zaq (cs := [_, _]) rfl (fun nb => ?_) | refine zar (fun nb => ?_) | refine zbz rfl (by omega) ?_ | refine zca rfl ?_)
    all_goals refine zch ?_
    all_goals repeat (first | refine zck ?_ | refine zcl ?_ | refine zcm ?_ | refine zcn ?_)
    all_goals
      repeat' (first | refine zck ?_ | refine zcp (by kernel_rfl) ?_ | refine zcq PP_mixed (by kernel_rfl) (by kernel_rfl) ?_ | refine zcm ?_ | refine zcl ?_ | refine zcn ?_ | refine zco ?_ | refine zcs rfl ?_ | (refine zap rfl ?_; first | refine zaj rfl ?_ | refine zak rfl ?_ | refine zal rfl ?_ | refine zam rfl rfl (fun _ => ?_) (fun _ => ?_) | refine zan rfl ?_ | refine zan rfl ?_ | refine zaa 0 rfl rfl rfl ?_ | refine zaa 1 rfl rfl rfl ?_ | refine zaa 2 rfl rfl rfl ?_ | refine zaa 3 rfl rfl rfl ?_ | refine zaa 4 rfl rfl rfl ?_ | refine zaa 5 rfl rfl rfl ?_ | refine zab 0 rfl rfl rfl ?_ | refine zab 1 rfl rfl rfl ?_ | refine zab 2 rfl rfl rfl ?_ | refine zab 3 rfl rfl rfl ?_ | refine zab 4 rfl rfl rfl ?_ | refine zab 5 rfl rfl rfl ?_ | refine zah [] haw rfl rfl rfl sub_nil rfl ?_ | refine zce rfl ?_ | refine zao rfl ?_ | refine zan rfl ?_ | refine zbc rfl rfl (by omega) ?_ | refine zbd rfl rfl (by omega) ?_ | refine zbe rfl rfl (by omega) ?_ | refine zbf rfl rfl (by omega) ?_ | refine zbg rfl rfl (by omega) ?_ | refine zbh rfl rfl (by omega) ?_ | refine zbi rfl rfl (by omega) ?_ | refine zbj rfl rfl (by omega) ?_ | refine zbk rfl rfl (by omega) ?_ | refine zbl rfl rfl (by omega) ?_ | refine reg_addZ rfl rfl (by omega) ?_ | refine zau rfl rfl (by omega) ?_ | refine zbo rfl rfl ?_ | refine zbp rfl rfl ?_ | refine zbq rfl rfl ?_ | refine zbr rfl rfl ?_ | refine zbs rfl rfl ?_ | refine zay rfl rfl (by omega) ?_ | refine zaz rfl rfl ?_ | refine zbb rfl rfl ?_ | refine zba rfl rfl ?_ | refine zby rfl ?_ | refine zbx rfl ?_ | refine zbu rfl ?_ | refine zbv rfl ?_ | refine zbw rfl rfl rfl ?_ | refine zae 0 rfl rfl rfl rfl rfl rfl rfl ?_ | refine zae 1 rfl rfl rfl rfl rfl rfl rfl ?_ | refine zae 2 rfl rfl rfl rfl rfl rfl rfl ?_ | refine zae 3 rfl rfl rfl rfl rfl rfl rfl ?_ | refine zae 4 rfl rfl rfl rfl rfl rfl rfl ?_ | refine zae 5 rfl rfl rfl rfl rfl rfl rfl ?_ | refine zas rfl rfl (by omega) ?_ | refine zat rfl rfl (by omega) ?_ | refine zaq (cs := [_, _]) rfl (fun nb => ?_) | refine zar (fun nb => ?_) | refine zbz rfl (by omega) ?_ | refine zca rfl ?_) | refine zch ?_ | refine zci rfl ?_ | refine zcj rfl ?_)
      exact ret_tmp1 rfl ⟨rfl, rfl⟩
  · repeat (first | refine zck ?_ | refine zcl ?_ | refine zcm ?_ | refine zcn ?_)
    first | refine zcp (by kernel_rfl) ?_ | refine zcq PP_mixed (by kernel_rfl) (by kernel_rfl) ?_
    repeat' (refine zap rfl ?_; first | refine zaa 0 rfl rfl rfl ?_ | refine zaj rfl ?_ | refine zak rfl ?_ | refine zal rfl ?_ | refine zam rfl rfl (fun _ => ?_) (fun _ => ?_) | refine zan rfl ?_ | refine zan rfl ?_ | refine zaa 0 rfl rfl rfl ?_ | refine zaa 1 rfl rfl rfl ?_ | refine zaa 2 rfl rfl rfl ?_ | refine zaa 3 rfl rfl rfl ?_ | refine zaa 4 rfl rfl rfl ?_ | refine zaa 5 rfl rfl rfl ?_ | refine zab 0 rfl rfl rfl ?_ | refine zab 1 rfl rfl rfl ?_ | refine zab 2 rfl rfl rfl ?_ | refine zab 3 rfl rfl rfl ?_ | refine zab 4 rfl rfl rfl ?_ | refine zab 5 rfl rfl rfl ?_ | (refine zai [] hgr rfl rfl rfl sub_nil ?_; rintro v Γ ⟨rfl, B, rfl, hB⟩; cases B) | refine zce rfl ?_ | refine reg_lenS rfl ?_ | refine zce rfl ?_ | refine zao rfl ?_ | refine zan rfl ?_ | refine zbc rfl rfl (by omega) ?_ | refine zbd rfl rfl (by omega) ?_ | refine zbe rfl rfl (by omega) ?_ | refine zbf rfl rfl (by omega) ?_ | refine zbg rfl rfl (by omega) ?_ | refine zbh rfl rfl (by omega) ?_ | refine zbi rfl rfl (by omega) ?_ | refine zbj rfl rfl (by omega) ?_ | refine zbk rfl rfl (by omega) ?_ | refine zbl rfl rfl (by omega) ?_ | refine reg_addZ rfl rfl (by omega) ?_ | refine zau rfl rfl (by omega) ?_ | refine zbo rfl rfl ?_ | refine zbp rfl rfl ?_ | refine zbq rfl rfl ?_ | refine zbr rfl rfl ?_ | refine zbs rfl rfl ?_ | refine zay rfl rfl (by omega) ?_ | refine zaz rfl rfl ?_ | refine zbb rfl rfl ?_ | refine zba rfl rfl ?_ | refine zby rfl ?_ | refine zbx rfl ?_ | refine zbu rfl ?_ | refine zbv rfl ?_ | refine zbw rfl rfl rfl ?_ | refine zae 0 rfl rfl rfl rfl rfl rfl rfl ?_ | refine zae 1 rfl rfl rfl rfl rfl rfl rfl ?_ | refine zae 2 rfl rfl rfl rfl rfl rfl rfl ?_ | refine zae 3 rfl rfl rfl rfl rfl rfl rfl ?_ | refine zae 4 rfl rfl rfl rfl rfl rfl rfl ?_ | refine zae 5 rfl rfl rfl rfl rfl rfl rfl ?_ | refine zas rfl rfl (by omega) ?_ | refine zat rfl rfl (by omega) ?_ | refine zaq (cs := [_, _]) rfl (fun nb => ?_) | refine zar (fun nb => ?_) | refine zbz rfl (by omega) ?_ | refine zca rfl ?_)
    all_goals refine zch ?_
    all_goals repeat (first | refine zck ?_ | refine zcl ?_ | refine zcm ?_ | refine zcn ?_)
    · refine zcj rfl ?_
      have hcost := hB rfl
      obtain ⟨sm1, sm2⟩ := small_of hcost
      have hof := of_spec w0 hk [] _ p oper hp0 sm1 (fun x hx => Nat.le_trans (sm2 x hx) (by omega))
      obtain ⟨cl, hcl, hos⟩ := id h2
      have hcn := hos.len
      obtain ⟨hone, h3l⟩ := hos.flat
      have n400 : p.opers.length ≤ 400 := by have := PO.costL_len p.opers; omega
      obtain ⟨⟨e, w⟩, hE⟩ : ∃ E, ofP p oper = E := ⟨_, rfl⟩
      rw [hE] at hof
      unfold OSpec at hof
      dsimp only at hof
      repeat (first | refine zck ?_ | refine zcl ?_ | refine zcm ?_ | refine zcn ?_)
      first | refine zcp (by kernel_rfl) ?_ | refine zcq PP_mixed (by kernel_rfl) (by kernel_rfl) ?_
      repeat' (refine zap rfl ?_; first | refine zaa 0 rfl rfl rfl ?_ | refine zar (fun t7 => ?_) | refine zaj rfl ?_ | refine zak rfl ?_ | refine zal rfl ?_ | refine zam rfl rfl (fun _ => ?_) (fun _ => ?_) | refine zan rfl ?_ | refine zan rfl ?_ | refine zaa 0 rfl rfl rfl ?_ | refine zaa 1 rfl rfl rfl ?_ | refine zaa 2 rfl rfl rfl ?_ | refine zaa 3 rfl rfl rfl ?_ | refine zaa 4 rfl rfl rfl ?_ | refine zaa 5 rfl rfl rfl ?_ | refine zab 0 rfl rfl rfl ?_ | refine zab 1 rfl rfl rfl ?_ | refine zab 2 rfl rfl rfl ?_ | refine zab 3 rfl rfl rfl ?_ | refine zab 4 rfl rfl rfl ?_ | refine zab 5 rfl rfl rfl ?_ | (refine zai [] hof rfl rfl rfl sub_nil ?_; rintro v Γ ⟨q, rfl, rfl⟩) | refine zce rfl ?_ | refine zao rfl ?_ | refine zan rfl ?_ | refine zbc rfl rfl (by omega) ?_ | refine zbd rfl rfl (by omega) ?_ | refine zbe rfl rfl (by omega) ?_ | refine zbf rfl rfl (by omega) ?_ | refine zbg rfl rfl (by omega) ?_ | refine zbh rfl rfl (by omega) ?_ | refine zbi rfl rfl (by omega) ?_ | refine zbj rfl rfl (by omega) ?_ | refine zbk rfl rfl (by omega) ?_ | refine zbl rfl rfl (by omega) ?_ | refine reg_addZ rfl rfl (by omega) ?_ | refine zau rfl rfl (by omega) ?_ | refine zbo rfl rfl ?_ | refine zbp rfl rfl ?_ | refine zbq rfl rfl ?_ | refine zbr rfl rfl ?_ | refine zbs rfl rfl ?_ | refine zay rfl rfl (by omega) ?_ | refine zaz rfl rfl ?_ | refine zbb rfl rfl ?_ | refine zba rfl rfl ?_ | refine zby rfl ?_ | refine zbx rfl ?_ | refine zbu rfl ?_ | refine zbv rfl ?_ | refine zbw rfl rfl rfl ?_ | refine zae 0 rfl rfl rfl rfl rfl rfl rfl ?_ | refine zae 1 rfl rfl rfl rfl rfl rfl rfl ?_ | refine zae 2 rfl rfl rfl rfl rfl rfl rfl ?_ | refine zae 3 rfl rfl rfl rfl rfl rfl rfl ?_ | refine zae 4 rfl rfl rfl rfl rfl rfl rfl ?_ | refine zae 5 rfl rfl rfl rfl rfl rfl rfl ?_ | refine zas rfl rfl (by omega) ?_ | refine zat rfl rfl (by omega) ?_ | refine zaq (cs := [_, _]) rfl (fun nb => ?_) | refine zar (fun nb => ?_) | refine zbz rfl (by omega) ?_ | refine zca rfl ?_)
      all_goals refine zch ?_
      all_goals repeat (first | refine zck ?_ | refine zcl ?_ | refine zcm ?_ | refine zcn ?_)
      by_cases hf : w = 0
      · subst hf
        have hw0 : (ofP p oper).2 = 0 := by rw [hE]
        obtain ⟨hok, hnm, hq0, hle⟩ := ofP_cut c8 hw0
        rw [hE] at hok hle
        refine run_share [1] rfl ?_
        refine run_shareB [0] rfl (fun bl hbl => ?_)
        dsimp only at hok hle hbl
        have n0 := ofP_ne hw0
        have he : e.sm 400 := by have h := ofP_sm (n := oper) sm2; rw [hE] at h; exact h
        obtain ⟨he1, he2, he3⟩ := id he
        obtain ⟨b1, b2, b3⟩ := hbl.parts
        obtain ⟨k1, k2, k3⟩ := hok
        have kM := meet_spec w0 bl _ _ _ _ b2 b1 (by omega) (by omega)
        have kW := within_spec w0 bl _ _ _ _ b2 b1 (by omega) (by omega)
        rw [withinS_sub k1] at kW
        have hcp : 0 < e.reads.length → 1 ≤ e.calls := fun h => k3 (fun hq => by rw [hq] at h; exact absurd h (by decide))
        obtain ⟨BM, hBM, hBM2⟩ : ∃ B, meetS e.writes e.reads = B ∧ (B = true ∧ 0 < e.writes.length ∨ B = false ∧ e.writes.length = 0) := by
          cases hq : e.writes with
          | nil => exact ⟨_, rfl, .inr ⟨rfl, rfl⟩⟩
          | cons x l => exact ⟨_, rfl, .inl ⟨by rw [← hq]; exact meetS_sub k1 (by rw [hq]; exact List.cons_ne_nil _ _), by rw [List.length_cons]; omega⟩⟩
        rw [hBM] at kM
        repeat (first | refine zck ?_ | refine zcl ?_ | refine zcm ?_ | refine zcn ?_)
        first | refine zcp (by kernel_rfl) ?_ | refine zcq PP_mixed (by kernel_rfl) (by kernel_rfl) ?_
        repeat' (refine zap rfl ?_; first | refine zaj rfl ?_ | refine zak rfl ?_ | refine zal rfl ?_ | refine zam rfl rfl (fun _ => ?_) (fun _ => ?_) | refine zan rfl ?_ | refine zan rfl ?_ | refine zaa 0 rfl rfl rfl ?_ | refine zaa 1 rfl rfl rfl ?_ | refine zaa 2 rfl rfl rfl ?_ | refine zaa 3 rfl rfl rfl ?_ | refine zaa 4 rfl rfl rfl ?_ | refine zaa 5 rfl rfl rfl ?_ | refine zab 0 rfl rfl rfl ?_ | refine zab 1 rfl rfl rfl ?_ | refine zab 2 rfl rfl rfl ?_ | refine zab 3 rfl rfl rfl ?_ | refine zab 4 rfl rfl rfl ?_ | refine zab 5 rfl rfl rfl ?_ | refine zce rfl ?_ | refine zao rfl ?_ | refine zan rfl ?_ | refine zbc rfl rfl (by omega) ?_ | refine zbd rfl rfl (by omega) ?_ | refine zbe rfl rfl (by omega) ?_ | refine zbf rfl rfl (by omega) ?_ | refine zbg rfl rfl (by omega) ?_ | refine zbh rfl rfl (by omega) ?_ | refine zbi rfl rfl (by omega) ?_ | refine zbj rfl rfl (by omega) ?_ | refine zbk rfl rfl (by omega) ?_ | refine zbl rfl rfl (by omega) ?_ | refine reg_addZ rfl rfl (by omega) ?_ | refine zau rfl rfl (by omega) ?_ | refine zbo rfl rfl ?_ | refine zbp rfl rfl ?_ | refine zbq rfl rfl ?_ | refine zbr rfl rfl ?_ | refine zbs rfl rfl ?_ | refine zay rfl rfl (by omega) ?_ | refine zaz rfl rfl ?_ | refine zbb rfl rfl ?_ | refine zba rfl rfl ?_ | refine zby rfl ?_ | refine zbx rfl ?_ | refine zbu rfl ?_ | refine zbv rfl ?_ | refine zbw rfl rfl rfl ?_ | refine zae 0 rfl rfl rfl rfl rfl rfl rfl ?_ | refine zae 1 rfl rfl rfl rfl rfl rfl rfl ?_ | refine zae 2 rfl rfl rfl rfl rfl rfl rfl ?_ | refine zae 3 rfl rfl rfl rfl rfl rfl rfl ?_ | refine zae 4 rfl rfl rfl rfl rfl rfl rfl ?_ | refine zae 5 rfl rfl rfl rfl rfl rfl rfl ?_ | refine zas rfl rfl (by omega) ?_ | refine zat rfl rfl (by omega) ?_ | refine zaq (cs := [_, _]) rfl (fun nb => ?_) | refine zar (fun nb => ?_) | refine zbz rfl (by omega) ?_ | refine zca rfl ?_)
        all_goals refine zch ?_
        all_goals repeat (first | refine zck ?_ | refine zcl ?_ | refine zcm ?_ | refine zcn ?_)
        refine zcj rfl ?_
        repeat (first | refine zck ?_ | refine zcm ?_)
        refine run_join (S := Unit) (fun _ => [(1, .string oper), (2, .int .u8 (c8 : Int)), (3, .pointer (some ⟨nb, 0, none⟩)), (7, .pointer (some ⟨t7, 0, none⟩)), (66, .bool false)]) (fun _ Γ => Γ = []) ?_ ?_
        · rcases hBM2 with ⟨rfl, hwl⟩ | ⟨rfl, hwl⟩
          all_goals by_cases hrl : 0 < e.reads.length
          all_goals
            repeat (first | refine zck ?_ | refine zcl ?_ | refine zcm ?_ | refine zcn ?_)
            first | refine zcp (by kernel_rfl) ?_ | refine zcq PP_mixed (by kernel_rfl) (by kernel_rfl) ?_
            repeat' (refine zap rfl ?_; first | refine zaa 0 rfl rfl rfl ?_ | refine zaa 1 rfl rfl rfl ?_ | refine zaa 2 rfl rfl rfl ?_ | refine zaa 3 rfl rfl rfl ?_ | refine zaj rfl ?_ | refine zak rfl ?_ | refine zal rfl ?_ | refine zam rfl rfl (fun _ => ?_) (fun _ => ?_) | refine zan rfl ?_ | refine zan rfl ?_ | refine zaa 0 rfl rfl rfl ?_ | refine zaa 1 rfl rfl rfl ?_ | refine zaa 2 rfl rfl rfl ?_ | refine zaa 3 rfl rfl rfl ?_ | refine zaa 4 rfl rfl rfl ?_ | refine zaa 5 rfl rfl rfl ?_ | refine zab 0 rfl rfl rfl ?_ | refine zab 1 rfl rfl rfl ?_ | refine zab 2 rfl rfl rfl ?_ | refine zab 3 rfl rfl rfl ?_ | refine zab 4 rfl rfl rfl ?_ | refine zab 5 rfl rfl rfl ?_ | refine zah [] kM rfl rfl rfl (fun p hp => by simp [hp]) rfl ?_ | refine zah [] kW rfl rfl rfl (fun p hp => by simp [hp]) rfl ?_ | refine zce rfl ?_ | refine zce rfl ?_ | refine zao rfl ?_ | refine zan rfl ?_ | refine zbc rfl rfl (by omega) ?_ | refine zbd rfl rfl (by omega) ?_ | refine zbe rfl rfl (by omega) ?_ | refine zbf rfl rfl (by omega) ?_ | refine zbg rfl rfl (by omega) ?_ | refine zbh rfl rfl (by omega) ?_ | refine zbi rfl rfl (by omega) ?_ | refine zbj rfl rfl (by omega) ?_ | refine zbk rfl rfl (by omega) ?_ | refine zbl rfl rfl (by omega) ?_ | refine reg_addZ rfl rfl (by omega) ?_ | refine zau rfl rfl (by omega) ?_ | refine zbo rfl rfl ?_ | refine zbp rfl rfl ?_ | refine zbq rfl rfl ?_ | refine zbr rfl rfl ?_ | refine zbs rfl rfl ?_ | refine zay rfl rfl (by omega) ?_ | refine zaz rfl rfl ?_ | refine zbb rfl rfl ?_ | refine zba rfl rfl ?_ | refine zby rfl ?_ | refine zbx rfl ?_ | refine zbu rfl ?_ | refine zbv rfl ?_ | refine zbw rfl rfl rfl ?_ | refine zae 0 rfl rfl rfl rfl rfl rfl rfl ?_ | refine zae 1 rfl rfl rfl rfl rfl rfl rfl ?_ | refine zae 2 rfl rfl rfl rfl rfl rfl rfl ?_ | refine zae 3 rfl rfl rfl rfl rfl rfl rfl ?_ | refine zae 4 rfl rfl rfl rfl rfl rfl rfl ?_ | refine zae 5 rfl rfl rfl rfl rfl rfl rfl ?_ | refine zas rfl rfl (by omega) ?_ | refine zat rfl rfl (by omega) ?_ | refine zaq (cs := [_, _]) rfl (fun nb => ?_) | refine zar (fun nb => ?_) | refine zbz rfl (by omega) ?_ | refine zca rfl ?_)
            all_goals refine zch ?_
            all_goals repeat (first | refine zck ?_ | refine zcl ?_ | refine zcm ?_ | refine zcn ?_)
            exact cut_end ⟨rfl, (), ⟨rfl, rfl, rfl, rfl, rfl, trivial⟩, rfl⟩
        rintro ⟨⟩ Γ junk rfl
        refine zcj rfl ?_
        repeat (first | refine zck ?_ | refine zcl ?_ | refine zcm ?_ | refine zcn ?_)
        first | refine zcp (by kernel_rfl) ?_ | refine zcq PP_mixed (by kernel_rfl) (by kernel_rfl) ?_
        repeat' (refine zap rfl ?_; first | refine zaa 0 rfl rfl rfl ?_ | refine zaa 1 rfl rfl rfl ?_ | refine zaa 2 rfl rfl rfl ?_ | refine zaa 3 rfl rfl rfl ?_ | refine zar (fun t9 => ?_) | refine zaj rfl ?_ | refine zak rfl ?_ | refine zal rfl ?_ | refine zam rfl rfl (fun _ => ?_) (fun _ => ?_) | refine zan rfl ?_ | refine zan rfl ?_ | refine zaa 0 rfl rfl rfl ?_ | refine zaa 1 rfl rfl rfl ?_ | refine zaa 2 rfl rfl rfl ?_ | refine zaa 3 rfl rfl rfl ?_ | refine zaa 4 rfl rfl rfl ?_ | refine zaa 5 rfl rfl rfl ?_ | refine zab 0 rfl rfl rfl ?_ | refine zab 1 rfl rfl rfl ?_ | refine zab 2 rfl rfl rfl ?_ | refine zab 3 rfl rfl rfl ?_ | refine zab 4 rfl rfl rfl ?_ | refine zab 5 rfl rfl rfl ?_ | refine zce rfl ?_ | refine zao rfl ?_ | refine zan rfl ?_ | refine zbc rfl rfl (by omega) ?_ | refine zbd rfl rfl (by omega) ?_ | refine zbe rfl rfl (by omega) ?_ | refine zbf rfl rfl (by omega) ?_ | refine zbg rfl rfl (by omega) ?_ | refine zbh rfl rfl (by omega) ?_ | refine zbi rfl rfl (by omega) ?_ | refine zbj rfl rfl (by omega) ?_ | refine zbk rfl rfl (by omega) ?_ | refine zbl rfl rfl (by omega) ?_ | refine reg_addZ rfl rfl (by omega) ?_ | refine zau rfl rfl (by omega) ?_ | refine zbo rfl rfl ?_ | refine zbp rfl rfl ?_ | refine zbq rfl rfl ?_ | refine zbr rfl rfl ?_ | refine zbs rfl rfl ?_ | refine zay rfl rfl (by omega) ?_ | refine zaz rfl rfl ?_ | refine zbb rfl rfl ?_ | refine zba rfl rfl ?_ | refine zby rfl ?_ | refine zbx rfl ?_ | refine zbu rfl ?_ | refine zbv rfl ?_ | refine zbw rfl rfl rfl ?_ | refine zae 0 rfl rfl rfl rfl rfl rfl rfl ?_ | refine zae 1 rfl rfl rfl rfl rfl rfl rfl ?_ | refine zae 2 rfl rfl rfl rfl rfl rfl rfl ?_ | refine zae 3 rfl rfl rfl rfl rfl rfl rfl ?_ | refine zae 4 rfl rfl rfl rfl rfl rfl rfl ?_ | refine zae 5 rfl rfl rfl rfl rfl rfl rfl ?_ | refine zas rfl rfl (by omega) ?_ | refine zat rfl rfl (by omega) ?_ | refine zaq (cs := [_, _]) rfl (fun nb => ?_) | refine zar (fun nb => ?_) | refine zbz rfl (by omega) ?_ | refine zca rfl ?_)
        all_goals refine zch ?_
        all_goals repeat (first | refine zck ?_ | refine zcl ?_ | refine zcm ?_ | refine zcn ?_)
        repeat (first | refine zck ?_ | refine zcl ?_ | refine zcm ?_ | refine zcn ?_)
        first | refine zcp (by kernel_rfl) ?_ | refine zcq PP_mixed (by kernel_rfl) (by kernel_rfl) ?_
        repeat' (refine zap rfl ?_; first | refine reg_buildSlice rfl rfl rfl rfl rfl rfl (fun nb9 => ?_) | refine zaa 0 rfl rfl rfl ?_ | refine zaa 1 rfl rfl rfl ?_ | refine zaa 2 rfl rfl rfl ?_ | refine zaa 3 rfl rfl rfl ?_ | refine zae 0 rfl rfl rfl rfl rfl rfl rfl ?_ | refine zaj rfl ?_ | refine zak rfl ?_ | refine zal rfl ?_ | refine zam rfl rfl (fun _ => ?_) (fun _ => ?_) | refine zan rfl ?_ | refine zan rfl ?_ | refine zaa 0 rfl rfl rfl ?_ | refine zaa 1 rfl rfl rfl ?_ | refine zaa 2 rfl rfl rfl ?_ | refine zaa 3 rfl rfl rfl ?_ | refine zaa 4 rfl rfl rfl ?_ | refine zaa 5 rfl rfl rfl ?_ | refine zab 0 rfl rfl rfl ?_ | refine zab 1 rfl rfl rfl ?_ | refine zab 2 rfl rfl rfl ?_ | refine zab 3 rfl rfl rfl ?_ | refine zab 4 rfl rfl rfl ?_ | refine zab 5 rfl rfl rfl ?_ | (refine reg_own 1 rfl rfl (len := 0) (cap := 0) (sz := 3) ⟨rfl, Nat.le_refl _, Nat.le_refl _⟩ rfl ?_; refine reg_append_rdE 1 rfl rfl (hcl.mono sub_nil) (by decide) hone rfl rfl (by omega) (fun _ _ => rfl) (fun aq cq => ?_)) | refine zce rfl ?_ | refine zao rfl ?_ | refine zan rfl ?_ | refine zbc rfl rfl (by omega) ?_ | refine zbd rfl rfl (by omega) ?_ | refine zbe rfl rfl (by omega) ?_ | refine zbf rfl rfl (by omega) ?_ | refine zbg rfl rfl (by omega) ?_ | refine zbh rfl rfl (by omega) ?_ | refine zbi rfl rfl (by omega) ?_ | refine zbj rfl rfl (by omega) ?_ | refine zbk rfl rfl (by omega) ?_ | refine zbl rfl rfl (by omega) ?_ | refine reg_addZ rfl rfl (by omega) ?_ | refine zau rfl rfl (by omega) ?_ | refine zbo rfl rfl ?_ | refine zbp rfl rfl ?_ | refine zbq rfl rfl ?_ | refine zbr rfl rfl ?_ | refine zbs rfl rfl ?_ | refine zay rfl rfl (by omega) ?_ | refine zaz rfl rfl ?_ | refine zbb rfl rfl ?_ | refine zba rfl rfl ?_ | refine zby rfl ?_ | refine zbx rfl ?_ | refine zbu rfl ?_ | refine zbv rfl ?_ | refine zbw rfl rfl rfl ?_ | refine zae 0 rfl rfl rfl rfl rfl rfl rfl ?_ | refine zae 1 rfl rfl rfl rfl rfl rfl rfl ?_ | refine zae 2 rfl rfl rfl rfl rfl rfl rfl ?_ | refine zae 3 rfl rfl rfl rfl rfl rfl rfl ?_ | refine zae 4 rfl rfl rfl rfl rfl rfl rfl ?_ | refine zae 5 rfl rfl rfl rfl rfl rfl rfl ?_ | refine zas rfl rfl (by omega) ?_ | refine zat rfl rfl (by omega) ?_ | refine zaq (cs := [_, _]) rfl (fun nb => ?_) | refine zar (fun nb => ?_) | refine zbz rfl (by omega) ?_ | refine zca rfl ?_)
        all_goals refine zch ?_
        all_goals repeat (first | refine zck ?_ | refine zcl ?_ | refine zcm ?_ | refine zcn ?_)
        refine run_sl_cases 1 rfl (fun _ h0 => absurd h0 (by omega)) (fun bq hbq _ _ => ?_)
        subst hbq
        refine run_share [0] rfl ?_
        repeat (first | refine zck ?_ | refine zcl ?_ | refine zcm ?_ | refine zcn ?_)
        first | refine zcp (by kernel_rfl) ?_ | refine zcq PP_mixed (by kernel_rfl) (by kernel_rfl) ?_
        repeat' (refine zap rfl ?_; first | refine zaj rfl ?_ | refine zak rfl ?_ | refine zal rfl ?_ | refine zam rfl rfl (fun _ => ?_) (fun _ => ?_) | refine zan rfl ?_ | refine zan rfl ?_ | refine zaa 0 rfl rfl rfl ?_ | refine zaa 1 rfl rfl rfl ?_ | refine zaa 2 rfl rfl rfl ?_ | refine zaa 3 rfl rfl rfl ?_ | refine zaa 4 rfl rfl rfl ?_ | refine zaa 5 rfl rfl rfl ?_ | refine zab 0 rfl rfl rfl ?_ | refine zab 1 rfl rfl rfl ?_ | refine zab 2 rfl rfl rfl ?_ | refine zab 3 rfl rfl rfl ?_ | refine zab 4 rfl rfl rfl ?_ | refine zab 5 rfl rfl rfl ?_ | refine zce rfl ?_ | refine zao rfl ?_ | refine zan rfl ?_ | refine zbc rfl rfl (by omega) ?_ | refine zbd rfl rfl (by omega) ?_ | refine zbe rfl rfl (by omega) ?_ | refine zbf rfl rfl (by omega) ?_ | refine zbg rfl rfl (by omega) ?_ | refine zbh rfl rfl (by omega) ?_ | refine zbi rfl rfl (by omega) ?_ | refine zbj rfl rfl (by omega) ?_ | refine zbk rfl rfl (by omega) ?_ | refine zbl rfl rfl (by omega) ?_ | refine reg_addZ rfl rfl (by omega) ?_ | refine zau rfl rfl (by omega) ?_ | refine zbo rfl rfl ?_ | refine zbp rfl rfl ?_ | refine zbq rfl rfl ?_ | refine zbr rfl rfl ?_ | refine zbs rfl rfl ?_ | refine zay rfl rfl (by omega) ?_ | refine zaz rfl rfl ?_ | refine zbb rfl rfl ?_ | refine zba rfl rfl ?_ | refine zby rfl ?_ | refine zbx rfl ?_ | refine zbu rfl ?_ | refine zbv rfl ?_ | refine zbw rfl rfl rfl ?_ | refine zae 0 rfl rfl rfl rfl rfl rfl rfl ?_ | refine zae 1 rfl rfl rfl rfl rfl rfl rfl ?_ | refine zae 2 rfl rfl rfl rfl rfl rfl rfl ?_ | refine zae 3 rfl rfl rfl rfl rfl rfl rfl ?_ | refine zae 4 rfl rfl rfl rfl rfl rfl rfl ?_ | refine zae 5 rfl rfl rfl rfl rfl rfl rfl ?_ | refine zas rfl rfl (by omega) ?_ | refine zat rfl rfl (by omega) ?_ | refine zaq (cs := [_, _]) rfl (fun nb => ?_) | refine zar (fun nb => ?_) | refine zbz rfl (by omega) ?_ | refine zca rfl ?_)
        all_goals refine zch ?_
        all_goals repeat (first | refine zck ?_ | refine zcl ?_ | refine zcm ?_ | refine zcn ?_)
        refine run_loop (S := Nat × List (List Value)) (fun s => [(1, .string oper), (2, .int .u8 (c8 : Int)), (3, .pointer (some ⟨nb, 0, none⟩)), (7, .pointer (some ⟨t7, 0, none⟩)), (9, .pointer (some ⟨t9, 0, none⟩)), (10, .int .i64 (s.1 : Int))])
          (fun s Γ => Γ = [SlA 37 3 (some ⟨bq, 0, none⟩) (0 + cl.length) cq (s.2.flatMap fun x => x)] ∧ s.1 ≤ p.opers.length ∧ RdOs w0 [] ((p.opers.take s.1).map (cutO oper c8) ++ p.opers.drop s.1) s.2) (fun s => p.opers.length - s.1) (0, cl)
          ⟨rfl, rfl, rfl, rfl, rfl, rfl, trivial⟩ ⟨rfl, by dsimp only; omega, hos⟩ ?_
        rintro ⟨j, clj⟩ Γ junk ⟨rfl, g1, g2⟩
        dsimp only at g1 g2 ⊢
        have hcnj := g2.len
        rw [List.length_append, List.length_map, List.length_take, List.length_drop] at hcnj
        obtain ⟨_, h3j⟩ := g2.flat
        by_cases hj : j < p.opers.length
        · obtain ⟨o, ho⟩ : ∃ o, p.opers[j]? = some o := ⟨_, List.getElem?_eq_getElem hj⟩
          obtain ⟨c0, hc0, vp, vb, rfl, hpar, hbody⟩ := g2.at (cut_here ho)
          obtain ⟨ab, cb, rfl, hcb⟩ := hbody.len
          have hbl4 := sm2 o (List.mem_of_getElem? ho)
          have hbn := PS.sizeL_len o.body
          have rN := flat_rd3 h3j hc0 (k := 0) (u := .string o.name) rfl (by decide)
          have rB := flat_rd3 h3j hc0 (k := 2) (u := .slice ab o.body.length cb) rfl (by decide)
          have hnx := cut_next (name := oper) (c := c8) ho
          by_cases hno : o.name = oper
          · obtain ⟨kI, hkI⟩ : ∃ kI, kI = c8 % (o.body.length + 1) := ⟨_, rfl⟩
            have hkl : kI < o.body.length + 1 := by rw [hkI]; exact Nat.mod_lt _ (by omega)
            have hkk : (c8 : Int) % ((o.body.length : Int) + 1) = (kI : Int) := by rw [hkI]; rfl
            have hcut : cutO oper c8 o = o.put (o.body.take kI) := by unfold cutO; rw [if_pos hno, hkI]
            rw [hcut] at hnx
            have hb2 : RdSt w0 [] (.slice ab kI cb) (o.body.take kI) := hbody.head (by omega)
            repeat (first | refine zck ?_ | refine zcl ?_ | refine zcm ?_ | refine zcn ?_)
            first | refine zcp (by kernel_rfl) ?_ | refine zcq PP_mixed (by kernel_rfl) (by kernel_rfl) ?_
            repeat' (refine zap rfl ?_; first | refine zaa 0 rfl rfl rfl ?_ | refine zaa 1 rfl rfl rfl ?_ | refine zaa 2 rfl rfl rfl ?_ | refine zaa 3 rfl rfl rfl ?_ | refine zaj rfl ?_ | refine zak rfl ?_ | refine zal rfl ?_ | refine zam rfl rfl (fun _ => ?_) (fun _ => ?_) | refine zan rfl ?_ | refine zan rfl ?_ | refine zaa 0 rfl rfl rfl ?_ | refine zaa 1 rfl rfl rfl ?_ | refine zaa 2 rfl rfl rfl ?_ | refine zaa 3 rfl rfl rfl ?_ | refine zaa 4 rfl rfl rfl ?_ | refine zaa 5 rfl rfl rfl ?_ | refine zab 0 rfl rfl rfl ?_ | refine zab 1 rfl rfl rfl ?_ | refine zab 2 rfl rfl rfl ?_ | refine zab 3 rfl rfl rfl ?_ | refine zab 4 rfl rfl rfl ?_ | refine zab 5 rfl rfl rfl ?_ | refine zce rfl ?_ | refine zce rfl ?_ | refine zao rfl ?_ | refine zan rfl ?_ | refine zbc rfl rfl (by omega) ?_ | refine zbd rfl rfl (by omega) ?_ | refine zbe rfl rfl (by omega) ?_ | refine zbf rfl rfl (by omega) ?_ | refine zbg rfl rfl (by omega) ?_ | refine zbh rfl rfl (by omega) ?_ | refine zbi rfl rfl (by omega) ?_ | refine zbj rfl rfl (by omega) ?_ | refine zbk rfl rfl (by omega) ?_ | refine zbl rfl rfl (by omega) ?_ | refine reg_addZ rfl rfl (by omega) ?_ | refine zau rfl rfl (by omega) ?_ | refine zbo rfl rfl ?_ | refine zbp rfl rfl ?_ | refine zbq rfl rfl ?_ | refine zbr rfl rfl ?_ | refine zbs rfl rfl ?_ | refine zay rfl rfl (by omega) ?_ | refine zaz rfl rfl ?_ | refine zbb rfl rfl ?_ | refine zba rfl rfl ?_ | refine zby rfl ?_ | refine zbx rfl ?_ | refine zbu rfl ?_ | refine zbv rfl ?_ | refine zbw rfl rfl rfl ?_ | refine zae 0 rfl rfl rfl rfl rfl rfl rfl ?_ | refine zae 1 rfl rfl rfl rfl rfl rfl rfl ?_ | refine zae 2 rfl rfl rfl rfl rfl rfl rfl ?_ | refine zae 3 rfl rfl rfl rfl rfl rfl rfl ?_ | refine zae 4 rfl rfl rfl rfl rfl rfl rfl ?_ | refine zae 5 rfl rfl rfl rfl rfl rfl rfl ?_ | refine zas rfl rfl (by omega) ?_ | refine zat rfl rfl (by omega) ?_ | refine zaq (cs := [_, _]) rfl (fun nb => ?_) | refine zar (fun nb => ?_) | refine zbz rfl (by omega) ?_ | refine zca rfl ?_)
            all_goals refine zch ?_
            all_goals repeat (first | refine zck ?_ | refine zcl ?_ | refine zcm ?_ | refine zcn ?_)
            refine zci rfl ?_
            repeat (first | refine zck ?_ | refine zcl ?_ | refine zcm ?_ | refine zcn ?_)
            first | refine zcp (by kernel_rfl) ?_ | refine zcq PP_mixed (by kernel_rfl) (by kernel_rfl) ?_
            repeat' (refine zap rfl ?_; first | refine zaa 0 rfl rfl rfl ?_ | refine zaa 1 rfl rfl rfl ?_ | refine zaa 2 rfl rfl rfl ?_ | refine zaa 3 rfl rfl rfl ?_ | refine zag 0 rfl rfl (rN _ (by omega)) (fun _ => Nat.one_pos) ?_ | refine reg_eqST rfl rfl hno ?_ | refine zaj rfl ?_ | refine zak rfl ?_ | refine zal rfl ?_ | refine zam rfl rfl (fun _ => ?_) (fun _ => ?_) | refine zan rfl ?_ | refine zan rfl ?_ | refine zaa 0 rfl rfl rfl ?_ | refine zaa 1 rfl rfl rfl ?_ | refine zaa 2 rfl rfl rfl ?_ | refine zaa 3 rfl rfl rfl ?_ | refine zaa 4 rfl rfl rfl ?_ | refine zaa 5 rfl rfl rfl ?_ | refine zab 0 rfl rfl rfl ?_ | refine zab 1 rfl rfl rfl ?_ | refine zab 2 rfl rfl rfl ?_ | refine zab 3 rfl rfl rfl ?_ | refine zab 4 rfl rfl rfl ?_ | refine zab 5 rfl rfl rfl ?_ | refine zce rfl ?_ | refine zao rfl ?_ | refine zan rfl ?_ | refine zbc rfl rfl (by omega) ?_ | refine zbd rfl rfl (by omega) ?_ | refine zbe rfl rfl (by omega) ?_ | refine zbf rfl rfl (by omega) ?_ | refine zbg rfl rfl (by omega) ?_ | refine zbh rfl rfl (by omega) ?_ | refine zbi rfl rfl (by omega) ?_ | refine zbj rfl rfl (by omega) ?_ | refine zbk rfl rfl (by omega) ?_ | refine zbl rfl rfl (by omega) ?_ | refine reg_addZ rfl rfl (by omega) ?_ | refine zau rfl rfl (by omega) ?_ | refine zbo rfl rfl ?_ | refine zbp rfl rfl ?_ | refine zbq rfl rfl ?_ | refine zbr rfl rfl ?_ | refine zbs rfl rfl ?_ | refine zay rfl rfl (by omega) ?_ | refine zaz rfl rfl ?_ | refine zbb rfl rfl ?_ | refine zba rfl rfl ?_ | refine zby rfl ?_ | refine zbx rfl ?_ | refine zbu rfl ?_ | refine zbv rfl ?_ | refine zbw rfl rfl rfl ?_ | refine zae 0 rfl rfl rfl rfl rfl rfl rfl ?_ | refine zae 1 rfl rfl rfl rfl rfl rfl rfl ?_ | refine zae 2 rfl rfl rfl rfl rfl rfl rfl ?_ | refine zae 3 rfl rfl rfl rfl rfl rfl rfl ?_ | refine zae 4 rfl rfl rfl rfl rfl rfl rfl ?_ | refine zae 5 rfl rfl rfl rfl rfl rfl rfl ?_ | refine zas rfl rfl (by omega) ?_ | refine zat rfl rfl (by omega) ?_ | refine zaq (cs := [_, _]) rfl (fun nb => ?_) | refine zar (fun nb => ?_) | refine zbz rfl (by omega) ?_ | refine zca rfl ?_)
            all_goals refine zch ?_
            all_goals repeat (first | refine zck ?_ | refine zcl ?_ | refine zcm ?_ | refine zcn ?_)
            refine zci rfl ?_
            repeat (first | refine zck ?_ | refine zcl ?_ | refine zcm ?_ | refine zcn ?_)
            first | refine zcp (by kernel_rfl) ?_ | refine zcq PP_mixed (by kernel_rfl) (by kernel_rfl) ?_
            repeat' (refine zap rfl ?_; first | refine zaa 0 rfl rfl rfl ?_ | refine zaa 1 rfl rfl rfl ?_ | refine zaa 2 rfl rfl rfl ?_ | refine zaa 3 rfl rfl rfl ?_ | refine zag 0 rfl rfl (rB _ (by omega)) (fun _ => Nat.one_pos) ?_ | (refine zay rfl rfl (by omega) ?_; rw [hkk]) | refine zaj rfl ?_ | refine zak rfl ?_ | refine zal rfl ?_ | refine zam rfl rfl (fun _ => ?_) (fun _ => ?_) | refine zan rfl ?_ | refine zan rfl ?_ | refine zaa 0 rfl rfl rfl ?_ | refine zaa 1 rfl rfl rfl ?_ | refine zaa 2 rfl rfl rfl ?_ | refine zaa 3 rfl rfl rfl ?_ | refine zaa 4 rfl rfl rfl ?_ | refine zaa 5 rfl rfl rfl ?_ | refine zab 0 rfl rfl rfl ?_ | refine zab 1 rfl rfl rfl ?_ | refine zab 2 rfl rfl rfl ?_ | refine zab 3 rfl rfl rfl ?_ | refine zab 4 rfl rfl rfl ?_ | refine zab 5 rfl rfl rfl ?_ | refine zce rfl ?_ | refine zce rfl ?_ | refine zao rfl ?_ | refine zan rfl ?_ | refine zbc rfl rfl (by omega) ?_ | refine zbd rfl rfl (by omega) ?_ | refine zbe rfl rfl (by omega) ?_ | refine zbf rfl rfl (by omega) ?_ | refine zbg rfl rfl (by omega) ?_ | refine zbh rfl rfl (by omega) ?_ | refine zbi rfl rfl (by omega) ?_ | refine zbj rfl rfl (by omega) ?_ | refine zbk rfl rfl (by omega) ?_ | refine zbl rfl rfl (by omega) ?_ | refine reg_addZ rfl rfl (by omega) ?_ | refine zau rfl rfl (by omega) ?_ | refine zbo rfl rfl ?_ | refine zbp rfl rfl ?_ | refine zbq rfl rfl ?_ | refine zbr rfl rfl ?_ | refine zbs rfl rfl ?_ | refine zay rfl rfl (by omega) ?_ | refine zaz rfl rfl ?_ | refine zbb rfl rfl ?_ | refine zba rfl rfl ?_ | refine zby rfl ?_ | refine zbx rfl ?_ | refine zbu rfl ?_ | refine zbv rfl ?_ | refine zbw rfl rfl rfl ?_ | refine zae 0 rfl rfl rfl rfl rfl rfl rfl ?_ | refine zae 1 rfl rfl rfl rfl rfl rfl rfl ?_ | refine zae 2 rfl rfl rfl rfl rfl rfl rfl ?_ | refine zae 3 rfl rfl rfl rfl rfl rfl rfl ?_ | refine zae 4 rfl rfl rfl rfl rfl rfl rfl ?_ | refine zae 5 rfl rfl rfl rfl rfl rfl rfl ?_ | refine zas rfl rfl (by omega) ?_ | refine zat rfl rfl (by omega) ?_ | refine zaq (cs := [_, _]) rfl (fun nb => ?_) | refine zar (fun nb => ?_) | refine zbz rfl (by omega) ?_ | refine zca rfl ?_)
            all_goals refine zch ?_
            all_goals repeat (first | refine zck ?_ | refine zcl ?_ | refine zcm ?_ | refine zcn ?_)
            refine run_drawR PP_mixed (by kernel_rfl) (by kernel_rfl) ?_
            repeat' (refine zap rfl ?_; first | refine zaa 0 rfl rfl rfl ?_ | refine zaa 1 rfl rfl rfl ?_ | refine zaa 2 rfl rfl rfl ?_ | refine zaa 3 rfl rfl rfl ?_ | refine zag 0 rfl rfl (rB _ (by omega)) (fun _ => Nat.one_pos) ?_ | refine reg_slice2 (sz := 11) rfl rfl (by omega) ?_ | refine zaf 0 rfl rfl rfl rfl rfl (flat_wr3 _ h3j hc0 _ (by omega)) rfl ?_ | refine zaj rfl ?_ | refine zak rfl ?_ | refine zal rfl ?_ | refine zam rfl rfl (fun _ => ?_) (fun _ => ?_) | refine zan rfl ?_ | refine zan rfl ?_ | refine zaa 0 rfl rfl rfl ?_ | refine zaa 1 rfl rfl rfl ?_ | refine zaa 2 rfl rfl rfl ?_ | refine zaa 3 rfl rfl rfl ?_ | refine zaa 4 rfl rfl rfl ?_ | refine zaa 5 rfl rfl rfl ?_ | refine zab 0 rfl rfl rfl ?_ | refine zab 1 rfl rfl rfl ?_ | refine zab 2 rfl rfl rfl ?_ | refine zab 3 rfl rfl rfl ?_ | refine zab 4 rfl rfl rfl ?_ | refine zab 5 rfl rfl rfl ?_ | refine zce rfl ?_ | refine zao rfl ?_ | refine zan rfl ?_ | refine zbc rfl rfl (by omega) ?_ | refine zbd rfl rfl (by omega) ?_ | refine zbe rfl rfl (by omega) ?_ | refine zbf rfl rfl (by omega) ?_ | refine zbg rfl rfl (by omega) ?_ | refine zbh rfl rfl (by omega) ?_ | refine zbi rfl rfl (by omega) ?_ | refine zbj rfl rfl (by omega) ?_ | refine zbk rfl rfl (by omega) ?_ | refine zbl rfl rfl (by omega) ?_ | refine reg_addZ rfl rfl (by omega) ?_ | refine zau rfl rfl (by omega) ?_ | refine zbo rfl rfl ?_ | refine zbp rfl rfl ?_ | refine zbq rfl rfl ?_ | refine zbr rfl rfl ?_ | refine zbs rfl rfl ?_ | refine zay rfl rfl (by omega) ?_ | refine zaz rfl rfl ?_ | refine zbb rfl rfl ?_ | refine zba rfl rfl ?_ | refine zby rfl ?_ | refine zbx rfl ?_ | refine zbu rfl ?_ | refine zbv rfl ?_ | refine zbw rfl rfl rfl ?_ | refine zae 0 rfl rfl rfl rfl rfl rfl rfl ?_ | refine zae 1 rfl rfl rfl rfl rfl rfl rfl ?_ | refine zae 2 rfl rfl rfl rfl rfl rfl rfl ?_ | refine zae 3 rfl rfl rfl rfl rfl rfl rfl ?_ | refine zae 4 rfl rfl rfl rfl rfl rfl rfl ?_ | refine zae 5 rfl rfl rfl rfl rfl rfl rfl ?_ | refine zas rfl rfl (by omega) ?_ | refine zat rfl rfl (by omega) ?_ | refine zaq (cs := [_, _]) rfl (fun nb => ?_) | refine zar (fun nb => ?_) | refine zbz rfl (by omega) ?_ | refine zca rfl ?_)
            refine zch ?_
            repeat' (first | refine zck ?_ | refine zcp (by kernel_rfl) ?_ | refine zcq PP_mixed (by kernel_rfl) (by kernel_rfl) ?_ | refine zcm ?_ | refine zcl ?_ | refine zcn ?_ | refine zco ?_ | refine zcs rfl ?_ | (refine zap rfl ?_; first | refine zaj rfl ?_ | refine zak rfl ?_ | refine zal rfl ?_ | refine zam rfl rfl (fun _ => ?_) (fun _ => ?_) | refine zan rfl ?_ | refine zan rfl ?_ | refine zaa 0 rfl rfl rfl ?_ | refine zaa 1 rfl rfl rfl ?_ | refine zaa 2 rfl rfl rfl ?_ | refine zaa 3 rfl rfl rfl ?_ | refine zaa 4 rfl rfl rfl ?_ | refine zaa 5 rfl rfl rfl ?_ | refine zab 0 rfl rfl rfl ?_ | refine zab 1 rfl rfl rfl ?_ | refine zab 2 rfl rfl rfl ?_ | refine zab 3 rfl rfl rfl ?_ | refine zab 4 rfl rfl rfl ?_ | refine zab 5 rfl rfl rfl ?_ | refine zce rfl ?_ | refine zao rfl ?_ | refine zan rfl ?_ | refine zbc rfl rfl (by omega) ?_ | refine zbd rfl rfl (by omega) ?_ | refine zbe rfl rfl (by omega) ?_ | refine zbf rfl rfl (by omega) ?_ | refine zbg rfl rfl (by omega) ?_ | refine zbh rfl rfl (by omega) ?_ | refine zbi rfl rfl (by omega) ?_ | refine zbj rfl rfl (by omega) ?_ | refine zbk rfl rfl (by omega) ?_ | refine zbl rfl rfl (by omega) ?_ | refine reg_addZ rfl rfl (by omega) ?_ | refine zau rfl rfl (by omega) ?_ | refine zbo rfl rfl ?_ | refine zbp rfl rfl ?_ | refine zbq rfl rfl ?_ | refine zbr rfl rfl ?_ | refine zbs rfl rfl ?_ | refine zay rfl rfl (by omega) ?_ | refine zaz rfl rfl ?_ | refine zbb rfl rfl ?_ | refine zba rfl rfl ?_ | refine zby rfl ?_ | refine zbx rfl ?_ | refine zbu rfl ?_ | refine zbv rfl ?_ | refine zbw rfl rfl rfl ?_ | refine zae 0 rfl rfl rfl rfl rfl rfl rfl ?_ | refine zae 1 rfl rfl rfl rfl rfl rfl rfl ?_ | refine zae 2 rfl rfl rfl rfl rfl rfl rfl ?_ | refine zae 3 rfl rfl rfl rfl rfl rfl rfl ?_ | refine zae 4 rfl rfl rfl rfl rfl rfl rfl ?_ | refine zae 5 rfl rfl rfl rfl rfl rfl rfl ?_ | refine zas rfl rfl (by omega) ?_ | refine zat rfl rfl (by omega) ?_ | refine zaq (cs := [_, _]) rfl (fun nb => ?_) | refine zar (fun nb => ?_) | refine zbz rfl (by omega) ?_ | refine zca rfl ?_) | refine zch ?_ | refine zci rfl ?_ | refine zcj rfl ?_)
            refine cut_end ⟨rfl, (j + 1, clj.set j [.string o.name, vp, .slice ab (kI : Int).toNat cb]), ⟨rfl, rfl, rfl, rfl, rfl, int_eq (by dsimp only; omega), trivial⟩, ⟨rfl, by dsimp only; omega, ?_⟩, by dsimp only; omega⟩
            dsimp only
            rw [← hnx]
            exact g2.put (by rw [List.length_append, List.length_map, List.length_take, List.length_drop]; omega) ⟨_, _, rfl, hpar, hb2⟩
          · have hcut : cutO oper c8 o = o := by unfold cutO; rw [if_neg hno]
            rw [hcut, set_eq3 (cut_here ho)] at hnx
            repeat (first | refine zck ?_ | refine zcl ?_ | refine zcm ?_ | refine zcn ?_)
            first | refine zcp (by kernel_rfl) ?_ | refine zcq PP_mixed (by kernel_rfl) (by kernel_rfl) ?_
            repeat' (refine zap rfl ?_; first | refine zaa 0 rfl rfl rfl ?_ | refine zaa 1 rfl rfl rfl ?_ | refine zaa 2 rfl rfl rfl ?_ | refine zaa 3 rfl rfl rfl ?_ | refine zaj rfl ?_ | refine zak rfl ?_ | refine zal rfl ?_ | refine zam rfl rfl (fun _ => ?_) (fun _ => ?_) | refine zan rfl ?_ | refine zan rfl ?_ | refine zaa 0 rfl rfl rfl ?_ | refine zaa 1 rfl rfl rfl ?_ | refine zaa 2 rfl rfl rfl ?_ | refine zaa 3 rfl rfl rfl ?_ | refine zaa 4 rfl rfl rfl ?_ | refine zaa 5 rfl rfl rfl ?_ | refine zab 0 rfl rfl rfl ?_ | refine zab 1 rfl rfl rfl ?_ | refine zab 2 rfl rfl rfl ?_ | refine zab 3 rfl rfl rfl ?_ | refine zab 4 rfl rfl rfl ?_ | refine zab 5 rfl rfl rfl ?_ | refine zce rfl ?_ | refine zce rfl ?_ | refine zao rfl ?_ | refine zan rfl ?_ | refine zbc rfl rfl (by omega) ?_ | refine zbd rfl rfl (by omega) ?_ | refine zbe rfl rfl (by omega) ?_ | refine zbf rfl rfl (by omega) ?_ | refine zbg rfl rfl (by omega) ?_ | refine zbh rfl rfl (by omega) ?_ | refine zbi rfl rfl (by omega) ?_ | refine zbj rfl rfl (by omega) ?_ | refine zbk rfl rfl (by omega) ?_ | refine zbl rfl rfl (by omega) ?_ | refine reg_addZ rfl rfl (by omega) ?_ | refine zau rfl rfl (by omega) ?_ | refine zbo rfl rfl ?_ | refine zbp rfl rfl ?_ | refine zbq rfl rfl ?_ | refine zbr rfl rfl ?_ | refine zbs rfl rfl ?_ | refine zay rfl rfl (by omega) ?_ | refine zaz rfl rfl ?_ | refine zbb rfl rfl ?_ | refine zba rfl rfl ?_ | refine zby rfl ?_ | refine zbx rfl ?_ | refine zbu rfl ?_ | refine zbv rfl ?_ | refine zbw rfl rfl rfl ?_ | refine zae 0 rfl rfl rfl rfl rfl rfl rfl ?_ | refine zae 1 rfl rfl rfl rfl rfl rfl rfl ?_ | refine zae 2 rfl rfl rfl rfl rfl rfl rfl ?_ | refine zae 3 rfl rfl rfl rfl rfl rfl rfl ?_ | refine zae 4 rfl rfl rfl rfl rfl rfl rfl ?_ | refine zae 5 rfl rfl rfl rfl rfl rfl rfl ?_ | refine zas rfl rfl (by omega) ?_ | refine zat rfl rfl (by omega) ?_ | refine zaq (cs := [_, _]) rfl (fun nb => ?_) | refine zar (fun nb => ?_) | refine zbz rfl (by omega) ?_ | refine zca rfl ?_)
            all_goals refine zch ?_
            all_goals repeat (first | refine zck ?_ | refine zcl ?_ | refine zcm ?_ | refine zcn ?_)
            refine zci rfl ?_
            repeat (first | refine zck ?_ | refine zcl ?_ | refine zcm ?_ | refine zcn ?_)
            first | refine zcp (by kernel_rfl) ?_ | refine zcq PP_mixed (by kernel_rfl) (by kernel_rfl) ?_
            repeat' (refine zap rfl ?_; first | refine zaa 0 rfl rfl rfl ?_ | refine zaa 1 rfl rfl rfl ?_ | refine zaa 2 rfl rfl rfl ?_ | refine zaa 3 rfl rfl rfl ?_ | refine zag 0 rfl rfl (rN _ (by omega)) (fun _ => Nat.one_pos) ?_ | refine reg_eqSF rfl rfl hno ?_ | refine zaj rfl ?_ | refine zak rfl ?_ | refine zal rfl ?_ | refine zam rfl rfl (fun _ => ?_) (fun _ => ?_) | refine zan rfl ?_ | refine zan rfl ?_ | refine zaa 0 rfl rfl rfl ?_ | refine zaa 1 rfl rfl rfl ?_ | refine zaa 2 rfl rfl rfl ?_ | refine zaa 3 rfl rfl rfl ?_ | refine zaa 4 rfl rfl rfl ?_ | refine zaa 5 rfl rfl rfl ?_ | refine zab 0 rfl rfl rfl ?_ | refine zab 1 rfl rfl rfl ?_ | refine zab 2 rfl rfl rfl ?_ | refine zab 3 rfl rfl rfl ?_ | refine zab 4 rfl rfl rfl ?_ | refine zab 5 rfl rfl rfl ?_ | refine zce rfl ?_ | refine zao rfl ?_ | refine zan rfl ?_ | refine zbc rfl rfl (by omega) ?_ | refine zbd rfl rfl (by omega) ?_ | refine zbe rfl rfl (by omega) ?_ | refine zbf rfl rfl (by omega) ?_ | refine zbg rfl rfl (by omega) ?_ | refine zbh rfl rfl (by omega) ?_ | refine zbi rfl rfl (by omega) ?_ | refine zbj rfl rfl (by omega) ?_ | refine zbk rfl rfl (by omega) ?_ | refine zbl rfl rfl (by omega) ?_ | refine reg_addZ rfl rfl (by omega) ?_ | refine zau rfl rfl (by omega) ?_ | refine zbo rfl rfl ?_ | refine zbp rfl rfl ?_ | refine zbq rfl rfl ?_ | refine zbr rfl rfl ?_ | refine zbs rfl rfl ?_ | refine zay rfl rfl (by omega) ?_ | refine zaz rfl rfl ?_ | refine zbb rfl rfl ?_ | refine zba rfl rfl ?_ | refine zby rfl ?_ | refine zbx rfl ?_ | refine zbu rfl ?_ | refine zbv rfl ?_ | refine zbw rfl rfl rfl ?_ | refine zae 0 rfl rfl rfl rfl rfl rfl rfl ?_ | refine zae 1 rfl rfl rfl rfl rfl rfl rfl ?_ | refine zae 2 rfl rfl rfl rfl rfl rfl rfl ?_ | refine zae 3 rfl rfl rfl rfl rfl rfl rfl ?_ | refine zae 4 rfl rfl rfl rfl rfl rfl rfl ?_ | refine zae 5 rfl rfl rfl rfl rfl rfl rfl ?_ | refine zas rfl rfl (by omega) ?_ | refine zat rfl rfl (by omega) ?_ | refine zaq (cs := [_, _]) rfl (fun nb => ?_) | refine zar (fun nb => ?_) | refine zbz rfl (by omega) ?_ | refine zca rfl ?_)
            all_goals refine zch ?_
            all_goals repeat (first | refine zck ?_ | refine zcl ?_ | refine zcm ?_ | refine zcn ?_)
            repeat' (first | refine zck ?_ | refine zcp (by kernel_rfl) ?_ | refine zcq PP_mixed (by kernel_rfl) (by kernel_rfl) ?_ | refine zcm ?_ | refine zcl ?_ | refine zcn ?_ | refine zco ?_ | refine zcs rfl ?_ | (refine zap rfl ?_; first | refine zaj rfl ?_ | refine zak rfl ?_ | refine zal rfl ?_ | refine zam rfl rfl (fun _ => ?_) (fun _ => ?_) | refine zan rfl ?_ | refine zan rfl ?_ | refine zaa 0 rfl rfl rfl ?_ | refine zaa 1 rfl rfl rfl ?_ | refine zaa 2 rfl rfl rfl ?_ | refine zaa 3 rfl rfl rfl ?_ | refine zaa 4 rfl rfl rfl ?_ | refine zaa 5 rfl rfl rfl ?_ | refine zab 0 rfl rfl rfl ?_ | refine zab 1 rfl rfl rfl ?_ | refine zab 2 rfl rfl rfl ?_ | refine zab 3 rfl rfl rfl ?_ | refine zab 4 rfl rfl rfl ?_ | refine zab 5 rfl rfl rfl ?_ | refine zce rfl ?_ | refine zao rfl ?_ | refine zan rfl ?_ | refine zbc rfl rfl (by omega) ?_ | refine zbd rfl rfl (by omega) ?_ | refine zbe rfl rfl (by omega) ?_ | refine zbf rfl rfl (by omega) ?_ | refine zbg rfl rfl (by omega) ?_ | refine zbh rfl rfl (by omega) ?_ | refine zbi rfl rfl (by omega) ?_ | refine zbj rfl rfl (by omega) ?_ | refine zbk rfl rfl (by omega) ?_ | refine zbl rfl rfl (by omega) ?_ | refine reg_addZ rfl rfl (by omega) ?_ | refine zau rfl rfl (by omega) ?_ | refine zbo rfl rfl ?_ | refine zbp rfl rfl ?_ | refine zbq rfl rfl ?_ | refine zbr rfl rfl ?_ | refine zbs rfl rfl ?_ | refine zay rfl rfl (by omega) ?_ | refine zaz rfl rfl ?_ | refine zbb rfl rfl ?_ | refine zba rfl rfl ?_ | refine zby rfl ?_ | refine zbx rfl ?_ | refine zbu rfl ?_ | refine zbv rfl ?_ | refine zbw rfl rfl rfl ?_ | refine zae 0 rfl rfl rfl rfl rfl rfl rfl ?_ | refine zae 1 rfl rfl rfl rfl rfl rfl rfl ?_ | refine zae 2 rfl rfl rfl rfl rfl rfl rfl ?_ | refine zae 3 rfl rfl rfl rfl rfl rfl rfl ?_ | refine zae 4 rfl rfl rfl rfl rfl rfl rfl ?_ | refine zae 5 rfl rfl rfl rfl rfl rfl rfl ?_ | refine zas rfl rfl (by omega) ?_ | refine zat rfl rfl (by omega) ?_ | refine zaq (cs := [_, _]) rfl (fun nb => ?_) | refine zar (fun nb => ?_) | refine zbz rfl (by omega) ?_ | refine zca rfl ?_) | refine zch ?_ | refine zci rfl ?_ | refine zcj rfl ?_)
            refine cut_end ⟨rfl, (j + 1, clj), ⟨rfl, rfl, rfl, rfl, rfl, int_eq (by dsimp only; omega), trivial⟩, ⟨rfl, by dsimp only; omega, ?_⟩, by dsimp only; omega⟩
            dsimp only
            rw [← hnx]
            exact g2
        · rw [List.take_of_length_le (by omega), List.drop_eq_nil_of_le (by omega), List.append_nil] at g2
          repeat (first | refine zck ?_ | refine zcl ?_ | refine zcm ?_ | refine zcn ?_)
          first | refine zcp (by kernel_rfl) ?_ | refine zcq PP_mixed (by kernel_rfl) (by kernel_rfl) ?_
          repeat' (refine zap rfl ?_; first | refine zaa 0 rfl rfl rfl ?_ | refine zaa 1 rfl rfl rfl ?_ | refine zaa 2 rfl rfl rfl ?_ | refine zaa 3 rfl rfl rfl ?_ | refine zaj rfl ?_ | refine zak rfl ?_ | refine zal rfl ?_ | refine zam rfl rfl (fun _ => ?_) (fun _ => ?_) | refine zan rfl ?_ | refine zan rfl ?_ | refine zaa 0 rfl rfl rfl ?_ | refine zaa 1 rfl rfl rfl ?_ | refine zaa 2 rfl rfl rfl ?_ | refine zaa 3 rfl rfl rfl ?_ | refine zaa 4 rfl rfl rfl ?_ | refine zaa 5 rfl rfl rfl ?_ | refine zab 0 rfl rfl rfl ?_ | refine zab 1 rfl rfl rfl ?_ | refine zab 2 rfl rfl rfl ?_ | refine zab 3 rfl rfl rfl ?_ | refine zab 4 rfl rfl rfl ?_ | refine zab 5 rfl rfl rfl ?_ | refine zce rfl ?_ | refine zce rfl ?_ | refine zao rfl ?_ | refine zan rfl ?_ | refine zbc rfl rfl (by omega) ?_ | refine zbd rfl rfl (by omega) ?_ | refine zbe rfl rfl (by omega) ?_ | refine zbf rfl rfl (by omega) ?_ | refine zbg rfl rfl (by omega) ?_ | refine zbh rfl rfl (by omega) ?_ | refine zbi rfl rfl (by omega) ?_ | refine zbj rfl rfl (by omega) ?_ | refine zbk rfl rfl (by omega) ?_ | refine zbl rfl rfl (by omega) ?_ | refine reg_addZ rfl rfl (by omega) ?_ | refine zau rfl rfl (by omega) ?_ | refine zbo rfl rfl ?_ | refine zbp rfl rfl ?_ | refine zbq rfl rfl ?_ | refine zbr rfl rfl ?_ | refine zbs rfl rfl ?_ | refine zay rfl rfl (by omega) ?_ | refine zaz rfl rfl ?_ | refine zbb rfl rfl ?_ | refine zba rfl rfl ?_ | refine zby rfl ?_ | refine zbx rfl ?_ | refine zbu rfl ?_ | refine zbv rfl ?_ | refine zbw rfl rfl rfl ?_ | refine zae 0 rfl rfl rfl rfl rfl rfl rfl ?_ | refine zae 1 rfl rfl rfl rfl rfl rfl rfl ?_ | refine zae 2 rfl rfl rfl rfl rfl rfl rfl ?_ | refine zae 3 rfl rfl rfl rfl rfl rfl rfl ?_ | refine zae 4 rfl rfl rfl rfl rfl rfl rfl ?_ | refine zae 5 rfl rfl rfl rfl rfl rfl rfl ?_ | refine zas rfl rfl (by omega) ?_ | refine zat rfl rfl (by omega) ?_ | refine zaq (cs := [_, _]) rfl (fun nb => ?_) | refine zar (fun nb => ?_) | refine zbz rfl (by omega) ?_ | refine zca rfl ?_)
          all_goals refine zch ?_
          all_goals repeat (first | refine zck ?_ | refine zcl ?_ | refine zcm ?_ | refine zcn ?_)
          refine zcj rfl ?_
          refine cut_exit rfl rfl ?_
          repeat (first | refine zck ?_ | refine zcl ?_ | refine zcm ?_ | refine zcn ?_ | refine zco ?_)
          refine run_slR (fun x : List Value => x) 0 (l := clj) rfl rfl h3j (by omega) rfl ?_
          refine run_shareB [0] rfl (fun zq hzq => ?_)
          have hPq : RdP w0 zq (.agg #[.slice a1 p.stores.length c1, .slice (some ⟨bq, 0, none⟩) (0 + cl.length) cq]) ⟨p.stores, p.opers.map (cutO oper c8)⟩ := ⟨_, _, rfl, h1.mono sub_nil, clj, hzq, g2.mono sub_nil⟩
          obtain ⟨s1, s2⟩ := small_cut oper c8 sm1 sm2
          have ofq := of_spec w0 hk zq _ _ oper hPq s1 s2
          have hx4 : (ofP ⟨p.stores, p.opers.map (cutO oper c8)⟩ oper).1.sm 400 := ofP_sm (fun o ho => by
            obtain ⟨y, hy, rfl⟩ := List.mem_map.1 ho
            exact Nat.le_trans (cutO_size oper c8 y).1 (sm2 y hy))
          obtain ⟨⟨x, gx⟩, hX⟩ : ∃ E, ofP ⟨p.stores, p.opers.map (cutO oper c8)⟩ oper = E := ⟨_, rfl⟩
          rw [hX] at ofq hx4 hq0 hle
          unfold OSpec at ofq
          dsimp only at ofq hx4 hq0 hle
          subst hq0
          repeat (first | refine zck ?_ | refine zcl ?_ | refine zcm ?_ | refine zcn ?_)
          first | refine zcp (by kernel_rfl) ?_ | refine zcq PP_mixed (by kernel_rfl) (by kernel_rfl) ?_
          repeat' (refine zap rfl ?_; first | refine zaa 0 rfl rfl rfl ?_ | refine zaa 1 rfl rfl rfl ?_ | refine zaa 2 rfl rfl rfl ?_ | refine zaa 3 rfl rfl rfl ?_ | refine zar (fun t12 => ?_) | refine zaj rfl ?_ | refine zak rfl ?_ | refine zal rfl ?_ | refine zam rfl rfl (fun _ => ?_) (fun _ => ?_) | refine zan rfl ?_ | refine zan rfl ?_ | refine zaa 0 rfl rfl rfl ?_ | refine zaa 1 rfl rfl rfl ?_ | refine zaa 2 rfl rfl rfl ?_ | refine zaa 3 rfl rfl rfl ?_ | refine zaa 4 rfl rfl rfl ?_ | refine zaa 5 rfl rfl rfl ?_ | refine zab 0 rfl rfl rfl ?_ | refine zab 1 rfl rfl rfl ?_ | refine zab 2 rfl rfl rfl ?_ | refine zab 3 rfl rfl rfl ?_ | refine zab 4 rfl rfl rfl ?_ | refine zab 5 rfl rfl rfl ?_ | (refine zai [] ofq rfl rfl rfl (fun p hp => by simp [hp]) ?_; rintro v Γ ⟨qx, rfl, rfl⟩) | refine zce rfl ?_ | refine zao rfl ?_ | refine zan rfl ?_ | refine zbc rfl rfl (by omega) ?_ | refine zbd rfl rfl (by omega) ?_ | refine zbe rfl rfl (by omega) ?_ | refine zbf rfl rfl (by omega) ?_ | refine zbg rfl rfl (by omega) ?_ | refine zbh rfl rfl (by omega) ?_ | refine zbi rfl rfl (by omega) ?_ | refine zbj rfl rfl (by omega) ?_ | refine zbk rfl rfl (by omega) ?_ | refine zbl rfl rfl (by omega) ?_ | refine reg_addZ rfl rfl (by omega) ?_ | refine zau rfl rfl (by omega) ?_ | refine zbo rfl rfl ?_ | refine zbp rfl rfl ?_ | refine zbq rfl rfl ?_ | refine zbr rfl rfl ?_ | refine zbs rfl rfl ?_ | refine zay rfl rfl (by omega) ?_ | refine zaz rfl rfl ?_ | refine zbb rfl rfl ?_ | refine zba rfl rfl ?_ | refine zby rfl ?_ | refine zbx rfl ?_ | refine zbu rfl ?_ | refine zbv rfl ?_ | refine zbw rfl rfl rfl ?_ | refine zae 0 rfl rfl rfl rfl rfl rfl rfl ?_ | refine zae 1 rfl rfl rfl rfl rfl rfl rfl ?_ | refine zae 2 rfl rfl rfl rfl rfl rfl rfl ?_ | refine zae 3 rfl rfl rfl rfl rfl rfl rfl ?_ | refine zae 4 rfl rfl rfl rfl rfl rfl rfl ?_ | refine zae 5 rfl rfl rfl rfl rfl rfl rfl ?_ | refine zas rfl rfl (by omega) ?_ | refine zat rfl rfl (by omega) ?_ | refine zaq (cs := [_, _]) rfl (fun nb => ?_) | refine zar (fun nb => ?_) | refine zbz rfl (by omega) ?_ | refine zca rfl ?_)
          all_goals refine zch ?_
          all_goals repeat (first | refine zck ?_ | refine zcl ?_ | refine zcm ?_ | refine zcn ?_)
          refine run_share [1] rfl ?_
          refine run_shareB [0] rfl (fun zx hzx => ?_)
          obtain ⟨hx1, hx2, hx3⟩ := hx4
          obtain ⟨y1, y2, y3⟩ := hzx.parts
          obtain ⟨l1, l2, l3, l4⟩ := hle
          have m1 : ∀ q ∈ zx, q ∈ zx ++ bl := fun q hq => List.mem_append_left _ hq
          have m2 : ∀ q ∈ bl, q ∈ zx ++ bl := fun q hq => List.mem_append_right _ hq
          have w1 := within_spec w0 (zx ++ bl) _ _ _ _ (y1.mono m1) (b1.mono m2) (by omega) (by omega)
          have w2 := within_spec w0 (zx ++ bl) _ _ _ _ (y2.mono m1) (b2.mono m2) (by omega) (by omega)
          have w3 := within_spec w0 (zx ++ bl) _ _ _ _ (y3.mono m1) (b3.mono m2) (by omega) (by omega)
          rw [withinS_sub l1] at w1
          rw [withinS_sub l2] at w2
          rw [withinS_sub l3] at w3
          repeat' (first | refine zck ?_ | refine zcp (by kernel_rfl) ?_ | refine zcq PP_mixed (by kernel_rfl) (by kernel_rfl) ?_ | refine zcm ?_ | refine zcl ?_ | refine zcn ?_ | refine zco ?_ | refine zcs rfl ?_ | (refine zap rfl ?_; first | refine zaa 0 rfl rfl rfl ?_ | refine zaa 1 rfl rfl rfl ?_ | refine zaa 2 rfl rfl rfl ?_ | refine zaa 3 rfl rfl rfl ?_ | refine zaj rfl ?_ | refine zak rfl ?_ | refine zal rfl ?_ | refine zam rfl rfl (fun _ => ?_) (fun _ => ?_) | refine zan rfl ?_ | refine zan rfl ?_ | refine zaa 0 rfl rfl rfl ?_ | refine zaa 1 rfl rfl rfl ?_ | refine zaa 2 rfl rfl rfl ?_ | refine zaa 3 rfl rfl rfl ?_ | refine zaa 4 rfl rfl rfl ?_ | refine zaa 5 rfl rfl rfl ?_ | refine zab 0 rfl rfl rfl ?_ | refine zab 1 rfl rfl rfl ?_ | refine zab 2 rfl rfl rfl ?_ | refine zab 3 rfl rfl rfl ?_ | refine zab 4 rfl rfl rfl ?_ | refine zab 5 rfl rfl rfl ?_ | refine zah [] w1 rfl rfl rfl (fun p hp => by rcases List.mem_append.1 hp with hp | hp <;> simp [hp]) rfl ?_ | refine zah [] w2 rfl rfl rfl (fun p hp => by rcases List.mem_append.1 hp with hp | hp <;> simp [hp]) rfl ?_ | refine zah [] w3 rfl rfl rfl (fun p hp => by rcases List.mem_append.1 hp with hp | hp <;> simp [hp]) rfl ?_ | refine zah [] haw rfl rfl rfl sub_nil rfl ?_ | refine zce rfl ?_ | refine zao rfl ?_ | refine zan rfl ?_ | refine zbc rfl rfl (by omega) ?_ | refine zbd rfl rfl (by omega) ?_ | refine zbe rfl rfl (by omega) ?_ | refine zbf rfl rfl (by omega) ?_ | refine zbg rfl rfl (by omega) ?_ | refine zbh rfl rfl (by omega) ?_ | refine zbi rfl rfl (by omega) ?_ | refine zbj rfl rfl (by omega) ?_ | refine zbk rfl rfl (by omega) ?_ | refine zbl rfl rfl (by omega) ?_ | refine reg_addZ rfl rfl (by omega) ?_ | refine zau rfl rfl (by omega) ?_ | refine zbo rfl rfl ?_ | refine zbp rfl rfl ?_ | refine zbq rfl rfl ?_ | refine zbr rfl rfl ?_ | refine zbs rfl rfl ?_ | refine zay rfl rfl (by omega) ?_ | refine zaz rfl rfl ?_ | refine zbb rfl rfl ?_ | refine zba rfl rfl ?_ | refine zby rfl ?_ | refine zbx rfl ?_ | refine zbu rfl ?_ | refine zbv rfl ?_ | refine zbw rfl rfl rfl ?_ | refine zae 0 rfl rfl rfl rfl rfl rfl rfl ?_ | refine zae 1 rfl rfl rfl rfl rfl rfl rfl ?_ | refine zae 2 rfl rfl rfl rfl rfl rfl rfl ?_ | refine zae 3 rfl rfl rfl rfl rfl rfl rfl ?_ | refine zae 4 rfl rfl rfl rfl rfl rfl rfl ?_ | refine zae 5 rfl rfl rfl rfl rfl rfl rfl ?_ | refine zas rfl rfl (by omega) ?_ | refine zat rfl rfl (by omega) ?_ | refine zaq (cs := [_, _]) rfl (fun nb => ?_) | refine zar (fun nb => ?_) | refine zbz rfl (by omega) ?_ | refine zca rfl ?_) | refine zch ?_ | refine zci rfl ?_ | refine zcj rfl ?_)
          exact ret_tmp1 rfl ⟨rfl, rfl⟩
      · repeat' (first | refine zck ?_ | refine zcp (by kernel_rfl) ?_ | refine zcq PP_mixed (by kernel_rfl) (by kernel_rfl) ?_ | refine zcm ?_ | refine zcl ?_ | refine zcn ?_ | refine zco ?_ | refine zcs rfl ?_ | (refine zap rfl ?_; first | refine zaj rfl ?_ | refine zak rfl ?_ | refine zal rfl ?_ | refine zam rfl rfl (fun _ => ?_) (fun _ => ?_) | refine zan rfl ?_ | refine zan rfl ?_ | refine zaa 0 rfl rfl rfl ?_ | refine zaa 1 rfl rfl rfl ?_ | refine zaa 2 rfl rfl rfl ?_ | refine zaa 3 rfl rfl rfl ?_ | refine zaa 4 rfl rfl rfl ?_ | refine zaa 5 rfl rfl rfl ?_ | refine zab 0 rfl rfl rfl ?_ | refine zab 1 rfl rfl rfl ?_ | refine zab 2 rfl rfl rfl ?_ | refine zab 3 rfl rfl rfl ?_ | refine zab 4 rfl rfl rfl ?_ | refine zab 5 rfl rfl rfl ?_ | refine zah [] haw rfl rfl rfl sub_nil rfl ?_ | refine zce rfl ?_ | refine zao rfl ?_ | refine zan rfl ?_ | refine zbc rfl rfl (by omega) ?_ | refine zbd rfl rfl (by omega) ?_ | refine zbe rfl rfl (by omega) ?_ | refine zbf rfl rfl (by omega) ?_ | refine zbg rfl rfl (by omega) ?_ | refine zbh rfl rfl (by omega) ?_ | refine zbi rfl rfl (by omega) ?_ | refine zbj rfl rfl (by omega) ?_ | refine zbk rfl rfl (by omega) ?_ | refine zbl rfl rfl (by omega) ?_ | refine reg_addZ rfl rfl (by omega) ?_ | refine zau rfl rfl (by omega) ?_ | refine zbo rfl rfl ?_ | refine zbp rfl rfl ?_ | refine zbq rfl rfl ?_ | refine zbr rfl rfl ?_ | refine zbs rfl rfl ?_ | refine zay rfl rfl (by omega) ?_ | refine zaz rfl rfl ?_ | refine zbb rfl rfl ?_ | refine zba rfl rfl ?_ | refine zby rfl ?_ | refine zbx rfl ?_ | refine zbu rfl ?_ | refine zbv rfl ?_ | refine zbw rfl rfl rfl ?_ | refine zae 0 rfl rfl rfl rfl rfl rfl rfl ?_ | refine zae 1 rfl rfl rfl rfl rfl rfl rfl ?_ | refine zae 2 rfl rfl rfl rfl rfl rfl rfl ?_ | refine zae 3 rfl rfl rfl rfl rfl rfl rfl ?_ | refine zae 4 rfl rfl rfl rfl rfl rfl rfl ?_ | refine zae 5 rfl rfl rfl rfl rfl rfl rfl ?_ | refine zas rfl rfl (by omega) ?_ | refine zat rfl rfl (by omega) ?_ | refine zaq (cs := [_, _]) rfl (fun nb => ?_) | refine zar (fun nb => ?_) | refine zbz rfl (by omega) ?_ | refine zca rfl ?_) | refine zch ?_ | refine zci rfl ?_ | refine zcj rfl ?_)
        refine run_take [] rfl ?_
        exact ret_tmp1 rfl ⟨rfl, rfl⟩
    · repeat' (first | refine zck ?_ | refine zcp (by kernel_rfl) ?_ | refine zcq PP_mixed (by kernel_rfl) (by kernel_rfl) ?_ | refine zcm ?_ | refine zcl ?_ | refine zcn ?_ | refine zco ?_ | refine zcs rfl ?_ | (refine zap rfl ?_; first | refine zaj rfl ?_ | refine zak rfl ?_ | refine zal rfl ?_ | refine zam rfl rfl (fun _ => ?_) (fun _ => ?_) | refine zan rfl ?_ | refine zan rfl ?_ | refine zaa 0 rfl rfl rfl ?_ | refine zaa 1 rfl rfl rfl ?_ | refine zaa 2 rfl rfl rfl ?_ | refine zaa 3 rfl rfl rfl ?_ | refine zaa 4 rfl rfl rfl ?_ | refine zaa 5 rfl rfl rfl ?_ | refine zab 0 rfl rfl rfl ?_ | refine zab 1 rfl rfl rfl ?_ | refine zab 2 rfl rfl rfl ?_ | refine zab 3 rfl rfl rfl ?_ | refine zab 4 rfl rfl rfl ?_ | refine zab 5 rfl rfl rfl ?_ | refine zah [] haw rfl rfl rfl sub_nil rfl ?_ | refine zce rfl ?_ | refine zao rfl ?_ | refine zan rfl ?_ | refine zbc rfl rfl (by omega) ?_ | refine zbd rfl rfl (by omega) ?_ | refine zbe rfl rfl (by omega) ?_ | refine zbf rfl rfl (by omega) ?_ | refine zbg rfl rfl (by omega) ?_ | refine zbh rfl rfl (by omega) ?_ | refine zbi rfl rfl (by omega) ?_ | refine zbj rfl rfl (by omega) ?_ | refine zbk rfl rfl (by omega) ?_ | refine zbl rfl rfl (by omega) ?_ | refine reg_addZ rfl rfl (by omega) ?_ | refine zau rfl rfl (by omega) ?_ | refine zbo rfl rfl ?_ | refine zbp rfl rfl ?_ | refine zbq rfl rfl ?_ | refine zbr rfl rfl ?_ | refine zbs rfl rfl ?_ | refine zay rfl rfl (by omega) ?_ | refine zaz rfl rfl ?_ | refine zbb rfl rfl ?_ | refine zba rfl rfl ?_ | refine zby rfl ?_ | refine zbx rfl ?_ | refine zbu rfl ?_ | refine zbv rfl ?_ | refine zbw rfl rfl rfl ?_ | refine zae 0 rfl rfl rfl rfl rfl rfl rfl ?_ | refine zae 1 rfl rfl rfl rfl rfl rfl rfl ?_ | refine zae 2 rfl rfl rfl rfl rfl rfl rfl ?_ | refine zae 3 rfl rfl rfl rfl rfl rfl rfl ?_ | refine zae 4 rfl rfl rfl rfl rfl rfl rfl ?_ | refine zae 5 rfl rfl rfl rfl rfl rfl rfl ?_ | refine zas rfl rfl (by omega) ?_ | refine zat rfl rfl (by omega) ?_ | refine zaq (cs := [_, _]) rfl (fun nb => ?_) | refine zar (fun nb => ?_) | refine zbz rfl (by omega) ?_ | refine zca rfl ?_) | refine zch ?_ | refine zci rfl ?_ | refine zcj rfl ?_)
      exact ret_tmp1 rfl ⟨rfl, rfl⟩
end Go.Proofs.YtjapaghhgpaldaaGreatDoor

