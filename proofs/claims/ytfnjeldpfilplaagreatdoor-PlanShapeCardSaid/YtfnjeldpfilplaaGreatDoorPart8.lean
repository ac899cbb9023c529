import Derived.Test.YtfnjeldpfilplaaGreatDoorPart5
import Derived.Test.YtfnjeldpfilplaaGreatDoorPart7
import Derived.Test.YtfnjeldpfilplaaGreatDoorKit
import Derived.Test.YtfnjeldpfilplaaGreatDoorPart6
/- Lemmas and walks for the claims of this seat (own work): Pt1 Yp2 Yp3. -/
namespace Go.Proofs.YtfnjeldpfilplaaGreatDoor
open Go.Vc Sim
theorem u8_digit {n : Nat} (h : n < 10) : ([.int .u8 ((48 + n : Nat) : Int)] : List Value) = Lib.byteCells [UInt8.ofNat (48 + n)] := by
  unfold Lib.byteCells
  rw [List.map_cons, List.map_nil]
  have : (UInt8.ofNat (48 + n)).toNat = 48 + n := by
    exact UInt8.toNat_ofNat_of_lt (Nat.lt_trans (by omega : 48 + n < 58) (by decide))
  rw [this]
theorem tens_spec (w0 : World) : ∀ (k n : Nat), n < 10 ^ k → n < 18446744073709551616 → FnE PP w0 [] 18 [.int .u64 (n : Nat)] [] (.string (digB n)) [] := by
  intro k
  induction k with
  | zero =>
    intro n h _
    have hn : n = 0 := by simpa using h
    subst hn
    rw [digB_small (by decide)]
    refine fn_of_run en18 fn18 rfl rfl rfl ?_
    repeat' (first | refine zck ?_ | refine zcp (by kernel_rfl) ?_ | (refine zap rfl ?_; first | refine reg_addE rfl rfl (r := 48) rfl ?_ | refine reg_convE rfl (r := 48) rfl ?_ | refine reg_bytesStr 0 [48] rfl rfl rfl rfl rfl ?_ | refine reg_buildSlice rfl rfl rfl rfl rfl rfl (fun nb => ?_) | refine zan rfl ?_ | refine zan rfl ?_ | refine zbg rfl rfl (by omega) ?_) | refine zch ?_ | refine zci rfl ?_)
    refine run_take [] rfl ?_
    exact ret_tmp1 rfl ⟨rfl, rfl⟩
  | succ k ih =>
    intro n h hb
    by_cases hn : n < 10
    · rw [digB_small hn]
      refine fn_of_run en18 fn18 rfl rfl rfl ?_
      repeat' (first | refine zck ?_ | refine zcp (by kernel_rfl) ?_ | (refine zap rfl ?_; first | refine reg_addE rfl rfl (r := ((48 + n : Nat) : Int)) (by rw [wrap_u64 (by omega)]; omega) ?_ | refine reg_convE rfl (r := ((48 + n : Nat) : Int)) (wrap_u8 (by omega)) ?_ | refine reg_bytesStr 0 [UInt8.ofNat (48 + n)] rfl rfl rfl rfl (u8_digit hn) ?_ | refine reg_buildSlice rfl rfl rfl rfl rfl rfl (fun nb => ?_) | refine zan rfl ?_ | refine zan rfl ?_ | refine zbg rfl rfl (by omega) ?_) | refine zch ?_ | refine zci rfl ?_)
      refine run_take [] rfl ?_
      exact ret_tmp1 rfl ⟨rfl, rfl⟩
    · rw [digB_big hn]
      have h1 := ih (n / 10) (by rw [Nat.pow_succ] at h; omega) (by omega)
      have h2 := ih (n % 10) (by
        rcases k with _ | k
        · simp at h; omega
        · have : 1 ≤ 10 ^ k := Nat.one_le_pow _ _ (by decide)
          rw [Nat.pow_succ]; omega) (by omega)
      have l1 := digB_size (n / 10) (by omega)
      have l2 := digB_size (n % 10) (by omega)
      refine fn_of_run en18 fn18 rfl rfl rfl ?_
      repeat' (first | refine zck ?_ | refine zcp (by kernel_rfl) ?_ | refine zcm ?_ | (refine zap rfl ?_; first | refine reg_quoE rfl rfl (by decide) (r := ((n / 10 : Nat) : Int)) (by rw [Int.tdiv_eq_ediv_of_nonneg (by omega), wrap_u64 (by omega)]; omega) ?_ | refine reg_remE rfl rfl (by decide) (r := ((n % 10 : Nat) : Int)) (by rw [Int.tmod_eq_emod_of_nonneg (by omega)]; omega) ?_ | refine reg_addS rfl rfl (by omega) ?_ | refine zan rfl ?_ | refine zan rfl ?_ | refine zah [] h1 rfl rfl rfl sub_nil rfl ?_ | refine zah [] h2 rfl rfl rfl sub_nil rfl ?_ | refine zbh rfl rfl (by omega) ?_) | refine zch ?_ | refine zcj rfl ?_)
      exact ret_tmp1 rfl ⟨rfl, rfl⟩
theorem tens_at (w0 : World) (n : Nat) (hb : n < 18446744073709551616) : FnE PP w0 [] 18 [.int .u64 (n : Nat)] [] (.string (digB n)) [] :=
  tens_spec w0 20 n (Nat.lt_trans hb (by decide)) hb
set_option maxHeartbeats 4000000 in
theorem line_spec (w0 : World) (sh : Shared) (v : Value) (x : PL) (hx : x.ok) (hv : RdSl w0 sh encY 1 v x.stores) :
    FnE PP w0 sh 7 [.string x.oper, .int .i64 x.cls, v, .int .i64 x.calls] [] (.string (lineB x)) [] := by
  obtain ⟨a, c, rfl, hc, _⟩ := id hv
  obtain ⟨ho, hl, hs, hn⟩ := id hx
  have hns := numB_size x.calls hn
  have hws := wordB_size x.cls
  have hhs := headB_size hx
  refine fn_of_run en7 fn7 rfl rfl rfl ?_
  repeat (first | refine zck ?_ | refine zcl ?_ | refine zcm ?_ | refine zcn ?_)
  first | refine zcp (by kernel_rfl) ?_ | refine zcq PP_mixed (by kernel_rfl) (by kernel_rfl) ?_
  repeat' (refine zap rfl ?_; first | refine zan rfl ?_)
  all_goals refine zch ?_
  all_goals repeat (first | refine zck ?_ | refine zcl ?_ | refine zcm ?_ | refine zcn ?_)
  repeat (first | refine zck ?_ | refine zcl ?_ | refine zcm ?_ | refine zcn ?_)
  first | refine zcp (by kernel_rfl) ?_ | refine zcq PP_mixed (by kernel_rfl) (by kernel_rfl) ?_
  repeat' (refine zap rfl ?_; first | refine zan rfl ?_)
  all_goals refine zch ?_
  all_goals repeat (first | refine zck ?_ | refine zcl ?_ | refine zcm ?_ | refine zcn ?_)
  repeat (first | refine zck ?_ | refine zcl ?_ | refine zcm ?_ | refine zcn ?_)
  first | refine zcp (by kernel_rfl) ?_ | refine zcq PP_mixed (by kernel_rfl) (by kernel_rfl) ?_
  repeat' (refine zap rfl ?_; first | refine zan rfl ?_ | refine zbo rfl rfl ?_)
  all_goals refine zch ?_
  all_goals repeat (first | refine zck ?_ | refine zcl ?_ | refine zcm ?_ | refine zcn ?_)
  refine run_join (S := Unit) (fun _ => [(0, .string x.oper), (1, .int .i64 x.cls), (2, .slice a x.stores.length c), (3, .int .i64 x.calls), (9, .string (if x.cls = 0 then bs [112, 117, 114, 101] else bs [103, 101, 110, 101, 114, 97, 108]))]) (fun _ Γ => Γ = []) ?_ ?_
  · refine run_cond rfl (fun h0 => ?_) (fun h0 => ?_)
    · repeat' (first | refine zcp (by kernel_rfl) ?_ | (refine zap rfl ?_; first | refine zan rfl ?_) | refine zch ?_)
      refine cut_end ⟨rfl, (), ⟨rfl, rfl, rfl, rfl, by rw [if_pos h0]; rfl, trivial⟩, rfl⟩
    · repeat' (first | refine zcm ?_ | (refine zap rfl ?_; first | refine zan rfl ?_) | refine zch ?_)
      refine cut_end ⟨rfl, (), ⟨rfl, rfl, rfl, rfl, by rw [if_neg h0]; rfl, trivial⟩, rfl⟩
  rintro _ Γ junk rfl
  repeat (first | refine zck ?_ | refine zcl ?_ | refine zcm ?_ | refine zcn ?_)
  first | refine zcp (by kernel_rfl) ?_ | refine zcq PP_mixed (by kernel_rfl) (by kernel_rfl) ?_
  repeat' (refine zap rfl ?_; first | refine zan rfl ?_ | refine zbo rfl rfl ?_)
  all_goals refine zch ?_
  all_goals repeat (first | refine zck ?_ | refine zcl ?_ | refine zcm ?_ | refine zcn ?_)
  refine run_join (S := Unit) (fun _ => [(0, .string x.oper), (1, .int .i64 x.cls), (2, .slice a x.stores.length c), (3, .int .i64 x.calls), (9, .string (wordB x.cls))]) (fun _ Γ => Γ = []) ?_ ?_
  · refine run_cond rfl (fun h1 => ?_) (fun h1 => ?_)
    · repeat' (first | refine zcp (by kernel_rfl) ?_ | (refine zap rfl ?_; first | refine zan rfl ?_) | refine zch ?_)
      refine cut_end ⟨rfl, (), ⟨rfl, rfl, rfl, rfl, Eq.trans (b := Value.string (bs [114, 101, 97, 100, 105, 110, 103])) rfl (by unfold wordB; rw [if_neg (by omega), if_pos h1]), trivial⟩, rfl⟩
    · repeat' (first | refine zcm ?_ | (refine zap rfl ?_; first | refine zan rfl ?_) | refine zch ?_)
      refine cut_end ⟨rfl, (), ⟨rfl, rfl, rfl, rfl, ?_, trivial⟩, rfl⟩
      unfold wordB
      rw [if_neg h1]
      rfl
  rintro _ Γ junk rfl
  repeat (first | refine zck ?_ | refine zcl ?_ | refine zcm ?_ | refine zcn ?_)
  first | refine zcp (by kernel_rfl) ?_ | refine zcq PP_mixed (by kernel_rfl) (by kernel_rfl) ?_
  repeat' (refine zap rfl ?_; first | refine zan rfl ?_)
  all_goals refine zch ?_
  all_goals repeat (first | refine zck ?_ | refine zcl ?_ | refine zcm ?_ | refine zcn ?_)
  repeat (first | refine zck ?_ | refine zcl ?_ | refine zcm ?_ | refine zcn ?_)
  first | refine zcp (by kernel_rfl) ?_ | refine zcq PP_mixed (by kernel_rfl) (by kernel_rfl) ?_
  repeat' (refine zap rfl ?_; first | refine zan rfl ?_ | refine zbq rfl rfl ?_)
  all_goals refine zch ?_
  all_goals repeat (first | refine zck ?_ | refine zcl ?_ | refine zcm ?_ | refine zcn ?_)
  refine run_join (S := Unit) (fun _ => [(0, .string x.oper), (2, .slice a x.stores.length c), (9, .string (wordB x.cls)), (10, .string (numB x.calls))]) (fun _ Γ => Γ = []) ?_ ?_
  · refine run_cond rfl (fun h1 => ?_) (fun h1 => ?_)
    · have ht := tens_at w0 x.calls.natAbs (by omega)
      have hd := digB_size x.calls.natAbs (by omega)
      have hd2 : (bs [45]).size + (digB x.calls.natAbs).size ≤ 9223372036854775807 := by rw [bs_size]; simp; omega
      repeat' (first | refine zcp (by kernel_rfl) ?_ | (refine zap rfl ?_; first | refine reg_convE rfl (r := x.calls + 18446744073709551616) (by rw [IntKind.wrap_u64]; omega) ?_ | refine reg_subE rfl rfl (r := ((x.calls.natAbs : Nat) : Int)) (by rw [IntKind.wrap_u64]; omega) ?_ | refine reg_addS rfl rfl hd2 ?_ | refine zan rfl ?_ | refine zan rfl ?_ | refine zah [] ht rfl rfl rfl sub_nil rfl ?_) | refine zch ?_)
      refine cut_end ⟨rfl, (), ⟨rfl, rfl, rfl, ?_, trivial⟩, rfl⟩
      rw [numB_neg h1]; rfl
    · have ht := tens_at w0 x.calls.toNat (by omega)
      repeat' (first | refine zcp (by kernel_rfl) ?_ | (refine zap rfl ?_; first | refine reg_convE rfl (r := ((x.calls.toNat : Nat) : Int)) (by rw [IntKind.wrap_u64]; omega) ?_ | refine zan rfl ?_ | refine zan rfl ?_ | refine zah [] ht rfl rfl rfl sub_nil rfl ?_) | refine zch ?_)
      refine cut_end ⟨rfl, (), ⟨rfl, rfl, rfl, ?_, trivial⟩, rfl⟩
      rw [numB_pos h1]; rfl
  rintro _ Γ junk rfl
  have q1 : x.oper.size + (bs [32]).size ≤ 9223372036854775807 := by rw [bs_size]; simp; omega
  have q2 : (x.oper ++ bs [32]).size + (wordB x.cls).size ≤ 9223372036854775807 := by rw [ba_size, bs_size]; simp; omega
  have q3 : (x.oper ++ bs [32] ++ wordB x.cls).size + (bs [32]).size ≤ 9223372036854775807 := by rw [ba_size, ba_size, bs_size]; simp; omega
  have q4 : (x.oper ++ bs [32] ++ wordB x.cls ++ bs [32]).size + (numB x.calls).size ≤ 9223372036854775807 := by rw [ba_size, ba_size, ba_size, bs_size]; simp; omega
  repeat (first | refine zck ?_ | refine zcl ?_ | refine zcm ?_ | refine zcn ?_)
  first | refine zcp (by kernel_rfl) ?_ | refine zcq PP_mixed (by kernel_rfl) (by kernel_rfl) ?_
  repeat' (refine zap rfl ?_; first | refine reg_addS rfl rfl q1 ?_ | refine reg_addS rfl rfl q2 ?_ | refine reg_addS rfl rfl q3 ?_ | refine reg_addS rfl rfl q4 ?_ | refine zan rfl ?_ | refine zan rfl ?_)
  all_goals refine zch ?_
  all_goals repeat (first | refine zck ?_ | refine zcl ?_ | refine zcm ?_ | refine zcn ?_)
  repeat (first | refine zck ?_ | refine zcl ?_ | refine zcm ?_ | refine zcn ?_)
  first | refine zcp (by kernel_rfl) ?_ | refine zcq PP_mixed (by kernel_rfl) (by kernel_rfl) ?_
  repeat' (refine zap rfl ?_; first | refine zan rfl ?_)
  all_goals refine zch ?_
  all_goals repeat (first | refine zck ?_ | refine zcl ?_ | refine zcm ?_ | refine zcn ?_)
  refine run_loop (S := Nat) (fun j => [(2, .slice a x.stores.length c), (11, .string (tailB (x.stores.take j) (headB x))), (12, .int .i64 (j : Int))]) (fun j Γ => Γ = [] ∧ j ≤ x.stores.length) (fun j => x.stores.length - j) 0
    ⟨rfl, rfl, rfl, trivial⟩ ⟨rfl, Nat.zero_le _⟩ ?_
  rintro j Γ junk ⟨rfl, hj⟩
  have ts := tailB_size (x.stores.take j) (headB x) (fun s h => hs s (List.mem_of_mem_take h))
  have tl : (x.stores.take j).length ≤ 30 := by rw [List.length_take]; omega
  by_cases hj2 : j < x.stores.length
  · obtain ⟨s, hsj⟩ : ∃ s, x.stores[j]? = some s := ⟨_, List.getElem?_eq_getElem hj2⟩
    obtain ⟨b, off, cc, T, fr, rfl, e2, e3, e4⟩ := hv.cells hsj
    have hss := hs s (List.mem_of_getElem? hsj)
    have r1 : (tailB (x.stores.take j) (headB x)).size + (bs [32]).size ≤ 9223372036854775807 := by rw [bs_size]; simp; omega
    have r2 : (tailB (x.stores.take j) (headB x) ++ bs [32]).size + s.size ≤ 9223372036854775807 := by rw [ba_size, bs_size]; simp; omega
    repeat' (first | refine zck ?_ | refine zcp (by kernel_rfl) ?_ | refine zcm ?_ | refine zcl ?_ | refine zcn ?_ | (refine zap rfl ?_; first | refine reg_addS rfl rfl r1 ?_ | refine reg_addS rfl rfl r2 ?_ | refine zad rfl e2 (e4 0 _ rfl _ (by simp)) ?_ | refine zan rfl ?_ | refine zan rfl ?_ | refine zce rfl ?_ | refine zbg rfl rfl (by omega) ?_ | refine zau rfl rfl (by omega) ?_ | refine zas rfl rfl (by omega) ?_) | refine zch ?_ | refine zci rfl ?_)
    refine cut_end ⟨rfl, j + 1, ⟨rfl, ?_, int_eq (by omega), trivial⟩, ⟨rfl, by omega⟩, by omega⟩
    rw [tailB_next hsj]; rfl
  · have hje : j = x.stores.length := by omega
    subst hje
    rw [List.take_of_length_le (Nat.le_refl _)] at ts ⊢
    have r1 : (tailB x.stores (headB x)).size + (bs [10]).size ≤ 9223372036854775807 := by rw [bs_size]; simp; omega
    repeat (first | refine zck ?_ | refine zcl ?_ | refine zcm ?_ | refine zcn ?_)
    first | refine zcp (by kernel_rfl) ?_ | refine zcq PP_mixed (by kernel_rfl) (by kernel_rfl) ?_
    repeat' (refine zap rfl ?_; first | refine zan rfl ?_ | refine zce rfl ?_ | refine zbh rfl rfl (by omega) ?_)
    all_goals refine zch ?_
    all_goals repeat (first | refine zck ?_ | refine zcl ?_ | refine zcm ?_ | refine zcn ?_)
    refine zcj rfl ?_
    refine cut_exit rfl rfl ?_
    repeat' (first | refine zck ?_ | refine zcp (by kernel_rfl) ?_ | (refine zap rfl ?_; first | refine reg_addS rfl rfl r1 ?_ | refine zan rfl ?_ | refine zan rfl ?_) | refine zch ?_)
    exact ret_tmp1 rfl ⟨rfl, rfl⟩
end Go.Proofs.YtfnjeldpfilplaaGreatDoor

namespace Go.Proofs.YtfnjeldpfilplaaGreatDoor
open Go.Vc Sim
abbrev fnA (xc : Nat) : Value := .func (.func 132) #[] #[.pointer (some ⟨xc, 0, none⟩)]
abbrev fnEa (xc : Nat) : Value := .func (.func 133) #[] #[.pointer (some ⟨xc, 0, none⟩)]
theorem rulesTy_spec (w0 : World) : Vc.Fn PP w0 [] 101 [] [] (fun v Γ => ∃ n1 n2 n3 n4 n5, v = .agg (List.toArray [fnA n1, fnA n2, .func (.func 119) #[] #[], fnEa n3, fnEa n4, .func (.func 121) #[] #[], .func (.func 122) #[] #[], fnEa n5])
    ∧ Γ = [pt (bxI n1 1).1 (bxI n1 1).2, pt (bxI n2 2).1 (bxI n2 2).2, pt (bxI n3 2).1 (bxI n3 2).2, pt (bxI n4 1).1 (bxI n4 1).2, pt (bxI n5 1).1 (bxI n5 1).2]) := by
  refine fn_of_run en101 fn101 rfl rfl rfl ?_
  repeat (first | refine zck ?_ | refine zcl ?_ | refine zcm ?_ | refine zcn ?_)
  first | refine zcp (by kernel_rfl) ?_ | refine zcq PP_mixed (by kernel_rfl) (by kernel_rfl) ?_
  repeat' (refine zap rfl ?_; first | refine zar (fun nb => ?_))
  all_goals refine zch ?_
  all_goals repeat (first | refine zck ?_ | refine zcl ?_ | refine zcm ?_ | refine zcn ?_)
  repeat (first | refine zck ?_ | refine zcl ?_ | refine zcm ?_ | refine zcn ?_)
  first | refine zcp (by kernel_rfl) ?_ | refine zcq PP_mixed (by kernel_rfl) (by kernel_rfl) ?_
  repeat' (refine zap rfl ?_; first | refine zae 5 rfl rfl rfl rfl rfl rfl rfl ?_ | (refine zai [] (always_spec w0 _) rfl rfl rfl sub_nil ?_; rintro v Γ ⟨xc, rfl, rfl⟩) | (refine zai [] (each_spec w0 _) rfl rfl rfl sub_nil ?_; rintro v Γ ⟨xc, rfl, rfl⟩) | refine reg_buildA rfl ?_)
  all_goals refine zch ?_
  all_goals repeat (first | refine zck ?_ | refine zcl ?_ | refine zcm ?_ | refine zcn ?_)
  refine run_take [4, 3, 2, 1, 0, 0] rfl ?_
  exact run_ret (leaves_nil (ends_take [0, 0, 0, 0, 0] rfl (ends_one rfl (resOk_pt 5 rfl rfl rfl) ⟨rfl, _, _, _, _, _, rfl, rfl⟩)))
structure TyR (w0 : World) (sh : Shared) (mv ms : Nat) (vs : TV) (ks : List (ByteArray × ByteArray)) : Prop where
  v : RdM w0 sh mv (tvS vs)
  s : RdM w0 sh ms (kS ks)
theorem TyR.mono {w0 : World} {sh sh' : Shared} {mv ms : Nat} {vs : TV} {ks : List (ByteArray × ByteArray)} (h : TyR w0 sh mv ms vs ks) (hs : ∀ p ∈ sh, p ∈ sh') : TyR w0 sh' mv ms vs ks := ⟨h.v.mono hs, h.s.mono hs⟩
def OfS (w0 : World) (vs : TV) (ks : List (ByteArray × ByteArray)) (n : Nat) : Prop := ∀ (sh : Shared) (mv ms : Nat) (e : PE) (va vo : Value), e.size ≤ n → TyR w0 sh mv ms vs ks → RdEl w0 sh va e.args → RdEl w0 sh vo e.or →
  FnE PP w0 sh 89 [tyrV mv ms, .agg (List.toArray (peC e.kind e.num e.name e.meth va vo))] [] (resT (ofE (envM vs ks) e)) []
def callR (E : TEnv) (e : PE) (ts : List Int) : Int × Int := if callT E e ts ≠ 0 then (0, callT E e ts) else if ofOr E e.or ≠ 0 then (0, ofOr E e.or) else (1, 0)
set_option maxHeartbeats 8000000 in
theorem call_of (w0 : World) (vs : TV) (ks : List (ByteArray × ByteArray)) (n : Nat) (hn : n ≤ 100000) (hO : OfS w0 vs ks n) (sh : Shared) (mv ms : Nat) (e : PE) (va vo : Value) (av : Option Addr) (cv : Nat) (ts : List Int) (hs : e.size ≤ n + 1) (hT : TyR w0 sh mv ms vs ks) (_ : RdEl w0 sh va e.args) (ho : RdEl w0 sh vo e.or) (hl : RdSl w0 sh encI 1 (.slice av ts.length cv) ts) (hb : ts.length ≤ 1000000) :
    FnE PP w0 sh 122 [tyrV mv ms, .agg (List.toArray (peC e.kind e.num e.name e.meth va vo)), .slice av ts.length cv] [] (resT (callR (envM vs ks) e ts)) [] := by
  have hlk := lookK_S e.name ks
  have hot := other_spec w0 sh _ ts 1 hl (by omega)
  have hsz := e.size_eq
  have lo := PE.sizeL_len e.or
  obtain ⟨a2, c2, hvo, _⟩ := ho.len
  subst hvo
  have hsb : ∀ (a b : Nat × Obj), ∀ p ∈ sh, p ∈ a :: b :: sh := fun a b p hp => .tail _ (.tail _ hp)
  obtain ⟨r, hr⟩ : ∃ r, callR (envM vs ks) e ts = r := ⟨_, rfl⟩
  rw [hr]
  unfold callR callT at hr
  rw [show (envM vs ks).stores e.name = lookK ks e.name from rfl] at hr
  refine fn_of_run en122 fn122 rfl rfl rfl ?_
  repeat (first | refine zck ?_ | refine zcl ?_ | refine zcm ?_ | refine zcn ?_)
  first | refine zcp (by kernel_rfl) ?_ | refine zcq PP_mixed (by kernel_rfl) (by kernel_rfl) ?_
  repeat' (refine zap rfl ?_; first | refine zaq (cs := [_, _]) rfl (fun tt => ?_) | refine zaq (cs := [_, _, _, _, _, _]) rfl (fun te => ?_) | refine zan rfl ?_)
  all_goals refine zch ?_
  all_goals repeat (first | refine zck ?_ | refine zcl ?_ | refine zcm ?_ | refine zcn ?_)
  refine run_share [0] rfl ?_
  refine run_share [0] rfl ?_
  cases hK : lookK ks e.name with
  | none =>
    rw [hK] at hlk hr
    have hr : ((0 : Int), (16 : Int)) = r := hr
    subst hr
    repeat (first | refine zck ?_ | refine zcl ?_ | refine zcm ?_ | refine zcn ?_)
    first | refine zcp (by kernel_rfl) ?_ | refine zcq PP_mixed (by kernel_rfl) (by kernel_rfl) ?_
    repeat' (refine zap rfl ?_; first | refine reg_lookupR (v := .tuple #[.string ⟨#[]⟩, .bool false]) (hT.s.mono (hsb _ _)) rfl rfl (by rw [hlk]; rfl) ?_ | refine zan rfl ?_ | refine zan rfl ?_ | refine zaa 0 rfl rfl rfl ?_ | refine zaa 1 rfl rfl rfl ?_ | refine zao rfl ?_ | refine zan rfl ?_)
    all_goals refine zch ?_
    all_goals repeat (first | refine zck ?_ | refine zcl ?_ | refine zcm ?_ | refine zcn ?_)
    repeat' (first | refine zck ?_ | refine zcp (by kernel_rfl) ?_ | (refine zap rfl ?_; first | refine zan rfl ?_ | refine zan rfl ?_ | refine zbx rfl ?_) | refine zch ?_ | refine zci rfl ?_)
    exact ret_tmp2 rfl ⟨rfl, rfl⟩
  | some nm =>
    rw [hK] at hlk hr
    have hkd := kind_spec w0 nm
    dsimp only at hr
    repeat (first | refine zck ?_ | refine zcl ?_ | refine zcm ?_ | refine zcn ?_)
    first | refine zcp (by kernel_rfl) ?_ | refine zcq PP_mixed (by kernel_rfl) (by kernel_rfl) ?_
    repeat' (refine zap rfl ?_; first | refine reg_lookupR (v := .tuple #[.string nm, .bool true]) (hT.s.mono (hsb _ _)) rfl rfl (by rw [hlk]; rfl) ?_ | refine zan rfl ?_ | refine zan rfl ?_ | refine zaa 0 rfl rfl rfl ?_ | refine zaa 1 rfl rfl rfl ?_ | refine zao rfl ?_ | refine zan rfl ?_)
    all_goals refine zch ?_
    all_goals repeat (first | refine zck ?_ | refine zcl ?_ | refine zcm ?_ | refine zcn ?_)
    repeat (first | refine zck ?_ | refine zcl ?_ | refine zcm ?_ | refine zcn ?_)
    first | refine zcp (by kernel_rfl) ?_ | refine zcq PP_mixed (by kernel_rfl) (by kernel_rfl) ?_
    repeat' (refine zap rfl ?_; first | refine zan rfl ?_ | refine zbx rfl ?_)
    all_goals refine zch ?_
    all_goals repeat (first | refine zck ?_ | refine zcl ?_ | refine zcm ?_ | refine zcn ?_)
    refine zcj rfl ?_
    cases hKi : ctKind nm with
    | none =>
      rw [hKi] at hkd
      simp only [hKi] at hr
      dsimp only [Option.getD, Option.isSome] at hkd
      have hr : ((0 : Int), (2 : Int)) = r := hr
      subst hr
      repeat' (first | refine zck ?_ | refine zcp (by kernel_rfl) ?_ | refine zcm ?_ | (refine zap rfl ?_; first | refine zan rfl ?_ | refine zan rfl ?_ | refine zah [] hkd rfl rfl rfl sub_nil rfl ?_ | refine zan rfl ?_ | refine zbx rfl ?_) | refine zch ?_ | refine zci rfl ?_)
      exact ret_tmp2 rfl ⟨rfl, rfl⟩
    | some i =>
      rw [hKi] at hkd
      simp only [hKi] at hr
      dsimp only [Option.getD, Option.isSome] at hkd
      have hfd := findC_spec w0 (i : Int) e.meth
      cases hF : ctFind (i : Int) e.meth with
      | none =>
        rw [hF] at hfd
        simp only [hF] at hr
        have hr : ((0 : Int), (14 : Int)) = r := hr
        subst hr
        unfold findCV at hfd
        dsimp only at hfd
        repeat (first | refine zck ?_ | refine zcl ?_ | refine zcm ?_ | refine zcn ?_)
        first | refine zcp (by kernel_rfl) ?_ | refine zcq PP_mixed (by kernel_rfl) (by kernel_rfl) ?_
        repeat' (refine zap rfl ?_; first | refine zan rfl ?_ | refine zan rfl ?_ | refine zah [] hkd rfl rfl rfl sub_nil rfl ?_ | refine zan rfl ?_)
        all_goals refine zch ?_
        all_goals repeat (first | refine zck ?_ | refine zcl ?_ | refine zcm ?_ | refine zcn ?_)
        repeat (first | refine zck ?_ | refine zcl ?_ | refine zcm ?_ | refine zcn ?_)
        first | refine zcp (by kernel_rfl) ?_ | refine zcq PP_mixed (by kernel_rfl) (by kernel_rfl) ?_
        repeat' (refine zap rfl ?_; first | refine zan rfl ?_ | refine zbx rfl ?_)
        all_goals refine zch ?_
        all_goals repeat (first | refine zck ?_ | refine zcl ?_ | refine zcm ?_ | refine zcn ?_)
        refine zcj rfl ?_
        repeat' (first | refine zck ?_ | refine zcp (by kernel_rfl) ?_ | refine zcm ?_ | refine zcl ?_ | (refine zap rfl ?_; first | refine zan rfl ?_ | refine zan rfl ?_ | refine zaa 0 rfl rfl rfl ?_ | refine zah [] hfd rfl rfl rfl sub_nil rfl ?_ | refine zao rfl ?_ | refine zan rfl ?_ | refine zbx rfl ?_ | refine zae 0 rfl rfl rfl rfl rfl rfl rfl ?_ | refine zar (fun nb => ?_)) | refine zch ?_ | refine zci rfl ?_)
        refine run_take [] rfl ?_
        exact ret_tmp2 rfl ⟨rfl, rfl⟩
      | some m =>
        rw [hF] at hfd
        simp only [hF] at hr
        unfold findCV at hfd
        dsimp only at hfd
        repeat (first | refine zck ?_ | refine zcl ?_ | refine zcm ?_ | refine zcn ?_)
        first | refine zcp (by kernel_rfl) ?_ | refine zcq PP_mixed (by kernel_rfl) (by kernel_rfl) ?_
        repeat' (refine zap rfl ?_; first | refine zan rfl ?_ | refine zan rfl ?_ | refine zah [] hkd rfl rfl rfl sub_nil rfl ?_ | refine zan rfl ?_)
        all_goals refine zch ?_
        all_goals repeat (first | refine zck ?_ | refine zcl ?_ | refine zcm ?_ | refine zcn ?_)
        repeat (first | refine zck ?_ | refine zcl ?_ | refine zcm ?_ | refine zcn ?_)
        first | refine zcp (by kernel_rfl) ?_ | refine zcq PP_mixed (by kernel_rfl) (by kernel_rfl) ?_
        repeat' (refine zap rfl ?_; first | refine zan rfl ?_ | refine zbx rfl ?_)
        all_goals refine zch ?_
        all_goals repeat (first | refine zck ?_ | refine zcl ?_ | refine zcm ?_ | refine zcn ?_)
        refine zcj rfl ?_
        repeat (first | refine zck ?_ | refine zcl ?_ | refine zcm ?_ | refine zcn ?_)
        first | refine zcp (by kernel_rfl) ?_ | refine zcq PP_mixed (by kernel_rfl) (by kernel_rfl) ?_
        repeat' (refine zap rfl ?_; first | refine zar (fun t11 => ?_) | refine zan rfl ?_ | refine zan rfl ?_ | refine zaa 0 rfl rfl rfl ?_ | refine zah [] hfd rfl rfl rfl sub_nil rfl ?_ | refine zao rfl ?_ | refine zan rfl ?_ | refine zae 0 rfl rfl rfl rfl rfl rfl rfl ?_)
        all_goals refine zch ?_
        all_goals repeat (first | refine zck ?_ | refine zcl ?_ | refine zcm ?_ | refine zcn ?_)
        refine run_share [0] rfl ?_
        repeat (first | refine zck ?_ | refine zcl ?_ | refine zcm ?_ | refine zcn ?_)
        first | refine zcp (by kernel_rfl) ?_ | refine zcq PP_mixed (by kernel_rfl) (by kernel_rfl) ?_
        repeat' (refine zap rfl ?_; first | refine zan rfl ?_ | refine zan rfl ?_ | refine zbx rfl ?_)
        all_goals refine zch ?_
        all_goals repeat (first | refine zck ?_ | refine zcl ?_ | refine zcm ?_ | refine zcn ?_)
        refine zcj rfl ?_
        by_cases hm : m.2.1 = ts.length
        rotate_left
        · rw [if_pos hm, if_pos (by decide)] at hr
          subst hr
          repeat (first | refine zck ?_ | refine zcl ?_ | refine zcm ?_ | refine zcn ?_)
          first | refine zcp (by kernel_rfl) ?_ | refine zcq PP_mixed (by kernel_rfl) (by kernel_rfl) ?_
          repeat' (refine zap rfl ?_; first | refine zan rfl ?_ | refine zan rfl ?_ | refine zaa 0 rfl rfl rfl ?_ | refine zce rfl ?_ | refine zao rfl ?_ | refine zbe rfl rfl (by omega) ?_)
          all_goals refine zch ?_
          all_goals repeat (first | refine zck ?_ | refine zcl ?_ | refine zcm ?_ | refine zcn ?_)
          refine zci rfl ?_
          repeat' (first | refine zck ?_ | refine zcp (by kernel_rfl) ?_ | (refine zap rfl ?_; first | refine zan rfl ?_) | refine zch ?_)
          exact ret_tmp2 rfl ⟨rfl, rfl⟩
        rw [if_neg (show ¬ (m.2.1 ≠ (ts.length : Int)) from fun q => q hm)] at hr
        repeat (first | refine zck ?_ | refine zcl ?_ | refine zcm ?_ | refine zcn ?_)
        first | refine zcp (by kernel_rfl) ?_ | refine zcq PP_mixed (by kernel_rfl) (by kernel_rfl) ?_
        repeat' (refine zap rfl ?_; first | refine zan rfl ?_ | refine zan rfl ?_ | refine zaa 0 rfl rfl rfl ?_ | refine zce rfl ?_ | refine zao rfl ?_ | refine zbf rfl rfl (by omega) ?_)
        all_goals refine zch ?_
        all_goals repeat (first | refine zck ?_ | refine zcl ?_ | refine zcm ?_ | refine zcn ?_)
        refine zcj rfl ?_
        cases hq : anyNe ts 1 with
        | true =>
          rw [hq] at hr
          have hr : ((0 : Int), (17 : Int)) = r := hr
          subst hr
          rw [hq] at hot
          repeat (first | refine zck ?_ | refine zcl ?_ | refine zcm ?_ | refine zcn ?_)
          first | refine zcp (by kernel_rfl) ?_ | refine zcq PP_mixed (by kernel_rfl) (by kernel_rfl) ?_
          repeat' (refine zap rfl ?_; first | refine zan rfl ?_ | refine zan rfl ?_ | refine zah [] hot rfl rfl rfl (fun p hp => .tail _ (.tail _ (.tail _ hp))) rfl ?_)
          all_goals refine zch ?_
          all_goals repeat (first | refine zck ?_ | refine zcl ?_ | refine zcm ?_ | refine zcn ?_)
          refine zci rfl ?_
          repeat' (first | refine zck ?_ | refine zcp (by kernel_rfl) ?_ | (refine zap rfl ?_; first | refine zan rfl ?_) | refine zch ?_)
          exact ret_tmp2 rfl ⟨rfl, rfl⟩
        | false =>
          rw [hq] at hr
          have hr : (if ofOr (envM vs ks) e.or ≠ 0 then ((0 : Int), ofOr (envM vs ks) e.or) else (1, 0)) = r := hr
          rw [hq] at hot
          repeat (first | refine zck ?_ | refine zcl ?_ | refine zcm ?_ | refine zcn ?_)
          first | refine zcp (by kernel_rfl) ?_ | refine zcq PP_mixed (by kernel_rfl) (by kernel_rfl) ?_
          repeat' (refine zap rfl ?_; first | refine zan rfl ?_ | refine zan rfl ?_ | refine zah [] hot rfl rfl rfl (fun p hp => .tail _ (.tail _ (.tail _ hp))) rfl ?_)
          all_goals refine zch ?_
          all_goals repeat (first | refine zck ?_ | refine zcl ?_ | refine zcm ?_ | refine zcn ?_)
          refine zcj rfl ?_
          repeat (first | refine zck ?_ | refine zcl ?_ | refine zcm ?_ | refine zcn ?_)
          first | refine zcp (by kernel_rfl) ?_ | refine zcq PP_mixed (by kernel_rfl) (by kernel_rfl) ?_
          repeat' (refine zap rfl ?_; first | refine zan rfl ?_ | refine zaa 1 rfl rfl rfl ?_ | refine zce rfl ?_ | refine zao rfl ?_)
          all_goals refine zch ?_
          all_goals repeat (first | refine zck ?_ | refine zcl ?_ | refine zcm ?_ | refine zcn ?_)
          refine run_loop (S := Nat) (fun j => [(3, .pointer (some ⟨tt, 0, none⟩)), (53, .slice a2 e.or.length c2), (54, .int .i64 e.or.length), (55, .int .i64 (j : Int))])
            (fun j Γ => Γ = [] ∧ j ≤ e.or.length ∧ ofOr (envM vs ks) (e.or.drop j) = ofOr (envM vs ks) e.or) (fun j => e.or.length - j) 0 ⟨rfl, rfl, rfl, rfl, trivial⟩ ⟨rfl, by omega, rfl⟩ ?_
          rintro j Γ junk ⟨rfl, g1, g2⟩
          by_cases hj : j < e.or.length
          · obtain ⟨x, hx⟩ : ∃ x, e.or[j]? = some x := ⟨_, List.getElem?_eq_getElem hj⟩
            obtain ⟨b, off, cc, T, fr, cs, rfl, e2, e3, e4, _⟩ := ho.at hx
            obtain ⟨va', vo', rfl, r1, r2⟩ := e4.cs
            obtain ⟨pa', qa', hva', _⟩ := id r1.len
            obtain ⟨po', qo', hvo', _⟩ := id r2.len
            subst hva'; subst hvo'
            have hcall := hO sh mv ms x _ _ (by have := PE.size_or (List.mem_of_getElem? hx); omega) hT r1 r2
            have hok := ofE_ok (envM vs ks) x
            rw [ofOr_drop hx] at g2
            generalize ofE (envM vs ks) x = X at *
            obtain ⟨tx, cx⟩ := X
            dsimp only at g2 hcall hok
            repeat (first | refine zck ?_ | refine zcl ?_ | refine zcm ?_ | refine zcn ?_)
            first | refine zcp (by kernel_rfl) ?_ | refine zcq PP_mixed (by kernel_rfl) (by kernel_rfl) ?_
            repeat' (refine zap rfl ?_; first | refine zbg rfl rfl (by omega) ?_)
            all_goals refine zch ?_
            all_goals repeat (first | refine zck ?_ | refine zcl ?_ | refine zcm ?_ | refine zcn ?_)
            refine zci rfl ?_
            repeat (first | refine zck ?_ | refine zcl ?_ | refine zcm ?_ | refine zcn ?_)
            first | refine zcp (by kernel_rfl) ?_ | refine zcq PP_mixed (by kernel_rfl) (by kernel_rfl) ?_
            repeat' (refine zap rfl ?_; first | refine zad rfl (fun hF Γ w h1 h2 => e2 hF Γ w (fun p hp => h1 p (.tail _ (.tail _ (.tail _ hp)))) h2) (e3 _ (by omega)) ?_ | refine zae 0 rfl rfl rfl rfl rfl rfl rfl ?_ | refine zas rfl rfl (by omega) ?_ | refine zar (fun nb => ?_))
            all_goals refine zch ?_
            all_goals repeat (first | refine zck ?_ | refine zcl ?_ | refine zcm ?_ | refine zcn ?_)
            repeat (first | refine zck ?_ | refine zcl ?_ | refine zcm ?_ | refine zcn ?_)
            first | refine zcp (by kernel_rfl) ?_ | refine zcq PP_mixed (by kernel_rfl) (by kernel_rfl) ?_
            repeat' (refine zap rfl ?_; first | refine zan rfl ?_ | refine zan rfl ?_ | refine zaa 2 rfl rfl rfl ?_ | refine zab 0 rfl rfl rfl ?_ | refine zah [] hcall rfl rfl rfl (fun p hp => .tail _ (.tail _ (.tail _ hp))) rfl ?_ | refine zan rfl ?_)
            all_goals refine zch ?_
            all_goals repeat (first | refine zck ?_ | refine zcl ?_ | refine zcm ?_ | refine zcn ?_)
            by_cases hcx : cx = 0
            rotate_left
            · rw [if_pos hcx] at g2
              rw [← g2, if_pos hcx] at hr
              subst hr
              repeat (first | refine zck ?_ | refine zcl ?_ | refine zcm ?_ | refine zcn ?_)
              first | refine zcp (by kernel_rfl) ?_ | refine zcq PP_mixed (by kernel_rfl) (by kernel_rfl) ?_
              repeat' (refine zap rfl ?_; first | refine zan rfl ?_ | refine zbd rfl rfl (by omega) ?_)
              all_goals refine zch ?_
              all_goals repeat (first | refine zck ?_ | refine zcl ?_ | refine zcm ?_ | refine zcn ?_)
              refine zcj rfl ?_
              repeat (first | refine zck ?_ | refine zcl ?_ | refine zcm ?_ | refine zcn ?_)
              first | refine zcp (by kernel_rfl) ?_ | refine zcq PP_mixed (by kernel_rfl) (by kernel_rfl) ?_
              repeat' (refine zap rfl ?_; first | refine zan rfl ?_ | refine zbe rfl rfl (by omega) ?_)
              all_goals refine zch ?_
              all_goals repeat (first | refine zck ?_ | refine zcl ?_ | refine zcm ?_ | refine zcn ?_)
              refine zci rfl ?_
              repeat (first | refine zck ?_ | refine zcl ?_ | refine zcm ?_ | refine zcn ?_)
              first | refine zcp (by kernel_rfl) ?_ | refine zcq PP_mixed (by kernel_rfl) (by kernel_rfl) ?_
              repeat' (refine zap rfl ?_; first | refine zan rfl ?_ | refine zan rfl ?_)
              all_goals refine zch ?_
              all_goals repeat (first | refine zck ?_ | refine zcl ?_ | refine zcm ?_ | refine zcn ?_)
              refine run_take [] rfl ?_
              exact qret2 (fun _ _ h => h) rfl ⟨rfl, rfl⟩
            rw [if_neg (fun q => q hcx)] at g2
            by_cases htx : tx = 1
            · rw [if_neg (fun q => q htx)] at g2
              have hw := wrong_spec w0 false
              repeat (first | refine zck ?_ | refine zcl ?_ | refine zcm ?_ | refine zcn ?_)
              first | refine zcp (by kernel_rfl) ?_ | refine zcq PP_mixed (by kernel_rfl) (by kernel_rfl) ?_
              repeat' (refine zap rfl ?_; first | refine zan rfl ?_ | refine zbc rfl rfl (by omega) ?_)
              all_goals refine zch ?_
              all_goals repeat (first | refine zck ?_ | refine zcl ?_ | refine zcm ?_ | refine zcn ?_)
              refine zci rfl ?_
              repeat (first | refine zck ?_ | refine zcl ?_ | refine zcm ?_ | refine zcn ?_)
              first | refine zcp (by kernel_rfl) ?_ | refine zcq PP_mixed (by kernel_rfl) (by kernel_rfl) ?_
              repeat' (refine zap rfl ?_; first | refine zan rfl ?_ | refine zan rfl ?_ | refine zah [] hw rfl rfl rfl sub_nil rfl ?_ | refine zbf rfl rfl (by omega) ?_)
              all_goals refine zch ?_
              all_goals repeat (first | refine zck ?_ | refine zcl ?_ | refine zcm ?_ | refine zcn ?_)
              repeat (first | refine zck ?_ | refine zcl ?_ | refine zcm ?_ | refine zcn ?_)
              first | refine zcp (by kernel_rfl) ?_ | refine zcq PP_mixed (by kernel_rfl) (by kernel_rfl) ?_
              repeat' (refine zap rfl ?_; first | refine zan rfl ?_ | refine zbp rfl rfl ?_)
              all_goals refine zch ?_
              all_goals repeat (first | refine zck ?_ | refine zcl ?_ | refine zcm ?_ | refine zcn ?_)
              refine zcj rfl ?_
              refine run_take [] rfl ?_
              repeat' (first | refine zcp (by kernel_rfl) ?_ | refine zcm ?_ | refine zcn ?_ | (refine zap rfl ?_; first | refine zan rfl ?_ | refine zau rfl rfl (by omega) ?_) | refine zch ?_)
              exact cut_end ⟨rfl, j + 1, ⟨rfl, rfl, rfl, int_eq (by omega), trivial⟩, ⟨rfl, by omega, g2⟩, by omega⟩
            · rw [if_pos htx] at g2
              rw [← g2, if_pos (by decide)] at hr
              subst hr
              have hw := wrong_spec w0 true
              repeat (first | refine zck ?_ | refine zcl ?_ | refine zcm ?_ | refine zcn ?_)
              first | refine zcp (by kernel_rfl) ?_ | refine zcq PP_mixed (by kernel_rfl) (by kernel_rfl) ?_
              repeat' (refine zap rfl ?_; first | refine zan rfl ?_ | refine zbc rfl rfl (by omega) ?_)
              all_goals refine zch ?_
              all_goals repeat (first | refine zck ?_ | refine zcl ?_ | refine zcm ?_ | refine zcn ?_)
              refine zci rfl ?_
              repeat (first | refine zck ?_ | refine zcl ?_ | refine zcm ?_ | refine zcn ?_)
              first | refine zcp (by kernel_rfl) ?_ | refine zcq PP_mixed (by kernel_rfl) (by kernel_rfl) ?_
              repeat' (refine zap rfl ?_; first | refine zan rfl ?_ | refine zan rfl ?_ | refine zah [] hw rfl rfl rfl sub_nil rfl ?_ | refine zbe rfl rfl (by omega) ?_)
              all_goals refine zch ?_
              all_goals repeat (first | refine zck ?_ | refine zcl ?_ | refine zcm ?_ | refine zcn ?_)
              repeat (first | refine zck ?_ | refine zcl ?_ | refine zcm ?_ | refine zcn ?_)
              first | refine zcp (by kernel_rfl) ?_ | refine zcq PP_mixed (by kernel_rfl) (by kernel_rfl) ?_
              repeat' (refine zap rfl ?_; first | refine zan rfl ?_ | refine zbp rfl rfl ?_)
              all_goals refine zch ?_
              all_goals repeat (first | refine zck ?_ | refine zcl ?_ | refine zcm ?_ | refine zcn ?_)
              refine zci rfl ?_
              repeat (first | refine zck ?_ | refine zcl ?_ | refine zcm ?_ | refine zcn ?_)
              first | refine zcp (by kernel_rfl) ?_ | refine zcq PP_mixed (by kernel_rfl) (by kernel_rfl) ?_
              repeat' (refine zap rfl ?_; first | refine zan rfl ?_ | refine zan rfl ?_)
              all_goals refine zch ?_
              all_goals repeat (first | refine zck ?_ | refine zcl ?_ | refine zcm ?_ | refine zcn ?_)
              refine run_take [] rfl ?_
              exact qret2 (fun _ _ h => h) rfl ⟨rfl, rfl⟩
          · rw [List.drop_of_length_le (by omega), ofOr] at g2
            rw [← g2, if_neg (fun q => q rfl)] at hr
            subst hr
            repeat (first | refine zck ?_ | refine zcl ?_ | refine zcm ?_ | refine zcn ?_)
            first | refine zcp (by kernel_rfl) ?_ | refine zcq PP_mixed (by kernel_rfl) (by kernel_rfl) ?_
            repeat' (refine zap rfl ?_; first | refine zbh rfl rfl (by omega) ?_)
            all_goals refine zch ?_
            all_goals repeat (first | refine zck ?_ | refine zcl ?_ | refine zcm ?_ | refine zcn ?_)
            refine zcj rfl ?_
            refine cut_exit rfl rfl ?_
            repeat' (first | refine zck ?_ | refine zcp (by kernel_rfl) ?_ | (refine zap rfl ?_; first | refine zan rfl ?_) | refine zch ?_)
            exact ret_tmp2 rfl ⟨rfl, rfl⟩
set_option maxHeartbeats 8000000 in
theorem of_step (w0 : World) (vs : TV) (ks : List (ByteArray × ByteArray)) (n : Nat) (hn : n ≤ 100000) (hO : OfS w0 vs ks n) : OfS w0 vs ks (n + 1) := by
  intro sh mv ms e va vo hs hT ha ho
  have hsz := e.size_eq
  have la := PE.sizeL_len e.args
  have lo := PE.sizeL_len e.or
  obtain ⟨a1, c1, hva, _⟩ := ha.len
  obtain ⟨a2, c2, hvo, _⟩ := ho.len
  subst hva; subst hvo
  obtain ⟨R, hR⟩ : ∃ R, ofE (envM vs ks) e = R := ⟨_, rfl⟩
  rw [hR]
  rw [ofE_eq] at hR
  refine fn_of_run en89 fn89 rfl rfl rfl ?_
  repeat (first | refine zck ?_ | refine zcl ?_ | refine zcm ?_ | refine zcn ?_)
  first | refine zcp (by kernel_rfl) ?_ | refine zcq PP_mixed (by kernel_rfl) (by kernel_rfl) ?_
  repeat' (refine zap rfl ?_; first | refine zaq (cs := [_, _]) rfl (fun tt => ?_) | refine zaq (cs := [_, _, _, _, _, _]) rfl (fun te => ?_) | refine zan rfl ?_)
  all_goals refine zch ?_
  all_goals repeat (first | refine zck ?_ | refine zcl ?_ | refine zcm ?_ | refine zcn ?_)
  refine run_share [0] rfl ?_
  refine run_share [0] rfl ?_
  by_cases hk0 : e.kind < 0
  · rw [if_pos (.inl hk0)] at hR
    subst hR
    repeat (first | refine zck ?_ | refine zcl ?_ | refine zcm ?_ | refine zcn ?_)
    first | refine zcp (by kernel_rfl) ?_ | refine zcq PP_mixed (by kernel_rfl) (by kernel_rfl) ?_
    repeat' (refine zap rfl ?_; first | refine zak rfl ?_ | refine zan rfl ?_ | refine zaa 0 rfl rfl rfl ?_ | refine zao rfl ?_ | refine zbg rfl rfl (by omega) ?_ | refine zbu rfl ?_)
    all_goals refine zch ?_
    all_goals repeat (first | refine zck ?_ | refine zcl ?_ | refine zcm ?_ | refine zcn ?_)
    refine zci rfl ?_
    repeat' (first | refine zck ?_ | refine zcp (by kernel_rfl) ?_ | (refine zap rfl ?_; first | refine zan rfl ?_) | refine zch ?_)
    exact ret_tmp2 rfl ⟨rfl, rfl⟩
  by_cases hk7 : 7 < e.kind
  · rw [if_pos (.inr hk7)] at hR
    subst hR
    repeat (first | refine zck ?_ | refine zcl ?_ | refine zcm ?_ | refine zcn ?_)
    first | refine zcp (by kernel_rfl) ?_ | refine zcq PP_mixed (by kernel_rfl) (by kernel_rfl) ?_
    repeat' (refine zap rfl ?_; first | refine zaj rfl ?_ | refine zan rfl ?_ | refine zaa 0 rfl rfl rfl ?_ | refine zao rfl ?_ | refine zbh rfl rfl (by omega) ?_ | refine zbk rfl rfl (by omega) ?_ | refine zbv rfl ?_)
    all_goals refine zch ?_
    all_goals repeat (first | refine zck ?_ | refine zcl ?_ | refine zcm ?_ | refine zcn ?_)
    refine zci rfl ?_
    repeat' (first | refine zck ?_ | refine zcp (by kernel_rfl) ?_ | (refine zap rfl ?_; first | refine zan rfl ?_) | refine zch ?_)
    exact ret_tmp2 rfl ⟨rfl, rfl⟩
  rw [if_neg (by omega)] at hR
  repeat (first | refine zck ?_ | refine zcl ?_ | refine zcm ?_ | refine zcn ?_)
  first | refine zcp (by kernel_rfl) ?_ | refine zcq PP_mixed (by kernel_rfl) (by kernel_rfl) ?_
  repeat' (refine zap rfl ?_; first | refine zaj rfl ?_ | refine zan rfl ?_ | refine zaa 0 rfl rfl rfl ?_ | refine zao rfl ?_ | refine zbh rfl rfl (by omega) ?_ | refine zbl rfl rfl (by omega) ?_ | refine zbv rfl ?_)
  all_goals refine zch ?_
  all_goals repeat (first | refine zck ?_ | refine zcl ?_ | refine zcm ?_ | refine zcn ?_)
  refine zcj rfl ?_
  have hform := formTy_spec w0 e _ _ sh ha ho ⟨by omega, by omega⟩
  have hsb : ∀ (a b : Nat × Obj), ∀ p ∈ sh, p ∈ a :: b :: sh := fun a b p hp => .tail _ (.tail _ hp)
  cases hf : formT e with
  | false =>
    rw [hf] at hform
    rw [if_pos hf] at hR
    subst hR
    repeat (first | refine zck ?_ | refine zcl ?_ | refine zcm ?_ | refine zcn ?_)
    first | refine zcp (by kernel_rfl) ?_ | refine zcq PP_mixed (by kernel_rfl) (by kernel_rfl) ?_
    repeat' (refine zap rfl ?_; first | refine zaa 0 rfl rfl rfl ?_ | refine zah [] hform rfl rfl rfl (hsb _ _) rfl ?_ | refine zbx rfl ?_)
    all_goals refine zch ?_
    all_goals repeat (first | refine zck ?_ | refine zcl ?_ | refine zcm ?_ | refine zcn ?_)
    refine zci rfl ?_
    repeat' (first | refine zck ?_ | refine zcp (by kernel_rfl) ?_ | (refine zap rfl ?_; first | refine zan rfl ?_) | refine zch ?_)
    exact ret_tmp2 rfl ⟨rfl, rfl⟩
  | true =>
  rw [hf] at hform
  rw [if_neg (by rw [hf]; decide)] at hR
  repeat (first | refine zck ?_ | refine zcl ?_ | refine zcm ?_ | refine zcn ?_)
  first | refine zcp (by kernel_rfl) ?_ | refine zcq PP_mixed (by kernel_rfl) (by kernel_rfl) ?_
  repeat' (refine zap rfl ?_; first | refine zaa 0 rfl rfl rfl ?_ | refine zah [] hform rfl rfl rfl (hsb _ _) rfl ?_ | refine zbx rfl ?_)
  all_goals refine zch ?_
  all_goals repeat (first | refine zck ?_ | refine zcl ?_ | refine zcm ?_ | refine zcn ?_)
  refine zcj rfl ?_
  repeat (first | refine zck ?_ | refine zcl ?_ | refine zcm ?_ | refine zcn ?_)
  first | refine zcp (by kernel_rfl) ?_ | refine zcq PP_mixed (by kernel_rfl) (by kernel_rfl) ?_
  repeat' (refine zap rfl ?_; first | refine zan rfl ?_)
  all_goals refine zch ?_
  all_goals repeat (first | refine zck ?_ | refine zcl ?_ | refine zcm ?_ | refine zcn ?_)
  refine run_nilslice 3 1 ?_
  repeat (first | refine zck ?_ | refine zcl ?_ | refine zcm ?_ | refine zcn ?_)
  first | refine zcp (by kernel_rfl) ?_ | refine zcq PP_mixed (by kernel_rfl) (by kernel_rfl) ?_
  repeat' (refine zap rfl ?_; first | refine zan rfl ?_ | refine zaa 0 rfl rfl rfl ?_ | refine zce rfl ?_ | refine zao rfl ?_)
  all_goals refine zch ?_
  all_goals repeat (first | refine zck ?_ | refine zcl ?_ | refine zcm ?_ | refine zcn ?_)
  refine run_loop (S := Nat × Option Addr × Nat × List Int) (fun s => [(2, .pointer (some ⟨tt, 0, none⟩)), (3, .pointer (some ⟨te, 0, none⟩)), (6, .slice s.2.1 s.2.2.2.length s.2.2.1), (23, .slice a1 e.args.length c1), (24, .int .i64 e.args.length), (25, .int .i64 (s.1 : Int))])
    (fun s Γ => Γ = [SlA 3 1 s.2.1 s.2.2.2.length s.2.2.1 (intsV s.2.2.2)] ∧ s.1 ≤ e.args.length ∧ s.2.2.2.length = s.1 ∧ ofEs (envM vs ks) e.args = (s.2.2.2 ++ (ofEs (envM vs ks) (e.args.drop s.1)).1, (ofEs (envM vs ks) (e.args.drop s.1)).2)) (fun s => e.args.length - s.1) (0, none, 0, [])
    ⟨rfl, rfl, rfl, rfl, rfl, rfl, trivial⟩ ⟨rfl, Nat.zero_le _, rfl, rfl⟩ ?_
  rintro ⟨j, a, c, ts⟩ Γ junk ⟨rfl, g1, g2, g3⟩
  dsimp only at g1 g2 g3 ⊢
  by_cases hj : j < e.args.length
  · obtain ⟨x, hx⟩ : ∃ x, e.args[j]? = some x := ⟨_, List.getElem?_eq_getElem hj⟩
    obtain ⟨b, off, cc, T, fr, cs, rfl, e2, e3, e4, _⟩ := ha.at hx
    obtain ⟨va', vo', rfl, r1, r2⟩ := e4.cs
    obtain ⟨pa', qa', hva', _⟩ := id r1.len
    obtain ⟨po', qo', hvo', _⟩ := id r2.len
    subst hva'; subst hvo'
    have hcall := hO sh mv ms x _ _ (by have := PE.size_args (List.mem_of_getElem? hx); omega) hT r1 r2
    rw [ofEs_drop hx] at g3
    generalize ofE (envM vs ks) x = X at *
    obtain ⟨tx, cx⟩ := X
    dsimp only at g3 hcall
    repeat (first | refine zck ?_ | refine zcl ?_ | refine zcm ?_ | refine zcn ?_)
    first | refine zcp (by kernel_rfl) ?_ | refine zcq PP_mixed (by kernel_rfl) (by kernel_rfl) ?_
    repeat' (refine zap rfl ?_; first | refine zbg rfl rfl (by omega) ?_)
    all_goals refine zch ?_
    all_goals repeat (first | refine zck ?_ | refine zcl ?_ | refine zcm ?_ | refine zcn ?_)
    refine zci rfl ?_
    repeat (first | refine zck ?_ | refine zcl ?_ | refine zcm ?_ | refine zcn ?_)
    first | refine zcp (by kernel_rfl) ?_ | refine zcq PP_mixed (by kernel_rfl) (by kernel_rfl) ?_
    repeat' (refine zap rfl ?_; first | refine zad rfl (fun hF Γ w h1 h2 => e2 hF Γ w (fun p hp => h1 p (.tail _ (.tail _ hp))) h2) (e3 _ (by omega)) ?_ | refine zae 1 rfl rfl rfl rfl rfl rfl rfl ?_ | refine zas rfl rfl (by omega) ?_ | refine zar (fun nb => ?_))
    all_goals refine zch ?_
    all_goals repeat (first | refine zck ?_ | refine zcl ?_ | refine zcm ?_ | refine zcn ?_)
    repeat (first | refine zck ?_ | refine zcl ?_ | refine zcm ?_ | refine zcn ?_)
    first | refine zcp (by kernel_rfl) ?_ | refine zcq PP_mixed (by kernel_rfl) (by kernel_rfl) ?_
    repeat' (refine zap rfl ?_; first | refine zan rfl ?_ | refine zan rfl ?_ | refine zaa 1 rfl rfl rfl ?_ | refine zab 1 rfl rfl rfl ?_ | refine zah [] hcall rfl rfl rfl (fun p hp => .tail _ (.tail _ hp)) rfl ?_ | refine zan rfl ?_)
    all_goals refine zch ?_
    all_goals repeat (first | refine zck ?_ | refine zcl ?_ | refine zcm ?_ | refine zcn ?_)
    by_cases hcx : cx = 0
    rotate_left
    · rw [if_pos hcx] at g3
      rw [g3] at hR
      dsimp only at hR
      rw [if_pos hcx] at hR
      subst hR
      repeat (first | refine zck ?_ | refine zcl ?_ | refine zcm ?_ | refine zcn ?_)
      first | refine zcp (by kernel_rfl) ?_ | refine zcq PP_mixed (by kernel_rfl) (by kernel_rfl) ?_
      repeat' (refine zap rfl ?_; first | refine zan rfl ?_ | refine zbe rfl rfl (by omega) ?_)
      all_goals refine zch ?_
      all_goals repeat (first | refine zck ?_ | refine zcl ?_ | refine zcm ?_ | refine zcn ?_)
      refine zci rfl ?_
      repeat (first | refine zck ?_ | refine zcl ?_ | refine zcm ?_ | refine zcn ?_)
      first | refine zcp (by kernel_rfl) ?_ | refine zcq PP_mixed (by kernel_rfl) (by kernel_rfl) ?_
      repeat' (refine zap rfl ?_; first | refine zan rfl ?_ | refine zan rfl ?_)
      all_goals refine zch ?_
      all_goals repeat (first | refine zck ?_ | refine zcl ?_ | refine zcm ?_ | refine zcn ?_)
      refine run_take [] rfl ?_
      exact qret2 (fun _ _ h => h) rfl ⟨rfl, rfl⟩
    rw [if_neg (fun q => q hcx)] at g3
    dsimp only at g3
    repeat (first | refine zck ?_ | refine zcl ?_ | refine zcm ?_ | refine zcn ?_)
    first | refine zcp (by kernel_rfl) ?_ | refine zcq PP_mixed (by kernel_rfl) (by kernel_rfl) ?_
    repeat' (refine zap rfl ?_; first | refine zan rfl ?_ | refine zbf rfl rfl (by omega) ?_)
    all_goals refine zch ?_
    all_goals repeat (first | refine zck ?_ | refine zcl ?_ | refine zcm ?_ | refine zcn ?_)
    refine zcj rfl ?_
    repeat (first | refine zck ?_ | refine zcl ?_ | refine zcm ?_ | refine zcn ?_)
    first | refine zcp (by kernel_rfl) ?_ | refine zcq PP_mixed (by kernel_rfl) (by kernel_rfl) ?_
    repeat' (refine zap rfl ?_; first | refine reg_buildSlice rfl rfl rfl rfl rfl rfl (fun nb9 => ?_) | refine zan rfl ?_ | refine zan rfl ?_ | refine reg_append 0 2 rfl rfl rfl rfl rfl rfl rfl rfl (by omega) (fun _ _ => rfl) (fun a5 c5 => ?_))
    all_goals refine zch ?_
    all_goals repeat (first | refine zck ?_ | refine zcl ?_ | refine zcm ?_ | refine zcn ?_)
    refine run_take [0] rfl ?_
    repeat' (first | refine zcp (by kernel_rfl) ?_ | (refine zap rfl ?_; first | refine zan rfl ?_ | refine zau rfl rfl (by omega) ?_) | refine zch ?_)
    refine cut_end ⟨rfl, (j + 1, a5, c5, ts ++ [tx]), ⟨rfl, rfl, by dsimp only; rw [List.length_append]; rfl, rfl, rfl, int_eq (by dsimp only; omega), trivial⟩, ⟨?_, by dsimp only; omega, by dsimp only; rw [List.length_append, g2]; rfl, ?_⟩, by dsimp only; omega⟩
    · dsimp only
      rw [List.length_append]
      unfold intsV
      rw [List.map_append]
      rfl
    · dsimp only
      rw [g3, List.append_assoc]
      rfl
  have hjl : j = e.args.length := by omega
  subst hjl
  rw [List.drop_of_length_le (Nat.le_refl _), ofEs, List.append_nil] at g3
  rw [g3] at hR
  dsimp only at hR
  rw [if_neg (fun q => q rfl)] at hR
  repeat (first | refine zck ?_ | refine zcl ?_ | refine zcm ?_ | refine zcn ?_)
  first | refine zcp (by kernel_rfl) ?_ | refine zcq PP_mixed (by kernel_rfl) (by kernel_rfl) ?_
  repeat' (refine zap rfl ?_; first | refine zbh rfl rfl (by omega) ?_)
  all_goals refine zch ?_
  all_goals repeat (first | refine zck ?_ | refine zcl ?_ | refine zcm ?_ | refine zcn ?_)
  refine zcj rfl ?_
  refine cut_exit rfl rfl ?_
  refine run_slR encI 0 (l := ts) rfl (by unfold intsV; clear g2 g3 hR; induction ts with | nil => rfl | cons x l ih => rw [List.map_cons, List.flatMap_cons, ih]; rfl) (fun _ _ => rfl) rfl rfl ?_
  refine run_shareB [0] rfl (fun bl hbl => ?_)
  have hEl : ∀ (sh' : Shared), (∀ p ∈ bl, p ∈ sh') → RdSl w0 sh' encI 1 (.slice a ts.length c) ts := fun sh' h => hbl.mono h
  have hn1 : ts.length ≤ 1000000 := by omega
  obtain ⟨SH, hSH⟩ : ∃ SH, SH = ((te, Obj.cells (List.toArray (peC e.kind e.num e.name e.meth (.slice a1 e.args.length c1) (.slice a2 e.or.length c2))) 91 (0, 0)) :: (tt, Obj.cells (List.toArray [Value.map (some mv), Value.map (some ms)]) 104 (0, 0)) :: sh) ++ bl := ⟨_, rfl⟩
  have hs1 : ∀ p ∈ sh, p ∈ SH := fun p hp => by rw [hSH]; exact List.mem_append_left _ (.tail _ (.tail _ hp))
  have hs2 : ∀ p ∈ bl, p ∈ SH := fun p hp => by rw [hSH]; exact List.mem_append_right _ hp
  have hT2 := hT.mono hs1
  have ha2 := ha.mono hs1
  have ho2 := ho.mono hs1
  have hl2 := hEl SH hs2
  repeat (first | refine zck ?_ | refine zcl ?_ | refine zcm ?_ | refine zcn ?_ | refine zco ?_)
  rcases (by omega : e.kind = 0 ∨ e.kind = 1 ∨ e.kind = 2 ∨ e.kind = 3 ∨ e.kind = 4 ∨ e.kind = 5 ∨ e.kind = 6 ∨ e.kind = 7) with hk | hk | hk | hk | hk | hk | hk | hk
  · rw [if_pos (.inr (by omega))] at hR
    have hru : ruleE (envM vs ks) e ts = (1, 0) := by
      unfold ruleE
      rw [if_pos hk]
    rw [hru] at hR
    subst hR
    repeat (first | refine zck ?_ | refine zcl ?_ | refine zcm ?_ | refine zcn ?_)
    first | refine zcp (by kernel_rfl) ?_ | refine zcq PP_mixed (by kernel_rfl) (by kernel_rfl) ?_
    repeat' (refine zap rfl ?_; first | refine reg_indexA (sz := 1) (v := fnA n1) rfl rfl ⟨by omega, by omega⟩ (by rw [hk]; rfl) ?_ | refine zan rfl ?_ | refine zan rfl ?_ | refine zaa 0 rfl rfl rfl ?_ | refine zaa 1 rfl rfl rfl ?_ | (refine zai [] (rulesTy_spec w0) rfl rfl rfl sub_nil ?_; rintro v Γ ⟨n1, n2, n3, n4, n5, rfl, rfl⟩) | (refine zai [0] (always1_spec w0 SH n1 mv ms 1 e _ _ _).owned rfl rfl rfl (fun p hp => by rw [hSH] at hp; exact hp) ?_; rintro v Γ ⟨_, ⟨rfl, rfl⟩, rfl⟩) | refine zce rfl ?_ | refine zao rfl ?_ | refine zan rfl ?_)
    all_goals refine zch ?_
    all_goals repeat (first | refine zck ?_ | refine zcl ?_ | refine zcm ?_ | refine zcn ?_)
    refine run_take [] rfl ?_
    exact ret_tmp2 rfl ⟨rfl, rfl⟩
  · rw [if_pos (.inr (by omega))] at hR
    have hru : ruleE (envM vs ks) e ts = (2, 0) := by
      unfold ruleE
      rw [if_neg (by omega), if_pos hk]
    rw [hru] at hR
    subst hR
    repeat (first | refine zck ?_ | refine zcl ?_ | refine zcm ?_ | refine zcn ?_)
    first | refine zcp (by kernel_rfl) ?_ | refine zcq PP_mixed (by kernel_rfl) (by kernel_rfl) ?_
    repeat' (refine zap rfl ?_; first | refine reg_indexA (sz := 1) (v := fnA n2) rfl rfl ⟨by omega, by omega⟩ (by rw [hk]; rfl) ?_ | refine zan rfl ?_ | refine zan rfl ?_ | refine zaa 0 rfl rfl rfl ?_ | refine zaa 1 rfl rfl rfl ?_ | (refine zai [] (rulesTy_spec w0) rfl rfl rfl sub_nil ?_; rintro v Γ ⟨n1, n2, n3, n4, n5, rfl, rfl⟩) | (refine zai [1] (always1_spec w0 SH n2 mv ms 2 e _ _ _).owned rfl rfl rfl (fun p hp => by rw [hSH] at hp; exact hp) ?_; rintro v Γ ⟨_, ⟨rfl, rfl⟩, rfl⟩) | refine zce rfl ?_ | refine zao rfl ?_ | refine zan rfl ?_)
    all_goals refine zch ?_
    all_goals repeat (first | refine zck ?_ | refine zcl ?_ | refine zcm ?_ | refine zcn ?_)
    refine run_take [] rfl ?_
    exact ret_tmp2 rfl ⟨rfl, rfl⟩
  · rw [if_pos (.inr (by omega))] at hR
    have hru : ruleE (envM vs ks) e ts = if (envM vs ks).vars e.name = 1 ∨ (envM vs ks).vars e.name = 2 then ((envM vs ks).vars e.name, 0) else (0, 16) := by
      unfold ruleE
      rw [if_neg (by omega), if_neg (by omega), if_pos hk]
    rw [hru] at hR
    have hvar : FnE PP w0 SH 119 [tyrV mv ms, .agg (List.toArray (peC e.kind e.num e.name e.meth (.slice a1 e.args.length c1) (.slice a2 e.or.length c2))), .slice a ts.length c] [] (resT R) [] := by
      have h := var_spec w0 SH mv ms vs e (.slice a1 e.args.length c1) (.slice a2 e.or.length c2) (.slice a ts.length c) hT2.v
      rw [← hR]
      rw [show (envM vs ks).vars e.name = (lookV vs e.name).getD 0 from rfl]
      by_cases hq : (lookV vs e.name).getD 0 = 1 ∨ (lookV vs e.name).getD 0 = 2
      · rw [if_pos hq] at h ⊢; exact h
      · rw [if_neg hq] at h ⊢; exact h
    repeat (first | refine zck ?_ | refine zcl ?_ | refine zcm ?_ | refine zcn ?_)
    first | refine zcp (by kernel_rfl) ?_ | refine zcq PP_mixed (by kernel_rfl) (by kernel_rfl) ?_
    repeat' (refine zap rfl ?_; first | refine reg_indexA (sz := 1) (v := .func (.func 119) #[] #[]) rfl rfl ⟨by omega, by omega⟩ (by rw [hk]; rfl) ?_ | refine zan rfl ?_ | refine zan rfl ?_ | refine zaa 0 rfl rfl rfl ?_ | refine zaa 1 rfl rfl rfl ?_ | (refine zai [] (rulesTy_spec w0) rfl rfl rfl sub_nil ?_; rintro v Γ ⟨n1, n2, n3, n4, n5, rfl, rfl⟩) | refine zah [] hvar rfl rfl rfl (fun p hp => by rw [hSH] at hp; exact hp) rfl ?_ | refine zce rfl ?_ | refine zao rfl ?_ | refine zan rfl ?_)
    all_goals refine zch ?_
    all_goals repeat (first | refine zck ?_ | refine zcl ?_ | refine zcm ?_ | refine zcn ?_)
    refine run_take [] rfl ?_
    exact ret_tmp2 rfl ⟨rfl, rfl⟩
  · rw [if_pos (.inr (by omega))] at hR
    have hru : ruleE (envM vs ks) e ts = tEach ts 2 := by
      unfold ruleE
      rw [if_neg (by omega), if_neg (by omega), if_neg (by omega), if_pos hk]
    rw [hru] at hR
    subst hR
    repeat (first | refine zck ?_ | refine zcl ?_ | refine zcm ?_ | refine zcn ?_)
    first | refine zcp (by kernel_rfl) ?_ | refine zcq PP_mixed (by kernel_rfl) (by kernel_rfl) ?_
    repeat' (refine zap rfl ?_; first | refine reg_indexA (sz := 1) (v := fnEa n3) rfl rfl ⟨by omega, by omega⟩ (by rw [hk]; rfl) ?_ | refine zan rfl ?_ | refine zan rfl ?_ | refine zaa 0 rfl rfl rfl ?_ | refine zaa 1 rfl rfl rfl ?_ | (refine zai [] (rulesTy_spec w0) rfl rfl rfl sub_nil ?_; rintro v Γ ⟨n1, n2, n3, n4, n5, rfl, rfl⟩) | (refine zai [2] (each1_spec w0 SH n3 mv ms 2 e _ _ _ ts hl2 (by omega)).owned rfl rfl rfl (fun p hp => by rw [hSH] at hp; exact hp) ?_; rintro v Γ ⟨_, ⟨rfl, rfl⟩, rfl⟩) | refine zce rfl ?_ | refine zao rfl ?_ | refine zan rfl ?_)
    all_goals refine zch ?_
    all_goals repeat (first | refine zck ?_ | refine zcl ?_ | refine zcm ?_ | refine zcn ?_)
    refine run_take [] rfl ?_
    exact ret_tmp2 rfl ⟨rfl, rfl⟩
  · rw [if_pos (.inr (by omega))] at hR
    have hru : ruleE (envM vs ks) e ts = tEach ts 1 := by
      unfold ruleE
      rw [if_neg (by omega), if_neg (by omega), if_neg (by omega), if_neg (by omega), if_pos hk]
    rw [hru] at hR
    subst hR
    repeat (first | refine zck ?_ | refine zcl ?_ | refine zcm ?_ | refine zcn ?_)
    first | refine zcp (by kernel_rfl) ?_ | refine zcq PP_mixed (by kernel_rfl) (by kernel_rfl) ?_
    repeat' (refine zap rfl ?_; first | refine reg_indexA (sz := 1) (v := fnEa n4) rfl rfl ⟨by omega, by omega⟩ (by rw [hk]; rfl) ?_ | refine zan rfl ?_ | refine zan rfl ?_ | refine zaa 0 rfl rfl rfl ?_ | refine zaa 1 rfl rfl rfl ?_ | (refine zai [] (rulesTy_spec w0) rfl rfl rfl sub_nil ?_; rintro v Γ ⟨n1, n2, n3, n4, n5, rfl, rfl⟩) | (refine zai [3] (each1_spec w0 SH n4 mv ms 1 e _ _ _ ts hl2 (by omega)).owned rfl rfl rfl (fun p hp => by rw [hSH] at hp; exact hp) ?_; rintro v Γ ⟨_, ⟨rfl, rfl⟩, rfl⟩) | refine zce rfl ?_ | refine zao rfl ?_ | refine zan rfl ?_)
    all_goals refine zch ?_
    all_goals repeat (first | refine zck ?_ | refine zcl ?_ | refine zcm ?_ | refine zcn ?_)
    refine run_take [] rfl ?_
    exact ret_tmp2 rfl ⟨rfl, rfl⟩
  · rw [if_pos (.inr (by omega))] at hR
    have hru : ruleE (envM vs ks) e ts = match signT e.meth with | none => (0, 17) | some (a, b) => if (a = 0 ∧ ts.getD 0 0 = ts.getD 1 0) ∨ (a ≠ 0 ∧ anyNe ts a = false) then (b, 0) else (0, 17) := by
      unfold ruleE
      rw [if_neg (by omega), if_neg (by omega), if_neg (by omega), if_neg (by omega), if_neg (by omega), if_pos hk]
      try (cases signT e.meth <;> rfl)
    rw [hru] at hR
    have hbin : FnE PP w0 SH 121 [tyrV mv ms, .agg (List.toArray (peC e.kind e.num e.name e.meth (.slice a1 e.args.length c1) (.slice a2 e.or.length c2))), .slice a ts.length c] [] (resT R) [] := by
      have hform2 := hf
      unfold formT at hform2
      cases hsg : signT e.meth with
      | none => rw [if_pos ⟨hk, hsg⟩] at hform2; cases hform2
      | some ab =>
        obtain ⟨sa, sb⟩ := ab
        rw [if_neg (by rw [hsg]; rintro ⟨_, q⟩; cases q), if_neg (by omega), if_neg (by omega), if_pos hk, Bool.and_eq_true, decide_eq_true_eq] at hform2
        have h := binary_spec w0 SH mv ms e (.slice a1 e.args.length c1) (.slice a2 e.or.length c2) (.slice a ts.length c) ts sa sb hl2 (by omega) hsg
        rw [hsg] at hR
        dsimp only at hR
        rw [← hR]
        by_cases hq : (sa = 0 ∧ ts.getD 0 0 = ts.getD 1 0) ∨ (sa ≠ 0 ∧ anyNe ts sa = false)
        · rw [if_pos hq] at h ⊢; exact h
        · rw [if_neg hq] at h ⊢; exact h
    repeat (first | refine zck ?_ | refine zcl ?_ | refine zcm ?_ | refine zcn ?_)
    first | refine zcp (by kernel_rfl) ?_ | refine zcq PP_mixed (by kernel_rfl) (by kernel_rfl) ?_
    repeat' (refine zap rfl ?_; first | refine reg_indexA (sz := 1) (v := .func (.func 121) #[] #[]) rfl rfl ⟨by omega, by omega⟩ (by rw [hk]; rfl) ?_ | refine zan rfl ?_ | refine zan rfl ?_ | refine zaa 0 rfl rfl rfl ?_ | refine zaa 1 rfl rfl rfl ?_ | (refine zai [] (rulesTy_spec w0) rfl rfl rfl sub_nil ?_; rintro v Γ ⟨n1, n2, n3, n4, n5, rfl, rfl⟩) | refine zah [] hbin rfl rfl rfl (fun p hp => by rw [hSH] at hp; exact hp) rfl ?_ | refine zce rfl ?_ | refine zao rfl ?_ | refine zan rfl ?_)
    all_goals refine zch ?_
    all_goals repeat (first | refine zck ?_ | refine zcl ?_ | refine zcm ?_ | refine zcn ?_)
    refine run_take [] rfl ?_
    exact ret_tmp2 rfl ⟨rfl, rfl⟩
  · have hcl : FnE PP w0 SH 122 [tyrV mv ms, .agg (List.toArray (peC e.kind e.num e.name e.meth (.slice a1 e.args.length c1) (.slice a2 e.or.length c2))), .slice a ts.length c] [] (resT R) [] := by
      have h := call_of w0 vs ks n hn hO SH mv ms e (.slice a1 e.args.length c1) (.slice a2 e.or.length c2) a c ts hs hT2 ha2 ho2 hl2 hn1
      have hq : callR (envM vs ks) e ts = R := by
        rw [← hR]
        have hru : ruleE (envM vs ks) e ts = if callT (envM vs ks) e ts ≠ 0 then (0, callT (envM vs ks) e ts) else (1, 0) := by
          unfold ruleE
          rw [if_neg (by omega), if_neg (by omega), if_neg (by omega), if_neg (by omega), if_neg (by omega), if_neg (by omega), if_pos hk]
        rw [hru]
        unfold callR
        by_cases hc : callT (envM vs ks) e ts = 0
        · simp [hc, hk]
        · simp [hc]
      rw [hq] at h
      exact h
    repeat (first | refine zck ?_ | refine zcl ?_ | refine zcm ?_ | refine zcn ?_)
    first | refine zcp (by kernel_rfl) ?_ | refine zcq PP_mixed (by kernel_rfl) (by kernel_rfl) ?_
    repeat' (refine zap rfl ?_; first | refine reg_indexA (sz := 1) (v := .func (.func 122) #[] #[]) rfl rfl ⟨by omega, by omega⟩ (by rw [hk]; rfl) ?_ | refine zan rfl ?_ | refine zan rfl ?_ | refine zaa 0 rfl rfl rfl ?_ | refine zaa 1 rfl rfl rfl ?_ | (refine zai [] (rulesTy_spec w0) rfl rfl rfl sub_nil ?_; rintro v Γ ⟨n1, n2, n3, n4, n5, rfl, rfl⟩) | refine zah [] hcl rfl rfl rfl (fun p hp => by rw [hSH] at hp; exact hp) rfl ?_ | refine zce rfl ?_ | refine zao rfl ?_ | refine zan rfl ?_)
    all_goals refine zch ?_
    all_goals repeat (first | refine zck ?_ | refine zcl ?_ | refine zcm ?_ | refine zcn ?_)
    refine run_take [] rfl ?_
    exact ret_tmp2 rfl ⟨rfl, rfl⟩
  · rw [if_pos (.inr (by omega))] at hR
    have hru : ruleE (envM vs ks) e ts = tEach ts 1 := by
      unfold ruleE
      rw [if_neg (by omega), if_neg (by omega), if_neg (by omega), if_neg (by omega), if_neg (by omega), if_neg (by omega), if_neg (by omega)]
    rw [hru] at hR
    subst hR
    repeat (first | refine zck ?_ | refine zcl ?_ | refine zcm ?_ | refine zcn ?_)
    first | refine zcp (by kernel_rfl) ?_ | refine zcq PP_mixed (by kernel_rfl) (by kernel_rfl) ?_
    repeat' (refine zap rfl ?_; first | refine reg_indexA (sz := 1) (v := fnEa n5) rfl rfl ⟨by omega, by omega⟩ (by rw [hk]; rfl) ?_ | refine zan rfl ?_ | refine zan rfl ?_ | refine zaa 0 rfl rfl rfl ?_ | refine zaa 1 rfl rfl rfl ?_ | (refine zai [] (rulesTy_spec w0) rfl rfl rfl sub_nil ?_; rintro v Γ ⟨n1, n2, n3, n4, n5, rfl, rfl⟩) | (refine zai [4] (each1_spec w0 SH n5 mv ms 1 e _ _ _ ts hl2 (by omega)).owned rfl rfl rfl (fun p hp => by rw [hSH] at hp; exact hp) ?_; rintro v Γ ⟨_, ⟨rfl, rfl⟩, rfl⟩) | refine zce rfl ?_ | refine zao rfl ?_ | refine zan rfl ?_)
    all_goals refine zch ?_
    all_goals repeat (first | refine zck ?_ | refine zcl ?_ | refine zcm ?_ | refine zcn ?_)
    refine run_take [] rfl ?_
    exact ret_tmp2 rfl ⟨rfl, rfl⟩
theorem of_spec_ty (w0 : World) (vs : TV) (ks : List (ByteArray × ByteArray)) : ∀ n, n ≤ 100000 → OfS w0 vs ks n
  | 0, _ => fun sh mv ms e va vo h => by have := e.size_pos; omega
  | n + 1, hn => of_step w0 vs ks n (by omega) (of_spec_ty w0 vs ks n (by omega))
theorem typesOf_spec (w0 : World) (sh : Shared) (mv ms : Nat) (vs : TV) (ks : List (ByteArray × ByteArray)) (e : PE) (va vo : Value) (hs : e.size ≤ 100000) (hT : TyR w0 sh mv ms vs ks) (ha : RdEl w0 sh va e.args) (ho : RdEl w0 sh vo e.or) :
    FnE PP w0 sh 72 [.agg (List.toArray (peC e.kind e.num e.name e.meth va vo)), .map (some mv), .map (some ms)] [] (resT (typeOf (envM vs ks) e)) [] := by
  have hd := deep_spec w0 12 (by omega) sh e va vo (by omega) ha ho
  have hof := of_spec_ty w0 vs ks 100000 (Nat.le_refl _) sh mv ms e va vo hs hT ha ho
  unfold typeOf
  cases hq : deepB 12 e with
  | true =>
    rw [hq] at hd
    rw [if_pos rfl]
    refine fn_of_run en72 fn72 rfl rfl rfl ?_
    repeat (first | refine zck ?_ | refine zcl ?_ | refine zcm ?_ | refine zcn ?_)
    first | refine zcp (by kernel_rfl) ?_ | refine zcq PP_mixed (by kernel_rfl) (by kernel_rfl) ?_
    repeat' (refine zap rfl ?_; first | refine zan rfl ?_ | refine zaq (cs := [_, _, _, _, _, _]) rfl (fun nb => ?_))
    all_goals refine zch ?_
    all_goals repeat (first | refine zck ?_ | refine zcl ?_ | refine zcm ?_ | refine zcn ?_)
    refine run_share [0] rfl ?_
    repeat' (first | refine zck ?_ | refine zcp (by kernel_rfl) ?_ | (refine zap rfl ?_; first | refine zan rfl ?_ | refine zaa 0 rfl rfl rfl ?_ | refine zah [] hd rfl rfl rfl (fun p hp => .tail _ hp) rfl ?_) | refine zch ?_ | refine zci rfl ?_)
    exact ret_tmp2 rfl ⟨rfl, rfl⟩
  | false =>
    rw [hq] at hd
    rw [if_neg (by decide)]
    refine fn_of_run en72 fn72 rfl rfl rfl ?_
    repeat (first | refine zck ?_ | refine zcl ?_ | refine zcm ?_ | refine zcn ?_)
    first | refine zcp (by kernel_rfl) ?_ | refine zcq PP_mixed (by kernel_rfl) (by kernel_rfl) ?_
    repeat' (refine zap rfl ?_; first | refine zan rfl ?_ | refine zaq (cs := [_, _, _, _, _, _]) rfl (fun nb => ?_))
    all_goals refine zch ?_
    all_goals repeat (first | refine zck ?_ | refine zcl ?_ | refine zcm ?_ | refine zcn ?_)
    refine run_share [0] rfl ?_
    repeat' (first | refine zck ?_ | refine zcp (by kernel_rfl) ?_ | refine zcm ?_ | (refine zap rfl ?_; first | refine zan rfl ?_ | refine zan rfl ?_ | refine zaa 0 rfl rfl rfl ?_ | refine zah [] hd rfl rfl rfl (fun p hp => .tail _ hp) rfl ?_ | refine zah [] hof rfl rfl rfl (fun p hp => .tail _ hp) rfl ?_ | refine zan rfl ?_ | refine zcb rfl ?_) | refine zch ?_ | refine zcj rfl ?_)
    exact ret_tmp2 rfl ⟨rfl, rfl⟩
end Go.Proofs.YtfnjeldpfilplaaGreatDoor

namespace Sim
open Go Go.Vc
theorem lookV_none {s : ByteArray} : ∀ {l : TV}, s ∉ l.map (·.1) → lookV l s = none
  | [], _ => rfl
  | v :: l, h => by
    rw [List.map_cons, List.mem_cons, not_or] at h
    rw [lookV, if_neg (fun e => h.1 e.symm), lookV_none h.2]
theorem lookV_last {s : ByteArray} : ∀ {l : TV}, (l.map (·.1)).Nodup → ∀ (t : Int), lastT l s t = (lookV l s).getD t
  | [], _, _ => rfl
  | v :: l, h, t => by
    rw [List.map_cons, List.nodup_cons] at h
    rw [lastT, lookV]
    by_cases e : v.1 = s
    · rw [if_pos e, if_pos e, lookV_last h.2, lookV_none (by rw [← e]; exact h.1)]; rfl
    · rw [if_neg e, if_neg e, lookV_last h.2]
theorem envM_T {K : List (ByteArray × ByteArray)} {l : TV} (h : (l.map (·.1)).Nodup) : envM l K = envT (lookK K) l := by
  unfold envM envT
  congr 1
  funext s
  exact (lookV_last h 0).symm
theorem tvS_ins {l : TV} {n : ByteArray} {t : Int} (h : n ∉ l.map (·.1)) : insS (tvS l) n (.int .i64 t) = tvS (l ++ [(n, t)]) := by
  rw [insS_none _ _ _ (by rw [lookV_S, lookV_none h]; rfl)]
  simp [tvS]
theorem delS_mid {l m : TV} {v : ByteArray × Int} (h : ((l ++ v :: m).map (·.1)).Nodup) : delS (tvS (l ++ v :: m)) v.1 = tvS (l ++ m) := by
  induction l with
  | nil => show delS ((v.1, .int .i64 v.2) :: tvS m) v.1 = _; rw [delS, if_pos rfl]; rfl
  | cons u l ih =>
    rw [List.cons_append, List.map_cons, List.nodup_cons] at h
    show delS ((u.1, .int .i64 u.2) :: tvS (l ++ v :: m)) v.1 = _
    rw [delS, if_neg (fun e => h.1 (by rw [e]; exact List.mem_map_of_mem (List.mem_append_right _ (.head _)))), ih h.2]
    rfl
abbrev encN (v : ByteArray × Int) : List Value := [.string v.1]
end Sim
namespace Go.Proofs.YtfnjeldpfilplaaGreatDoor
open Go.Vc Sim
abbrev scPt (sb mv ms ma : Nat) (a : Option Addr) (n c : Nat) : Asn := pt sb (.cells (List.toArray [.map (some mv), .map (some ms), .map (some ma), .slice a n c]) 106 (0, 0))
abbrev nmA (a : Option Addr) (n c : Nat) (there : TV) : Asn := SlA 9 1 a n c (there.flatMap encN)
abbrev ScA (sb mv ms ma : Nat) (a : Option Addr) (c : Nat) (all there : TV) : List Asn := [scPt sb mv ms ma a there.length c, MapB mv (tvS there), MapB ma (tvS all), nmA a there.length c there]
set_option maxHeartbeats 2000000 in
theorem add_spec (w0 : World) (sb mv ms ma : Nat) (a : Option Addr) (c : Nat) (all there : TV) (nm : ByteArray) (t : Int) (h1 : nm ∉ all.map (·.1)) (h2 : nm ∉ there.map (·.1)) (hb : there.length ≤ 1000000) :
    Vc.Fn PP w0 [] 41 [.pointer (some ⟨sb, 0, none⟩), .string nm, .int .i64 t] (ScA sb mv ms ma a c all there)
      (fun v Γ => v = .tuple #[] ∧ ∃ a' c', Γ = ScA sb mv ms ma a' c' (all ++ [(nm, t)]) (there ++ [(nm, t)])) := by
  have e1 := tvS_ins (t := t) h1
  have e2 := tvS_ins (t := t) h2
  have p2 : ∀ A B C D : Asn, putAt 2 (MapB ma (insS (tvS all) nm (.int .i64 t))) [A, B, C, D] = some [A, B, MapB ma (tvS (all ++ [(nm, t)])), D] := fun A B C D => by rw [e1]; rfl
  have p1 : ∀ A B C D : Asn, putAt 1 (MapB mv (insS (tvS there) nm (.int .i64 t))) [A, B, C, D] = some [A, MapB mv (tvS (there ++ [(nm, t)])), C, D] := fun A B C D => by rw [e2]; rfl
  refine fn_of_run en41 fn41 rfl rfl rfl ?_
  repeat (first | refine zck ?_ | refine zcl ?_ | refine zcm ?_ | refine zcn ?_)
  first | refine zcp (by kernel_rfl) ?_ | refine zcr [(.quiet, 0), (.quiet, 1), (.quiet, 2), (.read, 3), (.quiet, 4), (.quiet, 5), (.quiet, 6), (.quiet, 7), (.quiet, 8), (.read, 9), (.quiet, 10), (.quiet, 11), (.quiet, 12), (.loud, 13), (.quiet, 14), (.loud, 15), (.loud, 16), (.quiet, 17), (.loud, 18)] PP_mixed (by kernel_rfl) (by kernel_rfl) ?_ | refine run_drawR PP_mixed (by kernel_rfl) (by kernel_rfl) ?_
  repeat' (refine zap rfl ?_; first | refine reg_mapEntryB 2 rfl rfl rfl (fun _ => rfl) (fun s1 => ?_) | refine reg_mapEntryB 1 rfl rfl rfl (fun _ => rfl) (fun s2 => ?_) | refine reg_entryStoreB 2 rfl rfl rfl rfl (p2 _ _ _ _) ?_ | refine reg_entryStoreB 1 rfl rfl rfl rfl (p1 _ _ _ _) ?_ | refine zan rfl ?_ | refine zab 0 rfl rfl rfl ?_ | refine zao rfl ?_ | refine zan rfl ?_ | refine zan rfl ?_)
  all_goals refine zch ?_
  all_goals repeat (first | refine zck ?_ | refine zcl ?_ | refine zcm ?_ | refine zcn ?_)
  repeat (first | refine zck ?_ | refine zcl ?_ | refine zcm ?_ | refine zcn ?_)
  first | refine zcp (by kernel_rfl) ?_ | refine zcq PP_mixed (by kernel_rfl) (by kernel_rfl) ?_
  repeat' (refine zap rfl ?_; first | refine reg_buildSlice rfl rfl rfl rfl rfl rfl (fun nb9 => ?_) | refine zan rfl ?_ | refine zab 0 rfl rfl rfl ?_ | refine reg_append 3 4 rfl rfl rfl rfl rfl rfl rfl rfl (by omega) (fun _ _ => rfl) (fun a5 c5 => ?_) | refine zao rfl ?_ | refine zae 0 rfl rfl rfl rfl rfl rfl rfl ?_ | refine zan rfl ?_)
  all_goals refine zch ?_
  all_goals repeat (first | refine zck ?_ | refine zcl ?_ | refine zcm ?_ | refine zcn ?_)
  refine run_take [0, 0, 0, 0] rfl ?_
  exact end_tmp0 rfl ⟨rfl, a5, c5, by
    unfold ScA scPt nmA
    rw [List.length_append, List.flatMap_append]
    rfl⟩
set_option maxHeartbeats 2000000 in
theorem back_spec (w0 : World) (sb mv ms ma : Nat) (a : Option Addr) (c : Nat) (all there m : TV) (hn : ((there ++ m).map (·.1)).Nodup) (hb : (there ++ m).length ≤ 1000000) :
    Vc.Fn PP w0 [] 56 [.pointer (some ⟨sb, 0, none⟩), .int .i64 there.length] (ScA sb mv ms ma a c all (there ++ m))
      (fun v Γ => v = .tuple #[] ∧ ∃ a' c', Γ = ScA sb mv ms ma a' c' all there) := by
  have hmain : Vc.Fn PP w0 [] 56 [.pointer (some ⟨sb, 0, none⟩), .int .i64 there.length] (ScA sb mv ms ma a c all (there ++ m))
      (fun v Γ => v = .tuple #[] ∧ Γ = [scPt sb mv ms ma a there.length there.length, MapB mv (tvS there), MapB ma (tvS all), nmA a (there ++ m).length c (there ++ m)]) := by
    refine fn_of_run en56 fn56 rfl rfl rfl ?_
    refine run_lendSl encN [3] rfl (fun _ _ => rfl) rfl ?_
    intro sh' hsub hR
    have hcap := hR.cap
    have hL : (there ++ m).length = there.length + m.length := List.length_append
    have hT := hR.tail (q := there.length) (by omega)
    rw [List.drop_left] at hT
    obtain ⟨at', ct', hvt, _⟩ := id hT
    have htl : tailV a (there ++ m).length c 1 (there.length : Int).toNat = .slice at' m.length ct' := by rw [Int.toNat_natCast]; exact hvt
    rw [hvt] at hT
    repeat (first | refine zck ?_ | refine zcl ?_ | refine zcm ?_ | refine zcn ?_)
    first | refine zcp (by kernel_rfl) ?_ | refine zcq PP_mixed (by kernel_rfl) (by kernel_rfl) ?_
    repeat' (refine zap rfl ?_; first | (refine reg_sliceT (sz := 1) rfl rfl ⟨by omega, by omega⟩ ?_; rw [htl]) | refine zan rfl ?_ | refine zab 0 rfl rfl rfl ?_ | refine zce rfl ?_ | refine zao rfl ?_ | refine zan rfl ?_)
    all_goals refine zch ?_
    all_goals repeat (first | refine zck ?_ | refine zcl ?_ | refine zcm ?_ | refine zcn ?_)
    refine run_loop (S := Nat) (fun j => [(0, .pointer (some ⟨sb, 0, none⟩)), (1, .int .i64 there.length), (11, .slice at' m.length ct'), (12, .int .i64 m.length), (13, .int .i64 (j : Int))])
      (fun j Γ => Γ = [scPt sb mv ms ma a (there ++ m).length c, MapB mv (tvS (there ++ m.drop j)), MapB ma (tvS all)] ∧ j ≤ m.length) (fun j => m.length - j) 0 ⟨rfl, rfl, rfl, rfl, rfl, trivial⟩ ⟨rfl, by omega⟩ ?_
    rintro j Γ junk ⟨rfl, g1⟩
    by_cases hj : j < m.length
    · obtain ⟨x, hx⟩ : ∃ x, m[j]? = some x := ⟨_, List.getElem?_eq_getElem hj⟩
      obtain ⟨b, off, cc, T, fr, rfl, e2, _, e4⟩ := hT.cells hx
      have hd : m.drop j = x :: m.drop (j + 1) := by
        rw [List.drop_eq_getElem_cons hj]
        congr 1
        exact (List.getElem?_eq_some_iff.1 hx).2
      have hdel : delS (tvS (there ++ m.drop j)) x.1 = tvS (there ++ m.drop (j + 1)) := by
        rw [hd]
        refine delS_mid ?_
        rw [← hd]
        have h5 : (there ++ m.drop j).Sublist (there ++ m) := (List.Sublist.refl _).append (List.drop_sublist _ _)
        exact (h5.map (·.1)).nodup hn
      have hput : ∀ A B C : Asn, putAt 1 (MapB mv (delS (tvS (there ++ m.drop j)) x.1)) [A, B, C] = some [A, MapB mv (tvS (there ++ m.drop (j + 1))), C] := fun A B C => by rw [hdel]; rfl
      repeat' (first | refine zck ?_ | refine zcp (by kernel_rfl) ?_ | refine zcm ?_ | refine zcl ?_ | refine zcn ?_ | (refine zap rfl ?_; first | refine zad rfl e2 (e4 0 _ rfl _ (by omega)) ?_ | refine zan rfl ?_ | refine zan rfl ?_ | refine zab 0 rfl rfl rfl ?_ | refine reg_deleteB 1 rfl rfl rfl (hput _ _ _) ?_ | refine zao rfl ?_ | refine zbg rfl rfl (by omega) ?_ | refine zau rfl rfl (by omega) ?_ | refine zan rfl ?_ | refine zas rfl rfl (by omega) ?_) | refine zch ?_ | refine zci rfl ?_)
      exact cut_end ⟨rfl, j + 1, ⟨rfl, rfl, rfl, rfl, int_eq (by omega), trivial⟩, ⟨rfl, by omega⟩, by omega⟩
    · have hjm : j = m.length := by omega
      subst hjm
      rw [List.drop_length, List.append_nil]
      repeat (first | refine zck ?_ | refine zcl ?_ | refine zcm ?_ | refine zcn ?_)
      first | refine zcp (by kernel_rfl) ?_ | refine zcq PP_mixed (by kernel_rfl) (by kernel_rfl) ?_
      repeat' (refine zap rfl ?_; first | refine zbh rfl rfl (by omega) ?_)
      all_goals refine zch ?_
      all_goals repeat (first | refine zck ?_ | refine zcl ?_ | refine zcm ?_ | refine zcn ?_)
      refine zcj rfl ?_
      refine cut_exit rfl rfl ?_
      repeat (first | refine zck ?_ | refine zcl ?_ | refine zcm ?_ | refine zcn ?_)
      first | refine zcp (by kernel_rfl) ?_ | refine zcq PP_mixed (by kernel_rfl) (by kernel_rfl) ?_
      repeat' (refine zap rfl ?_; first | refine reg_slice3 (sz := 1) rfl rfl rfl ⟨by omega, by omega, by omega⟩ ?_ | refine zan rfl ?_ | refine zab 0 rfl rfl rfl ?_ | refine zao rfl ?_ | refine zae 0 rfl rfl rfl rfl rfl rfl rfl ?_ | refine zan rfl ?_)
      all_goals refine zch ?_
      all_goals repeat (first | refine zck ?_ | refine zcl ?_ | refine zcm ?_ | refine zcn ?_)
      exact run_nil (leaves_nil (ends_none rfl ⟨rfl, rfl⟩))
  refine hmain.post ?_
  rintro v Γ ⟨rfl, rfl⟩
  refine ⟨ScA sb mv ms ma a there.length all there, ⟨rfl, a, there.length, rfl⟩, fun h hs => ?_⟩
  refine Stars.exchAt (A := nmA a (there ++ m).length c (there ++ m)) (B := nmA a there.length there.length there) (fun g hg => ?_) (j := 3) rfl rfl hs
  have h2 := SlA_cut (q := there.length) hg (by rw [List.length_append]; omega)
  have h3 : ((there ++ m).flatMap encN).take (there.length * 1) = there.flatMap encN := by
    rw [List.flatMap_append, Nat.mul_one]
    have : (there.flatMap encN).length = there.length := (flat_len (encE := encN) (q := 1) there (fun _ _ => rfl)).trans (Nat.mul_one _)
    rw [← this, List.take_left]
  rw [h3] at h2
  exact h2
end Go.Proofs.YtfnjeldpfilplaaGreatDoor

