import Derived.Test.YtgdhcgnmffgkiaaGreatDoorPart3
import Derived.Test.YtgdhcgnmffgkiaaGreatDoorKit
import Derived.Test.YtgdhcgnmffgkiaaGreatDoorPart4
/- Lemmas and walks for the claims of this seat (own work): Rc0 Rc1 Rc2 Rc3 Cl0. -/
namespace Sim
open Go Go.Vc
def rcRows : List ByteArray := [bs [103, 101, 116, 48, 32, 97, 100, 100, 49, 119, 32, 115, 101, 116, 49, 119], bs [112, 117, 115, 104, 49, 119, 32, 112, 111, 112, 48, 119, 32, 116, 111, 112, 48, 32, 108, 101, 110, 48], bs [112, 117, 116, 49, 119, 32, 116, 97, 107, 101, 48, 119, 32, 102, 105, 114, 115, 116, 48, 32, 108, 101, 110, 48], bs [112, 117, 115, 104, 95, 108, 101, 102, 116, 49, 119, 32, 112, 117, 115, 104, 95, 114, 105, 103, 104, 116, 49, 119, 32, 112, 111, 112, 95, 108, 101, 102, 116, 48, 119, 32, 112, 111, 112, 95, 114, 105, 103, 104, 116, 48, 119, 32, 108, 101, 102, 116, 48, 32, 114, 105, 103, 104, 116, 48, 32, 108, 101, 110, 48], bs [112, 117, 116, 50, 119, 32, 103, 101, 116, 49, 32, 104, 97, 115, 49, 32, 100, 114, 111, 112, 49, 119, 32, 108, 101, 110, 48], bs [112, 117, 116, 50, 119, 32, 103, 101, 116, 49, 32, 104, 97, 115, 49, 32, 100, 114, 111, 112, 49, 119, 32, 115, 117, 109, 50, 32, 99, 111, 117, 110, 116, 50, 32, 110, 101, 120, 116, 49, 32, 110, 116, 104, 49, 32, 108, 101, 110, 48], bs [112, 117, 115, 104, 50, 119, 32, 112, 111, 112, 48, 119, 32, 109, 105, 110, 48, 32, 108, 101, 97, 115, 116, 48, 32, 108, 111, 119, 101, 114, 50, 119, 32, 100, 114, 111, 112, 49, 119, 32, 108, 101, 110, 48], bs [112, 117, 115, 104, 49, 119, 32, 112, 111, 112, 48, 119, 32, 103, 101, 116, 49, 32, 115, 101, 116, 50, 119, 32, 115, 119, 97, 112, 50, 119, 32, 108, 101, 110, 48], bs [97, 100, 100, 49, 119, 32, 108, 105, 110, 107, 51, 119, 32, 99, 117, 116, 49, 119, 32, 100, 114, 111, 112, 49, 119, 32, 119, 101, 105, 103, 104, 116, 50, 32, 108, 97, 98, 101, 108, 49, 32, 111, 117, 116, 115, 49, 32, 105, 110, 115, 49, 32, 118, 101, 114, 116, 105, 99, 101, 115, 48, 32, 101, 100, 103, 101, 115, 48], bs [109, 97, 107, 101, 48, 119, 32, 102, 105, 110, 100, 49, 32, 117, 110, 105, 111, 110, 50, 119, 32, 117, 110, 100, 111, 48, 119, 32, 115, 97, 109, 101, 50, 32, 115, 105, 122, 101, 49, 32, 115, 101, 116, 115, 48]]
def rcW (w : ByteArray) : ByteArray := if w[w.size - 1]? = some 119 then w.extract 0 (w.size - 1) else w
def rcCut (w : ByteArray) : ByteArray × Int × Bool :=
  ((rcW w).extract 0 ((rcW w).size - 1), (((rcW w)[(rcW w).size - 1]?.getD 0).toNat : Int) - 48, decide (w[w.size - 1]? = some 119))
def rcStep (s : ByteArray) (i : Nat) (q : Nat × List (ByteArray × Int × Bool)) : Nat × List (ByteArray × Int × Bool) :=
  if s[i]? = some 32 then (i + 1, q.2 ++ [rcCut (s.extract q.1 i)]) else q
def rcAt (s : ByteArray) : Nat → Nat × List (ByteArray × Int × Bool)
  | 0 => (0, [])
  | i + 1 => rcStep s i (rcAt s i)
def rcS (k : Nat) : ByteArray := rcRows.getD k (bs []) ++ bs [32]
def rcOk (s : ByteArray) (i : Nat) : Bool :=
  if s[i]? = some 32 then decide ((rcAt s i).1 ≤ i) && (decide (1 ≤ (s.extract (rcAt s i).1 i).size) && decide (1 ≤ (rcW (s.extract (rcAt s i).1 i)).size)) else true
theorem rc_all : (List.range 10).all (fun k => (List.range (rcS k).size).all (rcOk (rcS k)) && decide ((rcAt (rcS k) (rcS k).size).2 = ctMeths (k : Int)) && decide ((rcS k).size ≤ 100)) = true := by decide +kernel
theorem rc_ok {k : Nat} (hk : k < 10) : (∀ i, i < (rcS k).size → rcOk (rcS k) i = true) ∧ (rcAt (rcS k) (rcS k).size).2 = ctMeths (k : Int) ∧ (rcS k).size ≤ 100 := by
  have h := List.all_eq_true.1 rc_all k (List.mem_range.2 hk)
  rw [Bool.and_eq_true, Bool.and_eq_true, decide_eq_true_eq, decide_eq_true_eq] at h
  exact ⟨fun i hi => List.all_eq_true.1 h.1.1 i (List.mem_range.2 hi), h.1.2, h.2⟩
def ixM : List (ByteArray × Int × Bool) → ByteArray → Nat → Option Nat
  | [], _, _ => none
  | m :: l, s, i => if m.1 = s then some i else ixM l s (i + 1)
theorem ixM_find : ∀ (l : List (ByteArray × Int × Bool)) (s : ByteArray) (i : Nat), (ixM l s i = none → l.find? (fun m => decide (m.1 = s)) = none) ∧ ∀ j, ixM l s i = some j → i ≤ j ∧ ∃ m, l[j - i]? = some m ∧ l.find? (fun m => decide (m.1 = s)) = some m
  | [], s, i => ⟨fun _ => rfl, fun j h => by cases h⟩
  | m :: l, s, i => by
    rw [ixM]
    by_cases h : m.1 = s
    · rw [if_pos h, List.find?_cons_of_pos (by simpa using h)]
      refine ⟨fun q => (by cases q), fun j q => ?_⟩
      cases q
      exact ⟨Nat.le_refl _, m, by simp, rfl⟩
    · rw [if_neg h, List.find?_cons_of_neg (by simpa using h)]
      obtain ⟨h1, h2⟩ := ixM_find l s (i + 1)
      refine ⟨h1, fun j q => ?_⟩
      obtain ⟨g1, x, g2, g3⟩ := h2 j q
      refine ⟨by omega, x, ?_, g3⟩
      have e : j - i = (j - (i + 1)) + 1 := by omega
      rw [e, List.getElem?_cons_succ]
      exact g2
end Sim

namespace Go.Vc
theorem strs_rd {l : List ByteArray} {j : Nat} {x : ByteArray} (hx : l[j]? = some x) : ∀ o, o = 0 + j * 1 → rd false 1 (l.flatMap encY) o = some (.string x) := fun o ho => by
  have := flat_at (encE := encY) (q := 1) l (fun _ _ => rfl) j x hx 0 _ rfl
  exact rd_one (c := (l.flatMap encY).toArray) (o := j * 1 + 0) (by simpa using this) o (by omega)
end Go.Vc
namespace Sim
open Go Go.Vc
theorem ixZ_drop {s : ByteArray} {l : List ByteArray} {j : Nat} {x : ByteArray} {z : Int} (h : l[j]? = some x) : ixZ s (l.drop j) z = if s = x then z else ixZ s (l.drop (j + 1)) (z + 1) := by
  have hj := (List.getElem?_eq_some_iff.1 h).1
  rw [List.drop_eq_getElem_cons hj, (List.getElem?_eq_some_iff.1 h).2, ixZ]
def refKind (s : ByteArray) : Int := ixZ s ctNames 0
end Sim
namespace Go.Proofs.YtgdhcgnmffgkiaaGreatDoor
open Go.Vc Sim
set_option maxHeartbeats 4000000
theorem refNames_own (w0 : World) : Vc.Fn PP w0 [] 27 [] [] (fun v Γ => ∃ nb, v = .slice (some ⟨nb, 0, none⟩) 10 10 ∧ Γ = [pt nb (.cells (List.toArray (ctNames.flatMap encY)) 9 (0, 0))]) := by
  refine fn_of_run en27 fn27 rfl rfl rfl ?_
  repeat' (first | refine zck ?_ | refine zcp (by kernel_rfl) ?_ | (refine zap rfl ?_; first | refine reg_buildSlice rfl rfl rfl rfl rfl rfl (fun nb => ?_) | refine zan rfl ?_) | refine zch ?_)
  exact ret_tmp1 rfl ⟨_, rfl, rfl⟩
theorem refRows_own (w0 : World) : Vc.Fn PP w0 [] 30 [] [] (fun v Γ => ∃ nb, v = .slice (some ⟨nb, 0, none⟩) 10 10 ∧ Γ = [pt nb (.cells (List.toArray (rcRows.flatMap encY)) 9 (0, 0))]) := by
  refine fn_of_run en30 fn30 rfl rfl rfl ?_
  repeat' (first | refine zck ?_ | refine zcp (by kernel_rfl) ?_ | (refine zap rfl ?_; first | refine reg_buildSlice rfl rfl rfl rfl rfl rfl (fun nb => ?_) | refine zan rfl ?_) | refine zch ?_)
  exact ret_tmp1 rfl ⟨_, rfl, rfl⟩
theorem refKind_spec (w0 : World) (s : ByteArray) : FnE PP w0 [] 25 [.string s] [] (.int .i64 (refKind s)) [] := by
  obtain ⟨Z, hZ⟩ : ∃ Z, refKind s = Z := ⟨_, rfl⟩
  rw [hZ]
  unfold refKind at hZ
  refine fn_of_run en25 fn25 rfl rfl rfl ?_
  repeat (first | refine zck ?_ | refine zcl ?_ | refine zcm ?_ | refine zcn ?_)
  first | refine zcp (by kernel_rfl) ?_ | refine zcq PP_mixed (by kernel_rfl) (by kernel_rfl) ?_
  repeat' (refine zap rfl ?_; first | refine zan rfl ?_)
  all_goals refine zch ?_
  all_goals repeat (first | refine zck ?_ | refine zcl ?_ | refine zcm ?_ | refine zcn ?_)
  repeat (first | refine zck ?_ | refine zcl ?_ | refine zcm ?_ | refine zcn ?_)
  first | refine zcp (by kernel_rfl) ?_ | refine zcq PP_mixed (by kernel_rfl) (by kernel_rfl) ?_
  repeat' (refine zap rfl ?_; first | refine zan rfl ?_)
  all_goals refine zch ?_
  all_goals repeat (first | refine zck ?_ | refine zcl ?_ | refine zcm ?_ | refine zcn ?_)
  refine run_loop (S := Nat) (fun j => [(0, .string s), (3, .int .i64 (j : Int))]) (fun j Γ => Γ = [] ∧ j ≤ 10 ∧ ixZ s (ctNames.drop j) (j : Int) = Z) (fun j => 10 - j) 0 ⟨rfl, rfl, trivial⟩ ⟨rfl, Nat.zero_le _, hZ⟩ ?_
  rintro j Γ junk ⟨rfl, g1, g2⟩
  by_cases hj : j < 10
  · obtain ⟨x, hx⟩ : ∃ x, ctNames[j]? = some x := ⟨_, List.getElem?_eq_getElem (by show j < 10; exact hj)⟩
    rw [ixZ_drop hx] at g2
    repeat (first | refine zck ?_ | refine zcl ?_ | refine zcm ?_ | refine zcn ?_)
    first | refine zcp (by kernel_rfl) ?_ | refine zcq PP_mixed (by kernel_rfl) (by kernel_rfl) ?_
    repeat' (refine zap rfl ?_; first | refine zan rfl ?_ | refine zbg rfl rfl (by omega) ?_)
    all_goals refine zch ?_
    all_goals repeat (first | refine zck ?_ | refine zcl ?_ | refine zcm ?_ | refine zcn ?_)
    refine zci rfl ?_
    by_cases he : s = x
    · rw [if_pos he] at g2
      repeat (first | refine zck ?_ | refine zcl ?_ | refine zcm ?_ | refine zcn ?_)
      first | refine zcp (by kernel_rfl) ?_ | refine zcq PP_mixed (by kernel_rfl) (by kernel_rfl) ?_
      repeat' (refine zap rfl ?_; first | refine zab 0 rfl rfl (strs_rd hx _ (by omega)) ?_ | refine reg_eqST rfl rfl he.symm ?_ | refine zan rfl ?_ | (refine zai [] (refNames_own w0) rfl rfl rfl sub_nil ?_; rintro v Γ ⟨nb, rfl, rfl⟩) | refine zas rfl rfl (by omega) ?_)
      all_goals refine zch ?_
      all_goals repeat (first | refine zck ?_ | refine zcl ?_ | refine zcm ?_ | refine zcn ?_)
      refine zci rfl ?_
      refine run_take [] rfl ?_
      repeat' (first | refine zck ?_ | refine zcp (by kernel_rfl) ?_ | (refine zap rfl ?_; first | refine zan rfl ?_ | refine zan rfl ?_) | refine zch ?_)
      exact qret1 (fun _ _ h => h) rfl ⟨int_eq g2, rfl⟩
    · rw [if_neg he] at g2
      repeat (first | refine zck ?_ | refine zcl ?_ | refine zcm ?_ | refine zcn ?_)
      first | refine zcp (by kernel_rfl) ?_ | refine zcq PP_mixed (by kernel_rfl) (by kernel_rfl) ?_
      repeat' (refine zap rfl ?_; first | refine zab 0 rfl rfl (strs_rd hx _ (by omega)) ?_ | refine reg_eqSF rfl rfl (fun q => he q.symm) ?_ | refine zan rfl ?_ | (refine zai [] (refNames_own w0) rfl rfl rfl sub_nil ?_; rintro v Γ ⟨nb, rfl, rfl⟩) | refine zas rfl rfl (by omega) ?_)
      all_goals refine zch ?_
      all_goals repeat (first | refine zck ?_ | refine zcl ?_ | refine zcm ?_ | refine zcn ?_)
      refine zcj rfl ?_
      refine run_take [] rfl ?_
      repeat' (first | refine zcp (by kernel_rfl) ?_ | refine zcm ?_ | refine zcn ?_ | (refine zap rfl ?_; first | refine zan rfl ?_ | refine zan rfl ?_ | refine zau rfl rfl (by omega) ?_) | refine zch ?_)
      exact cut_end ⟨rfl, j + 1, ⟨rfl, int_eq (by omega), trivial⟩, ⟨rfl, by omega, g2⟩, by omega⟩
  · have h10 : j = 10 := by omega
    subst h10
    repeat (first | refine zck ?_ | refine zcl ?_ | refine zcm ?_ | refine zcn ?_)
    first | refine zcp (by kernel_rfl) ?_ | refine zcq PP_mixed (by kernel_rfl) (by kernel_rfl) ?_
    repeat' (refine zap rfl ?_; first | refine zan rfl ?_ | refine zbh rfl rfl (by omega) ?_)
    all_goals refine zch ?_
    all_goals repeat (first | refine zck ?_ | refine zcl ?_ | refine zcm ?_ | refine zcn ?_)
    refine zcj rfl ?_
    refine cut_exit rfl rfl ?_
    repeat' (first | refine zck ?_ | refine zcp (by kernel_rfl) ?_ | (refine zap rfl ?_; first | refine zan rfl ?_) | refine zch ?_)
    exact ret_tmp1 rfl ⟨int_eq g2, rfl⟩
end Go.Proofs.YtgdhcgnmffgkiaaGreatDoor

namespace Go.Vc
open Sim
abbrev encMM (x : ByteArray × Int × Bool) : List Value := [.string x.1, .int .i64 x.2.1, .bool x.2.2]
end Go.Vc
namespace Go.Proofs.YtgdhcgnmffgkiaaGreatDoor
open Go.Vc Sim
theorem methods_val (w0 : World) (k : Int) : Vc.Fn PP w0 [] 37 [.int .i64 k] [] (fun v Γ => ∃ a c, v = .slice a (msK k).length c ∧ Γ = [Rds fun bl => RdSl w0 bl encM 4 (.slice a (msK k).length c) (msK k)]) := by
  refine (methods_spec w0 k).know ?_
  rintro v Γ rfl hst
  obtain ⟨bl, hbl⟩ := Rds.st hst
  obtain ⟨a, c, hv, _⟩ := id hbl
  subst hv
  exact ⟨a, c, rfl, rfl⟩
set_option maxHeartbeats 2000000 in
theorem methodsX_spec (w0 : World) (k : Int) : Vc.Fn PP w0 [] 21 [.int .i64 k] [] (fun v Γ => ∃ a c, v = .slice a (ctMeths k).length c ∧ Γ = [Rds fun bl => RdSl w0 bl encMM 3 (.slice a (ctMeths k).length c) (ctMeths k)]) := by
  have hk := methods_val w0 k
  have hn := msK_len k
  have hrows := msK_rows k
  refine fn_of_run en21 fn21 rfl rfl rfl ?_
  repeat (first | refine zck ?_ | refine zcl ?_ | refine zcm ?_ | refine zcn ?_)
  first | refine zcp (by kernel_rfl) ?_ | refine zcq PP_mixed (by kernel_rfl) (by kernel_rfl) ?_
  repeat' (refine zap rfl ?_; first | refine zan rfl ?_)
  all_goals refine zch ?_
  all_goals repeat (first | refine zck ?_ | refine zcl ?_ | refine zcm ?_ | refine zcn ?_)
  repeat (first | refine zck ?_ | refine zcl ?_ | refine zcm ?_ | refine zcn ?_)
  first | refine zcp (by kernel_rfl) ?_ | refine zcq PP_mixed (by kernel_rfl) (by kernel_rfl) ?_
  repeat' (refine zap rfl ?_; first | refine zan rfl ?_)
  all_goals refine zch ?_
  all_goals repeat (first | refine zck ?_ | refine zcl ?_ | refine zcm ?_ | refine zcn ?_)
  repeat (first | refine zck ?_ | refine zcl ?_ | refine zcm ?_ | refine zcn ?_)
  first | refine zcp (by kernel_rfl) ?_ | refine zcq PP_mixed (by kernel_rfl) (by kernel_rfl) ?_
  repeat' (refine zap rfl ?_; first | refine zan rfl ?_ | refine zce rfl ?_ | (refine zai [] hk rfl rfl rfl sub_nil ?_; rintro v Γ ⟨av, cv, rfl, rfl⟩))
  all_goals refine zch ?_
  all_goals repeat (first | refine zck ?_ | refine zcl ?_ | refine zcm ?_ | refine zcn ?_)
  refine run_shareB [0] rfl (fun bl hbl => ?_)
  refine run_nilslice 57 3 ?_
  refine run_loop (S := Nat × Option Addr × Nat) (fun s => [(3, .slice s.2.1 s.1 s.2.2), (7, .slice av (msK k).length cv), (8, .int .i64 (msK k).length), (9, .int .i64 s.1)])
    (fun s Γ => Γ = [SlA 57 3 s.2.1 s.1 s.2.2 ((((msK k).take s.1).map (·.1)).flatMap encMM)] ∧ s.1 ≤ (msK k).length) (fun s => (msK k).length - s.1) (0, none, 0)
    ⟨rfl, rfl, rfl, rfl, trivial⟩ ⟨rfl, Nat.zero_le _⟩ ?_
  rintro ⟨j, a, c⟩ Γ junk ⟨rfl, g1⟩
  dsimp only at g1 ⊢
  by_cases hj : j < (msK k).length
  · obtain ⟨x, hx⟩ : ∃ x, (msK k)[j]? = some x := ⟨_, List.getElem?_eq_getElem hj⟩
    obtain ⟨b, off, cc, T, fr, rfl, e2, e3, _⟩ := hbl.cells hx
    have hm := method_spec w0 x.1 (.func (.func x.2) #[] #[])
    repeat (first | refine zck ?_ | refine zcl ?_ | refine zcm ?_ | refine zcn ?_)
    first | refine zcp (by kernel_rfl) ?_ | refine zcq PP_mixed (by kernel_rfl) (by kernel_rfl) ?_
    repeat' (refine zap rfl ?_; first | refine zbg rfl rfl (by omega) ?_)
    all_goals refine zch ?_
    all_goals repeat (first | refine zck ?_ | refine zcl ?_ | refine zcm ?_ | refine zcn ?_)
    refine zci rfl ?_
    repeat (first | refine zck ?_ | refine zcl ?_ | refine zcm ?_ | refine zcn ?_)
    first | refine zcp (by kernel_rfl) ?_ | refine zcq PP_mixed (by kernel_rfl) (by kernel_rfl) ?_
    repeat' (refine zap rfl ?_; first | refine zad rfl (fun hF Γ w h1 h2 => e2 hF Γ w (fun p hp => h1 p (by simp [hp])) h2) (e3 _ (by omega)) ?_ | refine zae 1 rfl rfl rfl rfl rfl rfl rfl ?_ | refine zas rfl rfl (by omega) ?_ | refine zar (fun nb => ?_))
    all_goals refine zch ?_
    all_goals repeat (first | refine zck ?_ | refine zcl ?_ | refine zcm ?_ | refine zcn ?_)
    repeat (first | refine zck ?_ | refine zcl ?_ | refine zcm ?_ | refine zcn ?_)
    first | refine zcp (by kernel_rfl) ?_ | refine zcq PP_mixed (by kernel_rfl) (by kernel_rfl) ?_
    repeat' (refine zap rfl ?_; first | refine reg_buildSlice rfl rfl rfl rfl rfl rfl (fun nb9 => ?_) | refine zan rfl ?_ | refine zan rfl ?_ | refine zab 1 rfl rfl rfl ?_ | refine zah [] hm rfl rfl rfl sub_nil rfl ?_ | refine reg_append 0 2 rfl rfl rfl rfl rfl rfl rfl rfl (by omega) (fun _ _ => rfl) (fun a5 c5 => ?_))
    all_goals refine zch ?_
    all_goals repeat (first | refine zck ?_ | refine zcl ?_ | refine zcm ?_ | refine zcn ?_)
    refine run_take [0] rfl ?_
    repeat' (first | refine zcp (by kernel_rfl) ?_ | (refine zap rfl ?_; first | refine zan rfl ?_ | refine zau rfl rfl (by omega) ?_) | refine zch ?_)
    refine cut_end ⟨rfl, (j + 1, a5, c5), ⟨rfl, rfl, rfl, int_eq (by dsimp only; omega), trivial⟩, ⟨?_, by dsimp only; omega⟩, by dsimp only; omega⟩
    dsimp only
    rw [take_snoc hx, List.map_append, List.flatMap_append]
    rfl
  · repeat (first | refine zck ?_ | refine zcl ?_ | refine zcm ?_ | refine zcn ?_)
    first | refine zcp (by kernel_rfl) ?_ | refine zcq PP_mixed (by kernel_rfl) (by kernel_rfl) ?_
    repeat' (refine zap rfl ?_; first | refine zbh rfl rfl (by omega) ?_)
    all_goals refine zch ?_
    all_goals repeat (first | refine zck ?_ | refine zcl ?_ | refine zcm ?_ | refine zcn ?_)
    refine zcj rfl ?_
    refine cut_exit rfl rfl ?_
    have hjl : j = (msK k).length := by omega
    subst hjl
    have hl : (ctMeths k).length = (msK k).length := by rw [← hrows, List.length_map]
    rw [hl]
    refine run_slR encMM 0 (l := ctMeths k) rfl (by rw [List.take_of_length_le (Nat.le_refl _), hrows]) (fun _ _ => rfl) hl rfl ?_
    repeat' (first | refine zck ?_ | refine zcp (by kernel_rfl) ?_ | (refine zap rfl ?_; first | refine zan rfl ?_ | refine zan rfl ?_) | refine zch ?_)
    exact ret_tmp1 rfl ⟨a, c, rfl, rfl⟩
set_option maxHeartbeats 4000000
abbrev mV (m : ByteArray × Int × Bool) : Value := .agg (List.toArray (encMM m))
theorem str_eqIn (d : Nat) (s : ByteArray) (w : World) : (Op.equalIn (d + 1) 9 (.string s) (.string s)).run PP w = .ok true w := by
  have h : PP.underlying 9 = some .string := by rw [PP_def, Tryz.underlying9]
  have hb : (s == s) = true := by simp [str_beq]
  simp [Op.equalIn, run_underlying h, hb]
theorem int_eqIn1 (d : Nat) (m : Int) (w : World) : (Op.equalIn (d + 1) 3 (.int .i64 m) (.int .i64 m)).run PP w = .ok true w := by
  have h : PP.underlying 3 = some (.int .i64) := by rw [PP_def, Tryz.underlying3]
  simp [Op.equalIn, run_underlying h]
theorem bool_eqIn (d : Nat) (b : Bool) (w : World) : (Op.equalIn (d + 1) 4 (.bool b) (.bool b)).run PP w = .ok true w := by
  have h : PP.underlying 4 = some .bool := by rw [PP_def, Tryz.underlying4]
  simp [Op.equalIn, run_underlying h]
theorem run_equalM {P : Program} {t : TypeId} {u v : Value} {q : Bool} {w : World} (h : ∀ d, (Op.equalIn (d + 2) t u v).run P w = .ok q w) : (Op.equal t u v).run P w = .ok q w := h 9998
theorem mthR_underlying : PP.underlying 33 = some (.struct #[⟨"Name", 9, 0, false, "", "", 0⟩, ⟨"Args", 3, 1, false, "", "", 16⟩, ⟨"Writes", 4, 2, false, "", "", 24⟩]) := by
  rw [PP_def, Tryz.underlying33]
theorem mthR_stood : PP.stoodInHeld 33 = false := by rw [PP_def]; kernel_rfl
theorem mthR_guard : PP.eqGuardType PP.depth 33 = false := by rw [PP_def]; kernel_rfl
theorem mthR_equal (m : ByteArray × Int × Bool) (w : World) : (Op.equal 33 (mV m) (mV m)).run PP w = .ok true w := by
  obtain ⟨a, b, c⟩ := m
  have a1 : ∀ w, (isAgg 9).run PP w = .ok false w := fun w => TShape.agg_run w
  have a2 : ∀ w, (isAgg 3).run PP w = .ok false w := fun w => TShape.agg_run w
  have a3 : ∀ w, (isAgg 4).run PP w = .ok false w := fun w => TShape.agg_run w
  have p2 : ∀ w, (part 9 #[Value.string a, .int .i64 b, .bool c] 0).run PP w = .ok (.string a) w := fun w => by simp [part, a1]
  have p3 : ∀ w, (part 3 #[Value.string a, .int .i64 b, .bool c] 1).run PP w = .ok (.int .i64 b) w := fun w => by simp [part, a2]
  have p4 : ∀ w, (part 4 #[Value.string a, .int .i64 b, .bool c] 2).run PP w = .ok (.bool c) w := fun w => by simp [part, a3]
  refine run_equalM (fun d => ?_)
  rw [Op.equalIn]
  simp only [Sem.run_bind, run_underlying mthR_underlying, Result.andThen_ok]
  have hs : (program).run PP w = .ok PP w := rfl
  simp only [hs, Result.andThen_ok, mthR_stood, Bool.false_eq_true, if_false]
  simp [← Array.forIn_toList, p2, p3, p4, str_eqIn, int_eqIn1, bool_eqIn]
section
variable {w0 : World} {n : Nat} {sh : Shared} {Q : Exit → Env → List Deferred → List Asn → Prop} {k : List Item} {ρ : Env} {df : List Deferred} {Γ : List Asn}
variable {ops : Array Oper} {l : List (Fl × Nat × Oper)} {bf : Fl} {i d : Nat} {ty : TypeId} {pos : String} {aft : Array Edge} {x y : Operand} {yt : TypeId} {m m' : ByteArray × Int × Bool}
theorem reg_eqmR (hx : ev ρ x = mV m) (hy : ev ρ y = mV m') (he : m = m')
    (h : Reg PP w0 n sh Q ops l k (ρ.set d (.bool true)) df Γ) : Reg PP w0 n sh Q ops ((bf, i, ⟨some d, .binOp .eql 33 x y yt, ty, pos, aft, none⟩) :: l) k ρ df Γ :=
  reg_quiet rfl (fun hF _ => quiet_of_run fun w => by
    subst he
    have hs : (program).run PP w = .ok PP w := rfl
    have hg : (eqGuard .eql 33 x y (mV m) (mV m)).run PP w = .ok () w := by
      simp [eqGuard, hs, mthR_guard]
    have hb : (binOp .eql 33 (mV m) (mV m)).run PP w = .ok (.bool true) w := by
      show (do let r ← Op.equal _ _ _; pure (Value.bool r) : Sem Value).run PP w = _
      simp [mthR_equal]
    simp only [execOp, hx, hy, Sem.run_bind, hg, hb, Result.andThen_ok, Sem.run_pure]) h
theorem reg_nemR (hx : ev ρ x = mV m) (hy : ev ρ y = mV m') (he : m = m')
    (h : Reg PP w0 n sh Q ops l k (ρ.set d (.bool false)) df Γ) : Reg PP w0 n sh Q ops ((bf, i, ⟨some d, .binOp .neq 33 x y yt, ty, pos, aft, none⟩) :: l) k ρ df Γ :=
  reg_quiet rfl (fun hF _ => quiet_of_run fun w => by
    subst he
    have hs : (program).run PP w = .ok PP w := rfl
    have hg : (eqGuard .neq 33 x y (mV m) (mV m)).run PP w = .ok () w := by
      simp [eqGuard, hs, mthR_guard]
    have hb : (binOp .neq 33 (mV m) (mV m)).run PP w = .ok (.bool false) w := by
      show (do let r ← Op.equal _ _ _; pure (Value.bool (!r)) : Sem Value).run PP w = _
      simp [mthR_equal]
    simp only [execOp, hx, hy, Sem.run_bind, hg, hb, Result.andThen_ok, Sem.run_pure]) h
end
theorem mthC_underlying : PP.underlying 57 = some (.struct #[⟨"Name", 9, 0, false, "", "", 0⟩, ⟨"Args", 3, 1, false, "", "", 16⟩, ⟨"Writes", 4, 2, false, "", "", 24⟩]) := by
  rw [PP_def, Tryz.underlying57]
theorem mthC_stood : PP.stoodInHeld 57 = false := by rw [PP_def]; kernel_rfl
theorem mthC_guard : PP.eqGuardType PP.depth 57 = false := by rw [PP_def]; kernel_rfl
theorem mthC_equal (m : ByteArray × Int × Bool) (w : World) : (Op.equal 57 (mV m) (mV m)).run PP w = .ok true w := by
  obtain ⟨a, b, c⟩ := m
  have a1 : ∀ w, (isAgg 9).run PP w = .ok false w := fun w => TShape.agg_run w
  have a2 : ∀ w, (isAgg 3).run PP w = .ok false w := fun w => TShape.agg_run w
  have a3 : ∀ w, (isAgg 4).run PP w = .ok false w := fun w => TShape.agg_run w
  have p2 : ∀ w, (part 9 #[Value.string a, .int .i64 b, .bool c] 0).run PP w = .ok (.string a) w := fun w => by simp [part, a1]
  have p3 : ∀ w, (part 3 #[Value.string a, .int .i64 b, .bool c] 1).run PP w = .ok (.int .i64 b) w := fun w => by simp [part, a2]
  have p4 : ∀ w, (part 4 #[Value.string a, .int .i64 b, .bool c] 2).run PP w = .ok (.bool c) w := fun w => by simp [part, a3]
  refine run_equalM (fun d => ?_)
  rw [Op.equalIn]
  simp only [Sem.run_bind, run_underlying mthC_underlying, Result.andThen_ok]
  have hs : (program).run PP w = .ok PP w := rfl
  simp only [hs, Result.andThen_ok, mthC_stood, Bool.false_eq_true, if_false]
  simp [← Array.forIn_toList, p2, p3, p4, str_eqIn, int_eqIn1, bool_eqIn]
section
variable {w0 : World} {n : Nat} {sh : Shared} {Q : Exit → Env → List Deferred → List Asn → Prop} {k : List Item} {ρ : Env} {df : List Deferred} {Γ : List Asn}
variable {ops : Array Oper} {l : List (Fl × Nat × Oper)} {bf : Fl} {i d : Nat} {ty : TypeId} {pos : String} {aft : Array Edge} {x y : Operand} {yt : TypeId} {m m' : ByteArray × Int × Bool}
theorem reg_eqmC (hx : ev ρ x = mV m) (hy : ev ρ y = mV m') (he : m = m')
    (h : Reg PP w0 n sh Q ops l k (ρ.set d (.bool true)) df Γ) : Reg PP w0 n sh Q ops ((bf, i, ⟨some d, .binOp .eql 57 x y yt, ty, pos, aft, none⟩) :: l) k ρ df Γ :=
  reg_quiet rfl (fun hF _ => quiet_of_run fun w => by
    subst he
    have hs : (program).run PP w = .ok PP w := rfl
    have hg : (eqGuard .eql 57 x y (mV m) (mV m)).run PP w = .ok () w := by
      simp [eqGuard, hs, mthC_guard]
    have hb : (binOp .eql 57 (mV m) (mV m)).run PP w = .ok (.bool true) w := by
      show (do let r ← Op.equal _ _ _; pure (Value.bool r) : Sem Value).run PP w = _
      simp [mthC_equal]
    simp only [execOp, hx, hy, Sem.run_bind, hg, hb, Result.andThen_ok, Sem.run_pure]) h
end
end Go.Proofs.YtgdhcgnmffgkiaaGreatDoor

namespace Sim
open Go Go.Vc
theorem rcAt_skip {s : ByteArray} {i : Nat} (h : s[i]? ≠ some 32) : rcAt s (i + 1) = rcAt s i := by
  rw [rcAt, rcStep, if_neg h]
theorem rcAt_cut {s : ByteArray} {i : Nat} (h : s[i]? = some 32) : rcAt s (i + 1) = (i + 1, (rcAt s i).2 ++ [rcCut (s.extract (rcAt s i).1 i)]) := by
  rw [rcAt, rcStep, if_pos h]
theorem rcAt_len (s : ByteArray) : ∀ i, (rcAt s i).2.length ≤ i
  | 0 => Nat.le_refl _
  | i + 1 => by
    have ih := rcAt_len s i
    by_cases h : s[i]? = some 32
    · rw [rcAt_cut h]
      simp only [List.length_append, List.length_singleton]
      omega
    · rw [rcAt_skip h]
      omega
def refFind (k : Int) (s : ByteArray) : Int := match ixM (ctMeths k) s 0 with | some j => (j : Int) | none => -1
theorem ixM_drop {l : List (ByteArray × Int × Bool)} {s : ByteArray} {j z : Nat} {x : ByteArray × Int × Bool} (h : l[j]? = some x) : ixM (l.drop j) s z = if x.1 = s then some z else ixM (l.drop (j + 1)) s (z + 1) := by
  have hj := (List.getElem?_eq_some_iff.1 h).1
  rw [List.drop_eq_getElem_cons hj, (List.getElem?_eq_some_iff.1 h).2, ixM]
end Sim
namespace Go.Proofs.YtgdhcgnmffgkiaaGreatDoor
open Go.Vc Sim
set_option maxHeartbeats 1600000
theorem refMethods_spec (w0 : World) (k : Int) : Vc.Fn PP w0 [] 10 [.int .i64 k] [] (fun v Γ => ∃ a c, v = .slice a (ctMeths k).length c ∧ Γ = [Rds fun bl => RdSl w0 bl encMM 3 (.slice a (ctMeths k).length c) (ctMeths k)]) := by
  by_cases hk : k < 0 ∨ 9 < k
  · have he : ctMeths k = [] := by unfold ctMeths; rw [if_neg (by omega)]
    rw [he]
    by_cases h0 : k < 0
    · refine fn_of_run en10 fn10 rfl rfl rfl ?_
      refine run_emptyR (fun bl => RdSl w0 bl encMM 3 (.slice none 0 0) []) RdSl.nil ?_
      repeat' (first | refine zck ?_ | refine zcp (by kernel_rfl) ?_ | (refine zap rfl ?_; first | refine zak rfl ?_ | refine zan rfl ?_ | refine zan rfl ?_ | refine zbg rfl rfl (by omega) ?_ | refine zbu rfl ?_) | refine zch ?_ | refine zci rfl ?_)
      exact ret_tmp1 rfl ⟨none, 0, rfl, rfl⟩
    · refine fn_of_run en10 fn10 rfl rfl rfl ?_
      refine run_emptyR (fun bl => RdSl w0 bl encMM 3 (.slice none 0 0) []) RdSl.nil ?_
      repeat' (first | refine zck ?_ | refine zcp (by kernel_rfl) ?_ | (refine zap rfl ?_; first | refine zaj rfl ?_ | refine zan rfl ?_ | refine zan rfl ?_ | refine zbh rfl rfl (by omega) ?_ | refine zbk rfl rfl (by omega) ?_ | refine zbv rfl ?_) | refine zch ?_ | refine zci rfl ?_)
      exact ret_tmp1 rfl ⟨none, 0, rfl, rfl⟩
  obtain ⟨q, rfl⟩ : ∃ q : Nat, k = (q : Int) := ⟨k.toNat, by omega⟩
  have hq : q < 10 := by omega
  obtain ⟨hok, hres, hsz⟩ := rc_ok hq
  obtain ⟨row, hrow⟩ : ∃ row, rcRows[q]? = some row := ⟨_, List.getElem?_eq_getElem (by show q < 10; exact hq)⟩
  have hS0 : rcS q = row ++ bs [32] := by unfold rcS; rw [List.getD_eq_getElem?_getD, hrow]; rfl
  have hrs : row.size + 1 ≤ 100 := by rw [hS0, ByteArray.size_append] at hsz; exact hsz
  obtain ⟨S, hS⟩ : ∃ S, S = rcS q := ⟨_, rfl⟩
  rw [← hS] at hok hres hsz hS0
  rw [← hres]
  refine fn_of_run en10 fn10 rfl rfl rfl ?_
  repeat (first | refine zck ?_ | refine zcl ?_ | refine zcm ?_ | refine zcn ?_)
  first | refine zcp (by kernel_rfl) ?_ | refine zcq PP_mixed (by kernel_rfl) (by kernel_rfl) ?_
  repeat' (refine zap rfl ?_; first | refine zan rfl ?_)
  all_goals refine zch ?_
  all_goals repeat (first | refine zck ?_ | refine zcl ?_ | refine zcm ?_ | refine zcn ?_)
  repeat (first | refine zck ?_ | refine zcl ?_ | refine zcm ?_ | refine zcn ?_)
  first | refine zcp (by kernel_rfl) ?_ | refine zcq PP_mixed (by kernel_rfl) (by kernel_rfl) ?_
  repeat' (refine zap rfl ?_; first | refine zaj rfl ?_ | refine zan rfl ?_ | refine zbh rfl rfl (by omega) ?_ | refine zbl rfl rfl (by omega) ?_ | refine zbv rfl ?_)
  all_goals refine zch ?_
  all_goals repeat (first | refine zck ?_ | refine zcl ?_ | refine zcm ?_ | refine zcn ?_)
  refine zcj rfl ?_
  repeat (first | refine zck ?_ | refine zcl ?_ | refine zcm ?_ | refine zcn ?_)
  first | refine zcp (by kernel_rfl) ?_ | refine zcq PP_mixed (by kernel_rfl) (by kernel_rfl) ?_
  repeat' (refine zap rfl ?_; first | refine zan rfl ?_)
  all_goals refine zch ?_
  all_goals repeat (first | refine zck ?_ | refine zcl ?_ | refine zcm ?_ | refine zcn ?_)
  repeat (first | refine zck ?_ | refine zcl ?_ | refine zcm ?_ | refine zcn ?_)
  first | refine zcp (by kernel_rfl) ?_ | refine zcq PP_mixed (by kernel_rfl) (by kernel_rfl) ?_
  repeat' (refine zap rfl ?_; first | refine zab 0 rfl rfl (strs_rd hrow _ (by omega)) ?_ | refine reg_addS rfl rfl (Nat.le_trans hrs (by decide)) ?_ | refine zan rfl ?_ | refine zan rfl ?_ | (refine zai [] (refRows_own w0) rfl rfl rfl sub_nil ?_; rintro v Γ ⟨nb, rfl, rfl⟩) | refine zas rfl rfl (by omega) ?_)
  all_goals refine zch ?_
  all_goals repeat (first | refine zck ?_ | refine zcl ?_ | refine zcm ?_ | refine zcn ?_)
  refine run_take [] rfl ?_
  repeat (first | refine zck ?_ | refine zcl ?_ | refine zcm ?_ | refine zcn ?_ | refine zco ?_)
  repeat (first | refine zck ?_ | refine zcl ?_ | refine zcm ?_ | refine zcn ?_)
  first | refine zcp (by kernel_rfl) ?_ | refine zcq PP_mixed (by kernel_rfl) (by kernel_rfl) ?_
  repeat' (refine zap rfl ?_; first | refine zan rfl ?_)
  all_goals refine zch ?_
  all_goals repeat (first | refine zck ?_ | refine zcl ?_ | refine zcm ?_ | refine zcn ?_)
  repeat (first | refine zck ?_ | refine zcl ?_ | refine zcm ?_ | refine zcn ?_)
  first | refine zcp (by kernel_rfl) ?_ | refine zcq PP_mixed (by kernel_rfl) (by kernel_rfl) ?_
  repeat' (refine zap rfl ?_; first | refine zan rfl ?_)
  all_goals refine zch ?_
  all_goals repeat (first | refine zck ?_ | refine zcl ?_ | refine zcm ?_ | refine zcn ?_)
  refine run_nilslice 33 3 ?_
  refine run_loop (S := Nat × Option Addr × Nat) (fun s => [(3, .slice s.2.1 (rcAt S s.1).2.length s.2.2), (4, .string S), (5, .int .i64 ((rcAt S s.1).1 : Int)), (6, .int .i64 (s.1 : Int))])
    (fun s Γ => Γ = [SlA 33 3 s.2.1 (rcAt S s.1).2.length s.2.2 ((rcAt S s.1).2.flatMap encMM)] ∧ s.1 ≤ S.size) (fun s => S.size - s.1) (0, none, 0) ⟨rfl, congrArg Value.string hS0.symm, rfl, rfl, trivial⟩ ⟨rfl, Nat.zero_le _⟩ ?_
  rintro ⟨i, a, c⟩ Γ junk ⟨rfl, g1⟩
  dsimp only at g1 ⊢
  by_cases hi : i < S.size
  rotate_left
  · have hil : i = S.size := by omega
    subst hil
    repeat (first | refine zck ?_ | refine zcl ?_ | refine zcm ?_ | refine zcn ?_)
    first | refine zcp (by kernel_rfl) ?_ | refine zcq PP_mixed (by kernel_rfl) (by kernel_rfl) ?_
    repeat' (refine zap rfl ?_; first | refine zan rfl ?_ | refine reg_lenS rfl ?_ | refine zbh rfl rfl (by omega) ?_)
    all_goals refine zch ?_
    all_goals repeat (first | refine zck ?_ | refine zcl ?_ | refine zcm ?_ | refine zcn ?_)
    refine zcj rfl ?_
    refine cut_exit rfl rfl ?_
    refine run_slR encMM 0 (l := (rcAt S S.size).2) rfl rfl (fun _ _ => rfl) rfl rfl ?_
    repeat' (first | refine zck ?_ | refine zcp (by kernel_rfl) ?_ | (refine zap rfl ?_; first | refine zan rfl ?_ | refine zan rfl ?_) | refine zch ?_)
    exact ret_tmp1 rfl ⟨a, c, rfl, rfl⟩
  have hal := rcAt_len S i
  obtain ⟨u, hu⟩ : ∃ u, S[i]? = some u := ⟨_, getElem?_pos S i hi⟩
  by_cases hw : u = 32
  rotate_left
  · have hne : (u.toNat : Int) ≠ 32 := fun h => hw (UInt8.toNat_inj.1 (by show u.toNat = 32; omega))
    have hsk := rcAt_skip (s := S) (i := i) (by rw [hu]; exact fun h => hw (Option.some.inj h))
    repeat (first | refine zck ?_ | refine zcl ?_ | refine zcm ?_ | refine zcn ?_)
    first | refine zcp (by kernel_rfl) ?_ | refine zcq PP_mixed (by kernel_rfl) (by kernel_rfl) ?_
    repeat' (refine zap rfl ?_; first | refine zan rfl ?_ | refine reg_lenS rfl ?_ | refine zbg rfl rfl (by omega) ?_)
    all_goals refine zch ?_
    all_goals repeat (first | refine zck ?_ | refine zcl ?_ | refine zcm ?_ | refine zcn ?_)
    refine zci rfl ?_
    repeat (first | refine zck ?_ | refine zcl ?_ | refine zcm ?_ | refine zcn ?_)
    first | refine zcp (by kernel_rfl) ?_ | refine zcq PP_mixed (by kernel_rfl) (by kernel_rfl) ?_
    repeat' (refine zap rfl ?_; first | refine reg_idxS (u := u) rfl rfl (by omega) hu ?_ | refine zan rfl ?_ | refine zbe rfl rfl (by omega) ?_)
    all_goals refine zch ?_
    all_goals repeat (first | refine zck ?_ | refine zcl ?_ | refine zcm ?_ | refine zcn ?_)
    refine zci rfl ?_
    repeat' (first | refine zcp (by kernel_rfl) ?_ | refine zcs rfl ?_ | (refine zap rfl ?_; first | refine zan rfl ?_ | refine zan rfl ?_ | refine zau rfl rfl (by omega) ?_) | refine zch ?_)
    exact cut_end ⟨rfl, (i + 1, a, c), ⟨congrArg (fun q : Nat × List (ByteArray × Int × Bool) => Value.slice a q.2.length c) hsk.symm, rfl, congrArg (fun q : Nat × List (ByteArray × Int × Bool) => Value.int .i64 (q.1 : Int)) hsk.symm, int_eq (by dsimp only; omega), trivial⟩, ⟨congrArg (fun q : Nat × List (ByteArray × Int × Bool) => [SlA 33 3 a q.2.length c (q.2.flatMap encMM)]) hsk.symm, by dsimp only; omega⟩, by dsimp only; omega⟩
  subst hw
  have h32 : ((32 : UInt8).toNat : Int) = 32 := rfl
  have hct := rcAt_cut hu
  have hk1 := hok i hi
  unfold rcOk at hk1
  rw [if_pos hu, Bool.and_eq_true, Bool.and_eq_true, decide_eq_true_eq, decide_eq_true_eq, decide_eq_true_eq] at hk1
  obtain ⟨w, hwd⟩ : ∃ w, S.extract (rcAt S i).1 i = w := ⟨_, rfl⟩
  rw [hwd] at hct hk1
  obtain ⟨k1, k2, k3⟩ := hk1
  obtain ⟨W, hW⟩ : ∃ W, rcW w = W := ⟨_, rfl⟩
  rw [hW] at k3
  obtain ⟨u1, hu1⟩ : ∃ u1, w[w.size - 1]? = some u1 := ⟨_, getElem?_pos w (w.size - 1) (by omega)⟩
  obtain ⟨u2, hu2⟩ : ∃ u2, W[W.size - 1]? = some u2 := ⟨_, getElem?_pos W (W.size - 1) (by omega)⟩
  have hws : w.size ≤ 100 := by rw [← hwd, ByteArray.size_extract]; omega
  have hWs : W.size ≤ 100 := by
    rw [← hW]
    unfold rcW
    split
    · rw [ByteArray.size_extract]; omega
    · exact hws
  have e1 : ((w.size : Int) - 1).toNat = w.size - 1 := by omega
  have e2 : ((W.size : Int) - 1).toNat = W.size - 1 := by omega
  have i1 : w[((w.size : Int) - 1).toNat]? = some u1 := by rw [e1]; exact hu1
  have i2 : W[((W.size : Int) - 1).toNat]? = some u2 := by rw [e2]; exact hu2
  have hext : S.extract ((rcAt S i).1 : Int).toNat ((i : Nat) : Int).toNat = w := hwd
  have hnm : W.extract 0 ((W.size : Int) - 1).toNat = W.extract 0 (W.size - 1) := by rw [e2]
  have hb1 := u1.toNat_lt
  have hb2 := u2.toNat_lt
  have hcut : rcCut w = (W.extract 0 (W.size - 1), (u2.toNat : Int) - 48, decide (w[w.size - 1]? = some 119)) := by
    unfold rcCut
    rw [hW, hu2]
    rfl
  repeat (first | refine zck ?_ | refine zcl ?_ | refine zcm ?_ | refine zcn ?_)
  first | refine zcp (by kernel_rfl) ?_ | refine zcq PP_mixed (by kernel_rfl) (by kernel_rfl) ?_
  repeat' (refine zap rfl ?_; first | refine zan rfl ?_ | refine reg_lenS rfl ?_ | refine zbg rfl rfl (by omega) ?_)
  all_goals refine zch ?_
  all_goals repeat (first | refine zck ?_ | refine zcl ?_ | refine zcm ?_ | refine zcn ?_)
  refine zci rfl ?_
  repeat (first | refine zck ?_ | refine zcl ?_ | refine zcm ?_ | refine zcn ?_)
  first | refine zcp (by kernel_rfl) ?_ | refine zcq PP_mixed (by kernel_rfl) (by kernel_rfl) ?_
  repeat' (refine zap rfl ?_; first | refine reg_idxS (u := 32) rfl rfl (by omega) hu ?_ | refine zan rfl ?_ | refine zbf rfl rfl (by omega) ?_)
  all_goals refine zch ?_
  all_goals repeat (first | refine zck ?_ | refine zcl ?_ | refine zcm ?_ | refine zcn ?_)
  refine zcj rfl ?_
  repeat (first | refine zck ?_ | refine zcl ?_ | refine zcm ?_ | refine zcn ?_)
  first | refine zcp (by kernel_rfl) ?_ | refine zcq PP_mixed (by kernel_rfl) (by kernel_rfl) ?_
  repeat' (refine zap rfl ?_; first | refine reg_subSe rfl rfl rfl (by omega) hext ?_ | refine zan rfl ?_ | refine zan rfl ?_)
  all_goals refine zch ?_
  all_goals repeat (first | refine zck ?_ | refine zcl ?_ | refine zcm ?_ | refine zcn ?_)
  repeat (first | refine zck ?_ | refine zcl ?_ | refine zcm ?_ | refine zcn ?_)
  first | refine zcp (by kernel_rfl) ?_ | refine zcq PP_mixed (by kernel_rfl) (by kernel_rfl) ?_
  repeat' (refine zap rfl ?_; first | refine zan rfl ?_ | refine zan rfl ?_ | refine zau rfl rfl (by omega) ?_)
  all_goals refine zch ?_
  all_goals repeat (first | refine zck ?_ | refine zcl ?_ | refine zcm ?_ | refine zcn ?_)
  repeat (first | refine zck ?_ | refine zcl ?_ | refine zcm ?_ | refine zcn ?_)
  first | refine zcp (by kernel_rfl) ?_ | refine zcq PP_mixed (by kernel_rfl) (by kernel_rfl) ?_
  repeat' (refine zap rfl ?_; first | refine zar (fun t8 => ?_) | refine zae 1 rfl rfl rfl rfl rfl rfl rfl ?_ | refine zcb rfl ?_)
  all_goals refine zch ?_
  all_goals repeat (first | refine zck ?_ | refine zcl ?_ | refine zcm ?_ | refine zcn ?_)
  by_cases h119 : u1 = 119
  · have hm : ((119 : UInt8).toNat : Int) = 119 := rfl
    have hW1 : w.extract 0 ((w.size : Int) - 1).toNat = W := by
      rw [← hW, e1]
      unfold rcW
      rw [if_pos (by rw [hu1, h119])]
    subst h119
    rw [hu1, decide_eq_true rfl] at hcut
    rw [hcut] at hct
    repeat (first | refine zck ?_ | refine zcl ?_ | refine zcm ?_ | refine zcn ?_)
    first | refine zcp (by kernel_rfl) ?_ | refine zcq PP_mixed (by kernel_rfl) (by kernel_rfl) ?_
    repeat' (refine zap rfl ?_; first | refine reg_idxS rfl rfl (by omega) i1 ?_ | refine zan rfl ?_ | refine reg_lenS rfl ?_ | refine zbc rfl rfl (by omega) ?_ | refine zav rfl rfl (by omega) ?_)
    all_goals refine zch ?_
    all_goals repeat (first | refine zck ?_ | refine zcl ?_ | refine zcm ?_ | refine zcn ?_)
    refine zci rfl ?_
    repeat (first | refine zck ?_ | refine zcl ?_ | refine zcm ?_ | refine zcn ?_)
    first | refine zcp (by kernel_rfl) ?_ | refine zcq PP_mixed (by kernel_rfl) (by kernel_rfl) ?_
    repeat' (refine zap rfl ?_; first | refine zao rfl ?_ | refine zae 1 rfl rfl rfl rfl rfl rfl rfl ?_)
    all_goals refine zch ?_
    all_goals repeat (first | refine zck ?_ | refine zcl ?_ | refine zcm ?_ | refine zcn ?_)
    repeat (first | refine zck ?_ | refine zcl ?_ | refine zcm ?_ | refine zcn ?_)
    first | refine zcp (by kernel_rfl) ?_ | refine zcq PP_mixed (by kernel_rfl) (by kernel_rfl) ?_
    repeat' (refine zap rfl ?_; first | refine reg_preSe rfl rfl (by omega) hW1 ?_ | refine zan rfl ?_ | refine zan rfl ?_ | refine reg_lenS rfl ?_ | refine zav rfl rfl (by omega) ?_)
    all_goals refine zch ?_
    all_goals repeat (first | refine zck ?_ | refine zcl ?_ | refine zcm ?_ | refine zcn ?_)
    repeat (first | refine zck ?_ | refine zcl ?_ | refine zcm ?_ | refine zcn ?_)
    first | refine zcp (by kernel_rfl) ?_ | refine zcq PP_mixed (by kernel_rfl) (by kernel_rfl) ?_
    repeat' (refine zap rfl ?_; first | refine reg_idxS rfl rfl (by omega) i2 ?_ | refine zan rfl ?_ | refine reg_lenS rfl ?_ | refine zao rfl ?_ | refine zav rfl rfl (by omega) ?_ | refine zae 1 rfl rfl rfl rfl rfl rfl rfl ?_ | refine zbz rfl (by omega) ?_)
    all_goals refine zch ?_
    all_goals repeat (first | refine zck ?_ | refine zcl ?_ | refine zcm ?_ | refine zcn ?_)
    repeat (first | refine zck ?_ | refine zcl ?_ | refine zcm ?_ | refine zcn ?_)
    first | refine zcp (by kernel_rfl) ?_ | refine zcq PP_mixed (by kernel_rfl) (by kernel_rfl) ?_
    repeat' (refine zap rfl ?_; first | refine reg_preSe rfl rfl (by omega) hnm ?_ | refine zan rfl ?_ | refine reg_lenS rfl ?_ | refine zao rfl ?_ | refine zav rfl rfl (by omega) ?_ | refine zae 1 rfl rfl rfl rfl rfl rfl rfl ?_)
    all_goals refine zch ?_
    all_goals repeat (first | refine zck ?_ | refine zcl ?_ | refine zcm ?_ | refine zcn ?_)
    repeat (first | refine zck ?_ | refine zcl ?_ | refine zcm ?_ | refine zcn ?_)
    first | refine zcp (by kernel_rfl) ?_ | refine zcq PP_mixed (by kernel_rfl) (by kernel_rfl) ?_
    repeat' (refine zap rfl ?_; first | refine reg_buildSlice rfl rfl rfl rfl rfl rfl (fun nb9 => ?_) | refine zan rfl ?_ | refine zan rfl ?_ | refine zab 1 rfl rfl rfl ?_ | refine reg_append 0 2 rfl rfl rfl rfl rfl rfl rfl rfl (by omega) (fun _ _ => rfl) (fun a5 c5 => ?_))
    all_goals refine zch ?_
    all_goals repeat (first | refine zck ?_ | refine zcl ?_ | refine zcm ?_ | refine zcn ?_)
    refine run_take [0] rfl ?_
    refine run_exch 0 (SlA 33 3 a5 ((rcAt S i).2.length + 1) c5 ((rcAt S i).2.flatMap encMM ++ encMM (W.extract 0 (W.size - 1), (u2.toNat : Int) - 48, true))) rfl (fun g hg => hg) rfl ?_
    repeat (first | refine zck ?_ | refine zcl ?_ | refine zcm ?_ | refine zcn ?_ | refine zco ?_)
    have q1 : (rcAt S i).2.length + 1 = (rcAt S (i + 1)).2.length := by rw [hct, List.length_append]; rfl
    have q2 : ((i : Int) + 1) = ((rcAt S (i + 1)).1 : Int) := by rw [hct]; dsimp only; omega
    have q3 : (rcAt S i).2.flatMap encMM ++ encMM (W.extract 0 (W.size - 1), (u2.toNat : Int) - 48, true) = (rcAt S (i + 1)).2.flatMap encMM := by rw [hct, List.flatMap_append]; rfl
    have q4 : [SlA 33 3 a5 ((rcAt S i).2.length + 1) c5 ((rcAt S i).2.flatMap encMM ++ encMM (W.extract 0 (W.size - 1), (u2.toNat : Int) - 48, true))] = [SlA 33 3 a5 (rcAt S (i + 1)).2.length c5 ((rcAt S (i + 1)).2.flatMap encMM)] := by rw [q3, q1]
    repeat' (first | refine zcp (by kernel_rfl) ?_ | (refine zap rfl ?_; first | refine zan rfl ?_ | refine zan rfl ?_ | refine zau rfl rfl (by omega) ?_) | refine zch ?_)
    exact cut_end ⟨rfl, (i + 1, a5, c5), ⟨congrArg (fun n => Value.slice a5 n c5) q1, rfl, congrArg (fun z : Int => Value.int .i64 z) q2, int_eq (by dsimp only; omega), trivial⟩, ⟨q4, by dsimp only; omega⟩, by dsimp only; omega⟩
  · have hne : (u1.toNat : Int) ≠ 119 := fun h => h119 (UInt8.toNat_inj.1 (by show u1.toNat = 119; omega))
    have hW1 : w = W := by
      rw [← hW]
      unfold rcW
      rw [if_neg (by rw [hu1]; exact fun h => h119 (Option.some.inj h))]
    rw [hu1, decide_eq_false (fun h => h119 (Option.some.inj h))] at hcut
    rw [hcut] at hct
    subst hW1
    repeat (first | refine zck ?_ | refine zcl ?_ | refine zcm ?_ | refine zcn ?_)
    first | refine zcp (by kernel_rfl) ?_ | refine zcq PP_mixed (by kernel_rfl) (by kernel_rfl) ?_
    repeat' (refine zap rfl ?_; first | refine reg_idxS rfl rfl (by omega) i1 ?_ | refine zan rfl ?_ | refine reg_lenS rfl ?_ | refine zbd rfl rfl (by omega) ?_ | refine zav rfl rfl (by omega) ?_)
    all_goals refine zch ?_
    all_goals repeat (first | refine zck ?_ | refine zcl ?_ | refine zcm ?_ | refine zcn ?_)
    refine zcj rfl ?_
    repeat (first | refine zck ?_ | refine zcl ?_ | refine zcm ?_ | refine zcn ?_)
    first | refine zcp (by kernel_rfl) ?_ | refine zcq PP_mixed (by kernel_rfl) (by kernel_rfl) ?_
    repeat' (refine zap rfl ?_; first | refine reg_idxS rfl rfl (by omega) i2 ?_ | refine zan rfl ?_ | refine reg_lenS rfl ?_ | refine zao rfl ?_ | refine zav rfl rfl (by omega) ?_ | refine zae 1 rfl rfl rfl rfl rfl rfl rfl ?_ | refine zbz rfl (by omega) ?_)
    all_goals refine zch ?_
    all_goals repeat (first | refine zck ?_ | refine zcl ?_ | refine zcm ?_ | refine zcn ?_)
    repeat (first | refine zck ?_ | refine zcl ?_ | refine zcm ?_ | refine zcn ?_)
    first | refine zcp (by kernel_rfl) ?_ | refine zcq PP_mixed (by kernel_rfl) (by kernel_rfl) ?_
    repeat' (refine zap rfl ?_; first | refine reg_preSe rfl rfl (by omega) hnm ?_ | refine zan rfl ?_ | refine reg_lenS rfl ?_ | refine zao rfl ?_ | refine zav rfl rfl (by omega) ?_ | refine zae 1 rfl rfl rfl rfl rfl rfl rfl ?_)
    all_goals refine zch ?_
    all_goals repeat (first | refine zck ?_ | refine zcl ?_ | refine zcm ?_ | refine zcn ?_)
    repeat (first | refine zck ?_ | refine zcl ?_ | refine zcm ?_ | refine zcn ?_)
    first | refine zcp (by kernel_rfl) ?_ | refine zcq PP_mixed (by kernel_rfl) (by kernel_rfl) ?_
    repeat' (refine zap rfl ?_; first | refine reg_buildSlice rfl rfl rfl rfl rfl rfl (fun nb9 => ?_) | refine zan rfl ?_ | refine zan rfl ?_ | refine zab 1 rfl rfl rfl ?_ | refine reg_append 0 2 rfl rfl rfl rfl rfl rfl rfl rfl (by omega) (fun _ _ => rfl) (fun a5 c5 => ?_))
    all_goals refine zch ?_
    all_goals repeat (first | refine zck ?_ | refine zcl ?_ | refine zcm ?_ | refine zcn ?_)
    refine run_take [0] rfl ?_
    refine run_exch 0 (SlA 33 3 a5 ((rcAt S i).2.length + 1) c5 ((rcAt S i).2.flatMap encMM ++ encMM (w.extract 0 (w.size - 1), (u2.toNat : Int) - 48, false))) rfl (fun g hg => hg) rfl ?_
    repeat (first | refine zck ?_ | refine zcl ?_ | refine zcm ?_ | refine zcn ?_ | refine zco ?_)
    have q1 : (rcAt S i).2.length + 1 = (rcAt S (i + 1)).2.length := by rw [hct, List.length_append]; rfl
    have q2 : ((i : Int) + 1) = ((rcAt S (i + 1)).1 : Int) := by rw [hct]; dsimp only; omega
    have q3 : (rcAt S i).2.flatMap encMM ++ encMM (w.extract 0 (w.size - 1), (u2.toNat : Int) - 48, false) = (rcAt S (i + 1)).2.flatMap encMM := by rw [hct, List.flatMap_append]; rfl
    have q4 : [SlA 33 3 a5 ((rcAt S i).2.length + 1) c5 ((rcAt S i).2.flatMap encMM ++ encMM (w.extract 0 (w.size - 1), (u2.toNat : Int) - 48, false))] = [SlA 33 3 a5 (rcAt S (i + 1)).2.length c5 ((rcAt S (i + 1)).2.flatMap encMM)] := by rw [q3, q1]
    repeat' (first | refine zcp (by kernel_rfl) ?_ | (refine zap rfl ?_; first | refine zan rfl ?_ | refine zan rfl ?_ | refine zau rfl rfl (by omega) ?_) | refine zch ?_)
    exact cut_end ⟨rfl, (i + 1, a5, c5), ⟨congrArg (fun n => Value.slice a5 n c5) q1, rfl, congrArg (fun z : Int => Value.int .i64 z) q2, int_eq (by dsimp only; omega), trivial⟩, ⟨q4, by dsimp only; omega⟩, by dsimp only; omega⟩
theorem refFind_spec (w0 : World) (k : Int) (name : ByteArray) : FnE PP w0 [] 18 [.int .i64 k, .string name] [] (.int .i64 (refFind k name)) [] := by
  have hl10 : (ctMeths k).length ≤ 10 := by
    have h := msK_len k
    rw [← msK_rows k, List.length_map]
    exact h
  obtain ⟨X, hX⟩ : ∃ X, ixM (ctMeths k) name 0 = X := ⟨_, rfl⟩
  unfold refFind
  rw [hX]
  have hme := refMethods_spec w0 k
  generalize ctMeths k = l at *
  refine fn_of_run en18 fn18 rfl rfl rfl ?_
  repeat (first | refine zck ?_ | refine zcl ?_ | refine zcm ?_ | refine zcn ?_)
  first | refine zcp (by kernel_rfl) ?_ | refine zcq PP_mixed (by kernel_rfl) (by kernel_rfl) ?_
  repeat' (refine zap rfl ?_; first | refine zan rfl ?_)
  all_goals refine zch ?_
  all_goals repeat (first | refine zck ?_ | refine zcl ?_ | refine zcm ?_ | refine zcn ?_)
  repeat (first | refine zck ?_ | refine zcl ?_ | refine zcm ?_ | refine zcn ?_)
  first | refine zcp (by kernel_rfl) ?_ | refine zcq PP_mixed (by kernel_rfl) (by kernel_rfl) ?_
  repeat' (refine zap rfl ?_; first | refine zan rfl ?_ | refine zan rfl ?_ | (refine zai [] hme rfl rfl rfl sub_nil ?_; rintro v Γ ⟨a, c, rfl, rfl⟩))
  all_goals refine zch ?_
  all_goals repeat (first | refine zck ?_ | refine zcl ?_ | refine zcm ?_ | refine zcn ?_)
  refine run_shareB [0] rfl (fun bl hbl => ?_)
  repeat (first | refine zck ?_ | refine zcl ?_ | refine zcm ?_ | refine zcn ?_ | refine zco ?_)
  repeat (first | refine zck ?_ | refine zcl ?_ | refine zcm ?_ | refine zcn ?_)
  first | refine zcp (by kernel_rfl) ?_ | refine zcq PP_mixed (by kernel_rfl) (by kernel_rfl) ?_
  repeat' (refine zap rfl ?_; first | refine zan rfl ?_)
  all_goals refine zch ?_
  all_goals repeat (first | refine zck ?_ | refine zcl ?_ | refine zcm ?_ | refine zcn ?_)
  refine run_loop (S := Nat) (fun j => [(1, .string name), (5, .slice a l.length c), (6, .int .i64 (j : Int))]) (fun j Γ => Γ = [] ∧ j ≤ l.length ∧ ixM (l.drop j) name j = X) (fun j => l.length - j) 0 ⟨rfl, rfl, rfl, trivial⟩ ⟨rfl, Nat.zero_le _, hX⟩ ?_
  rintro j Γ junk ⟨rfl, g1, g2⟩
  by_cases hj : j < l.length
  · obtain ⟨x, hx⟩ : ∃ x, l[j]? = some x := ⟨_, List.getElem?_eq_getElem hj⟩
    obtain ⟨b, off, cc, T, fr, rfl, e2, _, e4⟩ := hbl.cells hx
    have r0 : ∀ o, o = off + j * 3 + 0 → rd false 1 cc.toList o = some (.string x.1) := fun o ho => e4 0 _ rfl o ho
    rw [ixM_drop hx] at g2
    repeat (first | refine zck ?_ | refine zcl ?_ | refine zcm ?_ | refine zcn ?_)
    first | refine zcp (by kernel_rfl) ?_ | refine zcq PP_mixed (by kernel_rfl) (by kernel_rfl) ?_
    repeat' (refine zap rfl ?_; first | refine zan rfl ?_ | refine zce rfl ?_ | refine zbg rfl rfl (by omega) ?_)
    all_goals refine zch ?_
    all_goals repeat (first | refine zck ?_ | refine zcl ?_ | refine zcm ?_ | refine zcn ?_)
    refine zci rfl ?_
    by_cases he : x.1 = name
    · rw [if_pos he] at g2
      subst g2
      repeat (first | refine zck ?_ | refine zcl ?_ | refine zcm ?_ | refine zcn ?_)
      first | refine zcp (by kernel_rfl) ?_ | refine zcq PP_mixed (by kernel_rfl) (by kernel_rfl) ?_
      repeat' (refine zap rfl ?_; first | refine zad rfl (fun hF Γ w h1 h2 => e2 hF Γ w (fun p hp => h1 p (by simp [hp])) h2) (r0 _ (by omega)) ?_ | refine reg_eqST rfl rfl he ?_ | refine zan rfl ?_ | refine zao rfl ?_ | refine zas rfl rfl (by omega) ?_)
      all_goals refine zch ?_
      all_goals repeat (first | refine zck ?_ | refine zcl ?_ | refine zcm ?_ | refine zcn ?_)
      refine zci rfl ?_
      repeat' (first | refine zck ?_ | refine zcp (by kernel_rfl) ?_ | (refine zap rfl ?_; first | refine zan rfl ?_ | refine zan rfl ?_) | refine zch ?_)
      exact qret1 (fun _ _ h => h) rfl ⟨rfl, rfl⟩
    · rw [if_neg he] at g2
      repeat (first | refine zck ?_ | refine zcl ?_ | refine zcm ?_ | refine zcn ?_)
      first | refine zcp (by kernel_rfl) ?_ | refine zcq PP_mixed (by kernel_rfl) (by kernel_rfl) ?_
      repeat' (refine zap rfl ?_; first | refine zad rfl (fun hF Γ w h1 h2 => e2 hF Γ w (fun p hp => h1 p (by simp [hp])) h2) (r0 _ (by omega)) ?_ | refine reg_eqSF rfl rfl he ?_ | refine zan rfl ?_ | refine zao rfl ?_ | refine zas rfl rfl (by omega) ?_)
      all_goals refine zch ?_
      all_goals repeat (first | refine zck ?_ | refine zcl ?_ | refine zcm ?_ | refine zcn ?_)
      refine zcj rfl ?_
      repeat' (first | refine zcp (by kernel_rfl) ?_ | refine zcm ?_ | refine zcn ?_ | (refine zap rfl ?_; first | refine zan rfl ?_ | refine zan rfl ?_ | refine zau rfl rfl (by omega) ?_) | refine zch ?_)
      exact cut_end ⟨rfl, j + 1, ⟨rfl, rfl, int_eq (by omega), trivial⟩, ⟨rfl, by omega, g2⟩, by omega⟩
  · rw [List.drop_of_length_le (by omega), ixM] at g2
    subst g2
    repeat (first | refine zck ?_ | refine zcl ?_ | refine zcm ?_ | refine zcn ?_)
    first | refine zcp (by kernel_rfl) ?_ | refine zcq PP_mixed (by kernel_rfl) (by kernel_rfl) ?_
    repeat' (refine zap rfl ?_; first | refine zan rfl ?_ | refine zce rfl ?_ | refine zbh rfl rfl (by omega) ?_)
    all_goals refine zch ?_
    all_goals repeat (first | refine zck ?_ | refine zcl ?_ | refine zcm ?_ | refine zcn ?_)
    refine zcj rfl ?_
    refine cut_exit rfl rfl ?_
    repeat' (first | refine zck ?_ | refine zcp (by kernel_rfl) ?_ | (refine zap rfl ?_; first | refine zan rfl ?_) | refine zch ?_)
    exact ret_tmp1 rfl ⟨rfl, rfl⟩
end Go.Proofs.YtgdhcgnmffgkiaaGreatDoor

namespace Sim
open Go Go.Vc
theorem refKind_eq (s : ByteArray) : refKind s = match ctKind s with | some j => (j : Int) | none => -1 := ixZ_ixS s ctNames 0
theorem ctMeths_pos : ∀ k : Nat, k < 10 → 0 < (ctMeths (k : Int)).length := by decide +kernel
theorem ctName_ne : ∀ k : Nat, k < 10 → ctName (k : Int) ≠ bs [] := by decide +kernel
theorem ctName_at {k : Nat} (h : k < 10) : ctNames[k]? = some (ctName (k : Int)) := by
  obtain ⟨x, hx⟩ : ∃ x, ctNames[k]? = some x := ⟨_, List.getElem?_eq_getElem (by show k < 10; exact h)⟩
  rw [hx]
  unfold ctName
  rw [if_pos (by omega), Int.toNat_natCast, List.getD_eq_getElem?_getD, hx]
  rfl
end Sim
namespace Go.Vc
section
variable {P : Program} {w0 : World} {n : Nat} {sh : Shared} {Q : Exit → Env → List Deferred → List Asn → Prop} {k : List Item} {ρ : Env} {df : List Deferred} {Γ : List Asn}
variable {ops : Array Oper} {l : List (Fl × Nat × Oper)} {b : Fl} {i d : Nat} {ty t yt : TypeId} {pos : String} {aft : Array Edge} {x y : Operand}
theorem reg_neBF {u v : Bool} [hT : TUnd P t .bool] (hx : ev ρ x = .bool u) (hy : ev ρ y = .bool v) (he : u = v) (h : Reg P w0 n sh Q ops l k (ρ.set d (.bool false)) df Γ) :
    Reg P w0 n sh Q ops ((b, i, ⟨some d, .binOp .neq t x y yt, ty, pos, aft, none⟩) :: l) k ρ df Γ :=
  reg_ne_gen (q := true) hx hy (eqGuard_at_bool ..) rfl (fun d w => by simp [Op.equalIn, Sem.run_bind, run_underlying hT.und, he]) h
theorem reg_maxE {u v r : Int} {kd : IntKind} {ats : Array TypeId} (hx : ev ρ x = .int kd u) (hy : ev ρ y = .int kd v) (he : (v ≤ u ∧ r = u) ∨ (u < v ∧ r = v)) (h : Reg P w0 n sh Q ops l k (ρ.set d (.int kd r)) df Γ) :
    Reg P w0 n sh Q ops ((b, i, ⟨some d, .call ⟨.builtin .max, #[x, y], ats⟩, ty, pos, aft, none⟩) :: l) k ρ df Γ := by
  refine zcf hx hy ?_
  rcases he with ⟨h1, rfl⟩ | ⟨h1, rfl⟩
  · rw [if_neg (by omega)]; exact h
  · rw [if_pos h1]; exact h
end
end Go.Vc
namespace Go.Proofs.YtgdhcgnmffgkiaaGreatDoor
open Go.Vc Sim
set_option maxHeartbeats 4000000
theorem catalogLists_spec (w0 : World) (k : Int) (name : ByteArray) : FnE PP w0 [] 7 [.int .i64 k, .string name] [] (.bool true) [] := by
  have haw := awake_spec w0
  have hkd := kind_spec w0 name
  have hrk := refKind_spec w0 name
  have hke := refKind_eq name
  obtain ⟨K, hK⟩ : ∃ K, refKind name = K := ⟨_, rfl⟩
  rw [hK] at hrk hke
  have hme := methodsX_spec w0 k
  have hmr := refMethods_spec w0 k
  have hnm := name_spec w0 k
  have hfd := findC_spec w0 k name
  have hrf := refFind_spec w0 k name
  have hix := ixM_find (ctMeths k) name 0
  have hl10 : (ctMeths k).length ≤ 10 := by
    have h := msK_len k
    rw [← msK_rows k, List.length_map]
    exact h
  refine fn_of_run en7 fn7 rfl rfl rfl ?_
  repeat (first | refine zck ?_ | refine zcl ?_ | refine zcm ?_ | refine zcn ?_)
  first | refine zcp (by kernel_rfl) ?_ | refine zcq PP_mixed (by kernel_rfl) (by kernel_rfl) ?_
  repeat' (refine zap rfl ?_; first | refine zan rfl ?_)
  all_goals refine zch ?_
  all_goals repeat (first | refine zck ?_ | refine zcl ?_ | refine zcm ?_ | refine zcn ?_)
  repeat (first | refine zck ?_ | refine zcl ?_ | refine zcm ?_ | refine zcn ?_)
  first | refine zcp (by kernel_rfl) ?_ | refine zcq PP_mixed (by kernel_rfl) (by kernel_rfl) ?_
  repeat' (refine zap rfl ?_; first | refine zbx rfl ?_ | refine zah [] haw rfl rfl rfl sub_nil rfl ?_)
  all_goals refine zch ?_
  all_goals repeat (first | refine zck ?_ | refine zcl ?_ | refine zcm ?_ | refine zcn ?_)
  refine zcj rfl ?_
  by_cases hn : 100 < name.size
  · repeat' (first | refine zck ?_ | refine zcp (by kernel_rfl) ?_ | refine zcm ?_ | (refine zap rfl ?_; first | refine zan rfl ?_ | refine zan rfl ?_ | refine reg_lenS rfl ?_ | refine zbk rfl rfl (by omega) ?_) | refine zch ?_ | refine zci rfl ?_)
    exact ret_tmp1 rfl ⟨rfl, rfl⟩
  repeat (first | refine zck ?_ | refine zcl ?_ | refine zcm ?_ | refine zcn ?_)
  first | refine zcp (by kernel_rfl) ?_ | refine zcq PP_mixed (by kernel_rfl) (by kernel_rfl) ?_
  repeat' (refine zap rfl ?_; first | refine zan rfl ?_ | refine reg_lenS rfl ?_ | refine zbl rfl rfl (by omega) ?_)
  all_goals refine zch ?_
  all_goals repeat (first | refine zck ?_ | refine zcl ?_ | refine zcm ?_ | refine zcn ?_)
  refine zcj rfl ?_
  have hc : ∃ (B : Bool) (z : Int), (ctKind name).isSome = B ∧ (((ctKind name).getD 0 : Nat) : Int) = z ∧ decide (0 ≤ K) = B ∧ ((0 ≤ K ∧ z = K) ∨ (K < 0 ∧ z = 0)) := by
    cases hk : ctKind name with
    | none =>
      rw [hk] at hke
      have hke : K = -1 := hke
      subst hke
      exact ⟨_, _, rfl, rfl, rfl, .inr ⟨by decide, rfl⟩⟩
    | some j =>
      rw [hk] at hke
      have hke : K = (j : Int) := hke
      subst hke
      exact ⟨_, _, rfl, rfl, decide_eq_true (by omega), .inl ⟨by omega, rfl⟩⟩
  obtain ⟨B, z, hB, hz, hKB, hzz⟩ := hc
  rw [hB, hz] at hkd
  repeat (first | refine zck ?_ | refine zcl ?_ | refine zcm ?_ | refine zcn ?_)
  first | refine zcp (by kernel_rfl) ?_ | refine zcq PP_mixed (by kernel_rfl) (by kernel_rfl) ?_
  repeat' (refine zap rfl ?_; first | refine zan rfl ?_ | refine zan rfl ?_ | refine zah [] hkd rfl rfl rfl sub_nil rfl ?_ | refine zan rfl ?_)
  all_goals refine zch ?_
  all_goals repeat (first | refine zck ?_ | refine zcl ?_ | refine zcm ?_ | refine zcn ?_)
  repeat (first | refine zck ?_ | refine zcl ?_ | refine zcm ?_ | refine zcn ?_)
  first | refine zcp (by kernel_rfl) ?_ | refine zcq PP_mixed (by kernel_rfl) (by kernel_rfl) ?_
  repeat' (refine zap rfl ?_; first | refine zan rfl ?_ | refine zan rfl ?_ | refine zah [] hrk rfl rfl rfl sub_nil rfl ?_)
  all_goals refine zch ?_
  all_goals repeat (first | refine zck ?_ | refine zcl ?_ | refine zcm ?_ | refine zcn ?_)
  repeat (first | refine zck ?_ | refine zcl ?_ | refine zcm ?_ | refine zcn ?_)
  first | refine zcp (by kernel_rfl) ?_ | refine zcq PP_mixed (by kernel_rfl) (by kernel_rfl) ?_
  repeat' (refine zap rfl ?_; first | refine zbt rfl rfl ?_ | refine reg_neBF rfl rfl hKB.symm ?_ | refine zbf rfl rfl (by omega) ?_ | refine zaj rfl ?_ | refine zan rfl ?_ | refine reg_maxE (r := z) rfl rfl (by omega) ?_ | refine zbv rfl ?_)
  all_goals refine zch ?_
  all_goals repeat (first | refine zck ?_ | refine zcl ?_ | refine zcm ?_ | refine zcn ?_)
  refine zcj rfl ?_
  repeat (first | refine zck ?_ | refine zcl ?_ | refine zcm ?_ | refine zcn ?_)
  first | refine zcp (by kernel_rfl) ?_ | refine zcq PP_mixed (by kernel_rfl) (by kernel_rfl) ?_
  repeat' (refine zap rfl ?_; first | refine zan rfl ?_ | refine zan rfl ?_ | (refine zai [] hme rfl rfl rfl sub_nil ?_; rintro v Γ ⟨am, cm, rfl, rfl⟩) | (refine zai [] hmr rfl rfl rfl sub_nil ?_; rintro v Γ ⟨ar, cr, rfl, rfl⟩))
  all_goals refine zch ?_
  all_goals repeat (first | refine zck ?_ | refine zcl ?_ | refine zcm ?_ | refine zcn ?_)
  refine run_shareB [0] rfl (fun br hbr => ?_)
  refine run_shareB [0] rfl (fun bm hbm => ?_)
  repeat (first | refine zck ?_ | refine zcl ?_ | refine zcm ?_ | refine zcn ?_ | refine zco ?_)
  have hcs : (0 ≤ k ∧ k ≤ 9) ∨ (k < 0 ∧ ctName k = bs [] ∧ ctMeths k = []) ∨ (9 < k ∧ ctName k = bs [] ∧ ctMeths k = []) := by
    rcases (by omega : (0 ≤ k ∧ k ≤ 9) ∨ k < 0 ∨ 9 < k) with h | h | h
    · exact .inl h
    · exact .inr (.inl ⟨h, by unfold ctName; rw [if_neg (by omega)], by unfold ctMeths; rw [if_neg (by omega)]⟩)
    · exact .inr (.inr ⟨h, by unfold ctName; rw [if_neg (by omega)], by unfold ctMeths; rw [if_neg (by omega)]⟩)
  obtain ⟨SH, hSH⟩ : ∃ SH, SH = ([] ++ br) ++ bm := ⟨_, rfl⟩
  have hr2 : RdSl w0 SH encMM 3 (.slice ar (ctMeths k).length cr) (ctMeths k) := hbr.mono fun p hp => by rw [hSH]; simp [hp]
  have hm2 : RdSl w0 SH encMM 3 (.slice am (ctMeths k).length cm) (ctMeths k) := hbm.mono fun p hp => by rw [hSH]; simp [hp]
  rw [← hSH]
  refine run_bind_eq (l' := [(0, .int .i64 k), (1, .string name), (8, .slice am (ctMeths k).length cm), (9, .slice ar (ctMeths k).length cr), (70, .bool false)]) (Γ' := []) ?_ (fun junk => ?_)
  · rcases hcs with ⟨h0, h9⟩ | ⟨h0, h1, h2⟩ | ⟨h0, h1, h2⟩
    · obtain ⟨q, rfl⟩ : ∃ q : Nat, k = (q : Int) := ⟨k.toNat, by omega⟩
      have hq : q < 10 := by omega
      have hpos := ctMeths_pos q hq
      have hne := ctName_ne q hq
      have hat := ctName_at hq
      repeat (first | refine zck ?_ | refine zcl ?_ | refine zcm ?_ | refine zcn ?_)
      first | refine zcp (by kernel_rfl) ?_ | refine zcq PP_mixed (by kernel_rfl) (by kernel_rfl) ?_
      repeat' (refine zap rfl ?_; first | refine reg_neBF rfl rfl rfl ?_ | refine reg_eqSF rfl rfl hne ?_ | refine reg_neSF rfl rfl rfl ?_ | refine zab 0 rfl rfl (strs_rd hat _ (by omega)) ?_ | refine zaj rfl ?_ | refine zan rfl ?_ | refine zce rfl ?_ | refine zah [] hnm rfl rfl rfl sub_nil rfl ?_ | (refine zai [] (refNames_own w0) rfl rfl rfl sub_nil ?_; rintro v Γ ⟨nb, rfl, rfl⟩) | refine zbf rfl rfl (by omega) ?_ | refine zbh rfl rfl (by omega) ?_ | refine zbk rfl rfl (by omega) ?_ | refine zbl rfl rfl (by omega) ?_ | refine zbu rfl ?_ | refine zbv rfl ?_ | refine zas rfl rfl (by omega) ?_)
      all_goals refine zch ?_
      all_goals repeat (first | refine zck ?_ | refine zcl ?_ | refine zcm ?_ | refine zcn ?_)
      refine run_take [] rfl ?_
      exact cut_end ⟨rfl, ⟨rfl, rfl, rfl, rfl, rfl, trivial⟩, rfl⟩
    · rw [h1] at hnm
      have hl0 : (ctMeths k).length = 0 := by rw [h2]; rfl
      repeat (first | refine zck ?_ | refine zcl ?_ | refine zcm ?_ | refine zcn ?_)
      first | refine zcp (by kernel_rfl) ?_ | refine zcq PP_mixed (by kernel_rfl) (by kernel_rfl) ?_
      repeat' (refine zap rfl ?_; first | refine reg_neBF rfl rfl rfl ?_ | refine reg_eqST rfl rfl rfl ?_ | refine zaj rfl ?_ | refine zak rfl ?_ | refine zan rfl ?_ | refine zce rfl ?_ | refine zah [] hnm rfl rfl rfl sub_nil rfl ?_ | refine zbf rfl rfl (by omega) ?_ | refine zbg rfl rfl (by omega) ?_ | refine zbl rfl rfl (by omega) ?_ | refine zbu rfl ?_ | refine zbv rfl ?_)
      all_goals refine zch ?_
      all_goals repeat (first | refine zck ?_ | refine zcl ?_ | refine zcm ?_ | refine zcn ?_)
      exact cut_end ⟨rfl, ⟨rfl, rfl, rfl, rfl, rfl, trivial⟩, rfl⟩
    · rw [h1] at hnm
      have hl0 : (ctMeths k).length = 0 := by rw [h2]; rfl
      repeat (first | refine zck ?_ | refine zcl ?_ | refine zcm ?_ | refine zcn ?_)
      first | refine zcp (by kernel_rfl) ?_ | refine zcq PP_mixed (by kernel_rfl) (by kernel_rfl) ?_
      repeat' (refine zap rfl ?_; first | refine reg_neBF rfl rfl rfl ?_ | refine reg_eqST rfl rfl rfl ?_ | refine zaj rfl ?_ | refine zak rfl ?_ | refine zan rfl ?_ | refine zce rfl ?_ | refine zah [] hnm rfl rfl rfl sub_nil rfl ?_ | refine zbf rfl rfl (by omega) ?_ | refine zbh rfl rfl (by omega) ?_ | refine zbk rfl rfl (by omega) ?_ | refine zbl rfl rfl (by omega) ?_ | refine zbv rfl ?_)
      all_goals refine zch ?_
      all_goals repeat (first | refine zck ?_ | refine zcl ?_ | refine zcm ?_ | refine zcn ?_)
      exact cut_end ⟨rfl, ⟨rfl, rfl, rfl, rfl, rfl, trivial⟩, rfl⟩
  refine zcj rfl ?_
  repeat (first | refine zck ?_ | refine zcl ?_ | refine zcm ?_ | refine zcn ?_)
  first | refine zcp (by kernel_rfl) ?_ | refine zcq PP_mixed (by kernel_rfl) (by kernel_rfl) ?_
  repeat' (refine zap rfl ?_; first | refine zan rfl ?_)
  all_goals refine zch ?_
  all_goals repeat (first | refine zck ?_ | refine zcl ?_ | refine zcm ?_ | refine zcn ?_)
  refine run_loop (S := Nat) (fun i => [(0, .int .i64 k), (1, .string name), (8, .slice am (ctMeths k).length cm), (9, .slice ar (ctMeths k).length cr), (10, .int .i64 (i : Int))]) (fun i Γ => Γ = [] ∧ i ≤ (ctMeths k).length) (fun i => (ctMeths k).length - i) 0 ⟨rfl, rfl, rfl, rfl, rfl, trivial⟩ ⟨rfl, Nat.zero_le _⟩ ?_
  rintro i Γ junk2 ⟨rfl, q1⟩
  try dsimp only at q1 ⊢
  by_cases hi : i < (ctMeths k).length
  · obtain ⟨x, hx⟩ : ∃ x, (ctMeths k)[i]? = some x := ⟨_, List.getElem?_eq_getElem hi⟩
    obtain ⟨b, off, cc, T, fr, rfl, e2, e3, _⟩ := hr2.cells hx
    obtain ⟨b', off', cc', T', fr', rfl, f2, f3, _⟩ := hm2.cells hx
    repeat (first | refine zck ?_ | refine zcl ?_ | refine zcm ?_ | refine zcn ?_)
    first | refine zcp (by kernel_rfl) ?_ | refine zcq PP_mixed (by kernel_rfl) (by kernel_rfl) ?_
    repeat' (refine zap rfl ?_; first | refine zan rfl ?_ | refine zce rfl ?_ | refine zbg rfl rfl (by omega) ?_)
    all_goals refine zch ?_
    all_goals repeat (first | refine zck ?_ | refine zcl ?_ | refine zcm ?_ | refine zcn ?_)
    refine zci rfl ?_
    repeat (first | refine zck ?_ | refine zcl ?_ | refine zcm ?_ | refine zcn ?_)
    first | refine zcp (by kernel_rfl) ?_ | refine zcr [(.quiet, 0), (.quiet, 1), (.quiet, 2), (.read, 3), (.quiet, 4), (.quiet, 5), (.quiet, 6), (.read, 7), (.quiet, 8)] PP_mixed (by kernel_rfl) (by kernel_rfl) ?_ | refine run_drawR PP_mixed (by kernel_rfl) (by kernel_rfl) ?_
    repeat' (refine zap rfl ?_; first | refine zad rfl e2 (e3 _ (by omega)) ?_ | refine zad rfl f2 (f3 _ (by omega)) ?_ | refine reg_nemR (m := x) (m' := x) rfl rfl rfl ?_ | refine zan rfl ?_ | refine zas rfl rfl (by omega) ?_)
    all_goals refine zch ?_
    all_goals repeat (first | refine zck ?_ | refine zcl ?_ | refine zcm ?_ | refine zcn ?_)
    refine zcj rfl ?_
    repeat' (first | refine zcp (by kernel_rfl) ?_ | refine zcm ?_ | refine zcn ?_ | (refine zap rfl ?_; first | refine zan rfl ?_ | refine zan rfl ?_ | refine zau rfl rfl (by omega) ?_) | refine zch ?_)
    exact cut_end ⟨rfl, i + 1, ⟨rfl, rfl, rfl, rfl, int_eq (by omega), trivial⟩, ⟨rfl, by omega⟩, by omega⟩
  repeat (first | refine zck ?_ | refine zcl ?_ | refine zcm ?_ | refine zcn ?_)
  first | refine zcp (by kernel_rfl) ?_ | refine zcq PP_mixed (by kernel_rfl) (by kernel_rfl) ?_
  repeat' (refine zap rfl ?_; first | refine zan rfl ?_ | refine zce rfl ?_ | refine zbh rfl rfl (by omega) ?_)
  all_goals refine zch ?_
  all_goals repeat (first | refine zck ?_ | refine zcl ?_ | refine zcm ?_ | refine zcn ?_)
  refine zcj rfl ?_
  refine cut_exit rfl rfl ?_
  obtain ⟨hix1, hix2⟩ := hix
  unfold refFind at hrf
  cases hq : ixM (ctMeths k) name 0 with
  | none =>
    have hfn : ctFind k name = none := hix1 hq
    rw [hfn] at hfd
    rw [hq] at hrf
    have hrf : FnE PP w0 [] 18 [.int .i64 k, .string name] [] (.int .i64 (-1)) [] := hrf
    have hfd : FnE PP w0 [] 28 [.int .i64 k, .string name] [] (.tuple #[mV (⟨#[]⟩, 0, false), .bool false]) [] := hfd
    repeat (first | refine zck ?_ | refine zcl ?_ | refine zcm ?_ | refine zcn ?_)
    first | refine zcp (by kernel_rfl) ?_ | refine zcq PP_mixed (by kernel_rfl) (by kernel_rfl) ?_
    repeat' (refine zap rfl ?_; first | refine zar (fun t11 => ?_) | refine zan rfl ?_ | refine zan rfl ?_ | refine zah [] hfd rfl rfl rfl sub_nil rfl ?_ | refine zan rfl ?_ | refine zae 0 rfl rfl rfl rfl rfl rfl rfl ?_)
    all_goals refine zch ?_
    all_goals repeat (first | refine zck ?_ | refine zcl ?_ | refine zcm ?_ | refine zcn ?_)
    repeat (first | refine zck ?_ | refine zcl ?_ | refine zcm ?_ | refine zcn ?_)
    first | refine zcp (by kernel_rfl) ?_ | refine zcq PP_mixed (by kernel_rfl) (by kernel_rfl) ?_
    repeat' (refine zap rfl ?_; first | refine zan rfl ?_ | refine zan rfl ?_ | refine zah [] hrf rfl rfl rfl sub_nil rfl ?_)
    all_goals refine zch ?_
    all_goals repeat (first | refine zck ?_ | refine zcl ?_ | refine zcm ?_ | refine zcn ?_)
    repeat (first | refine zck ?_ | refine zcl ?_ | refine zcm ?_ | refine zcn ?_)
    first | refine zcp (by kernel_rfl) ?_ | refine zcq PP_mixed (by kernel_rfl) (by kernel_rfl) ?_
    repeat' (refine zap rfl ?_; first | refine zan rfl ?_ | refine zbg rfl rfl (by omega) ?_)
    all_goals refine zch ?_
    all_goals repeat (first | refine zck ?_ | refine zcl ?_ | refine zcm ?_ | refine zcn ?_)
    refine zci rfl ?_
    repeat (first | refine zck ?_ | refine zcl ?_ | refine zcm ?_ | refine zcn ?_)
    first | refine zcp (by kernel_rfl) ?_ | refine zcq PP_mixed (by kernel_rfl) (by kernel_rfl) ?_
    repeat' (refine zap rfl ?_; first | refine zbx rfl ?_ | refine zcb rfl ?_ | refine reg_eqmC (m := (⟨#[]⟩, 0, false)) (m' := (⟨#[]⟩, 0, false)) rfl rfl rfl ?_ | refine zaj rfl ?_ | refine zan rfl ?_ | refine zan rfl ?_ | refine zab 0 rfl rfl rfl ?_ | refine zbu rfl ?_)
    all_goals refine zch ?_
    all_goals repeat (first | refine zck ?_ | refine zcl ?_ | refine zcm ?_ | refine zcn ?_)
    refine run_take [] rfl ?_
    repeat' (first | refine zck ?_ | (refine zap rfl ?_; first | refine zaj rfl ?_ | refine zak rfl ?_ | refine zal rfl ?_ | refine zam rfl rfl (fun _ => ?_) (fun _ => ?_)) | refine zch ?_)
    exact ret_tmp1 rfl ⟨rfl, rfl⟩
  | some j =>
    obtain ⟨_, m, hm1, hm2'⟩ := hix2 j hq
    rw [Nat.sub_zero] at hm1
    have hfn : ctFind k name = some m := hm2'
    rw [hfn] at hfd
    rw [hq] at hrf
    have hj : j < (ctMeths k).length := (List.getElem?_eq_some_iff.1 hm1).1
    have hrf : FnE PP w0 [] 18 [.int .i64 k, .string name] [] (.int .i64 (j : Int)) [] := hrf
    have hfd : FnE PP w0 [] 28 [.int .i64 k, .string name] [] (.tuple #[mV m, .bool true]) [] := hfd
    obtain ⟨b, off, cc, T, fr, rfl, e2, e3, _⟩ := hr2.cells hm1
    obtain ⟨m1, m2, m3⟩ := m
    repeat (first | refine zck ?_ | refine zcl ?_ | refine zcm ?_ | refine zcn ?_)
    first | refine zcp (by kernel_rfl) ?_ | refine zcq PP_mixed (by kernel_rfl) (by kernel_rfl) ?_
    repeat' (refine zap rfl ?_; first | refine zar (fun t11 => ?_) | refine zan rfl ?_ | refine zan rfl ?_ | refine zah [] hfd rfl rfl rfl sub_nil rfl ?_ | refine zan rfl ?_ | refine zae 0 rfl rfl rfl rfl rfl rfl rfl ?_)
    all_goals refine zch ?_
    all_goals repeat (first | refine zck ?_ | refine zcl ?_ | refine zcm ?_ | refine zcn ?_)
    refine run_exch 0 (pt t11 (.cells (List.toArray (encMM (m1, m2, m3))) 57 (0, 0))) rfl (fun g hg => hg) rfl ?_
    refine run_share [0] rfl ?_
    repeat (first | refine zck ?_ | refine zcl ?_ | refine zcm ?_ | refine zcn ?_ | refine zco ?_)
    repeat (first | refine zck ?_ | refine zcl ?_ | refine zcm ?_ | refine zcn ?_)
    first | refine zcp (by kernel_rfl) ?_ | refine zcq PP_mixed (by kernel_rfl) (by kernel_rfl) ?_
    repeat' (refine zap rfl ?_; first | refine zan rfl ?_ | refine zan rfl ?_ | refine zah [] hrf rfl rfl rfl sub_nil rfl ?_)
    all_goals refine zch ?_
    all_goals repeat (first | refine zck ?_ | refine zcl ?_ | refine zcm ?_ | refine zcn ?_)
    repeat (first | refine zck ?_ | refine zcl ?_ | refine zcm ?_ | refine zcn ?_)
    first | refine zcp (by kernel_rfl) ?_ | refine zcq PP_mixed (by kernel_rfl) (by kernel_rfl) ?_
    repeat' (refine zap rfl ?_; first | refine zan rfl ?_ | refine zbh rfl rfl (by omega) ?_)
    all_goals refine zch ?_
    all_goals repeat (first | refine zck ?_ | refine zcl ?_ | refine zcm ?_ | refine zcn ?_)
    refine zcj rfl ?_
    repeat (first | refine zck ?_ | refine zcl ?_ | refine zcm ?_ | refine zcn ?_)
    first | refine zcp (by kernel_rfl) ?_ | refine zcr [(.quiet, 0), (.quiet, 1), (.read, 2), (.quiet, 3), (.quiet, 4), (.quiet, 5), (.read, 6), (.quiet, 7), (.quiet, 8), (.quiet, 9)] PP_mixed (by kernel_rfl) (by kernel_rfl) ?_ | refine run_drawR PP_mixed (by kernel_rfl) (by kernel_rfl) ?_
    repeat' (refine zap rfl ?_; first | refine zad rfl (fun hF Γ w h1 h2 => e2 hF Γ w (fun p hp => h1 p (.tail _ hp)) h2) (e3 _ (by omega)) ?_ | refine reg_eqmR (m := (m1, m2, m3)) (m' := (m1, m2, m3)) rfl rfl rfl ?_ | refine zaj rfl ?_ | refine zan rfl ?_ | refine zan rfl ?_ | refine zaa 0 rfl rfl rfl ?_ | refine zbu rfl ?_ | refine zas rfl rfl (by omega) ?_)
    all_goals refine zch ?_
    all_goals repeat (first | refine zck ?_ | refine zcl ?_ | refine zcm ?_ | refine zcn ?_)
    repeat' (first | refine zck ?_ | (refine zap rfl ?_; first | refine zaj rfl ?_ | refine zak rfl ?_ | refine zal rfl ?_ | refine zam rfl rfl (fun _ => ?_) (fun _ => ?_)) | refine zch ?_)
    exact ret_tmp1 rfl ⟨rfl, rfl⟩
end Go.Proofs.YtgdhcgnmffgkiaaGreatDoor

