import Derived.Test.YtijbnjaackhlcaaGreatDoorPart2
import Derived.Test.YtijbnjaackhlcaaGreatDoorKit
import Derived.Test.YtijbnjaackhlcaaGreatDoorPart1
/- Lemmas and walks for the claims of this seat (own work): Sx7 Ct1 Ct2 Fi0 Fi1 Fi2 Fi3 Fi4 Fi5 Fi6 Re0 Re1 Gr0 Rp0 Pp0 Eo0 Eo1 Nm0 Rn0 Pp1 Eo2 Eo3 Gt0 Gt1 Gt2. -/
namespace Sim
open Go Go.Vc
def findP (p : PP') (s : ByteArray) : Option PO := p.opers.find? fun o => decide (o.name = s)
theorem idxP_find {α : Type} (p : α → Bool) : ∀ (l : List α) (k : Int), 0 ≤ k → match l.find? p with
    | some x => ∃ i : Nat, idxP p l k = k + i ∧ l[i]? = some x
    | none => idxP p l k = -1
  | [], k, _ => rfl
  | x :: l, k, h => by
    have ih := idxP_find p l (k + 1) (by omega)
    by_cases e : p x = true
    · rw [List.find?_cons_of_pos e]
      exact ⟨0, by rw [idxP, if_pos e]; simp, rfl⟩
    · rw [List.find?_cons_of_neg e]
      have e1 : idxP p (x :: l) k = idxP p l (k + 1) := by rw [idxP, if_neg e]
      cases hf : l.find? p with
      | none => rw [hf] at ih; exact e1.trans ih
      | some y =>
        rw [hf] at ih
        obtain ⟨i, h1, h2⟩ := ih
        exact ⟨i + 1, by rw [e1, h1]; omega, h2⟩
end Sim
namespace Go.Vc
open Sim
def RdOv (w0 : World) (sh : Shared) (v : Value) (o : PO) : Prop := ∃ cs, v = .agg (List.toArray cs) ∧ RdO w0 sh o cs
theorem sub_h2 {a b : Nat × Obj} {sh : Shared} : ∀ p ∈ a :: sh, p ∈ a :: b :: sh := fun p hp => by
  rcases List.mem_cons.1 hp with h | h
  · rw [h]; exact List.mem_cons_self ..
  · exact List.mem_cons_of_mem _ (List.mem_cons_of_mem _ h)
end Go.Vc
namespace Go.Proofs.YtijbnjaackhlcaaGreatDoor
open Go.Vc Sim
theorem find1_spec (w0 : World) (sh : Shared) (xc : Nat) (name : ByteArray) (o : PO) (a1 a2 : Option Addr) (n1 c1 n2 c2 : Nat) :
    FnE PP w0 ((xc, .cells (List.toArray [.string name]) 9 (0, 0)) :: sh) 37 [.agg (List.toArray [.string o.name, .slice a1 n1 c1, .slice a2 n2 c2]), .pointer (some ⟨xc, 0, none⟩)] [] (.bool (decide (o.name = name))) [] := by
  refine fn_of_run en37 fn37 rfl rfl rfl ?_
  repeat' (first | refine zck ?_ | refine zcp (by kernel_rfl) ?_ | (refine zap rfl ?_; first | refine reg_eqS rfl rfl ?_ | refine zan rfl ?_ | refine zaa 0 rfl rfl rfl ?_ | refine zab 0 rfl rfl rfl ?_ | refine zao rfl ?_ | refine zaq (cs := [_, _, _]) rfl (fun nb => ?_)) | refine zch ?_)
  refine run_take [] rfl ?_
  exact ret_tmp1 rfl ⟨rfl, rfl⟩
theorem idxO_spec (w0 : World) (sh : Shared) (v : Value) (l : List PO) (xc : Nat) (name : ByteArray) (hl : RdOl w0 sh v l) (hb : l.length ≤ 1099511627776) :
    FnE PP w0 ((xc, .cells (List.toArray [.string name]) 9 (0, 0)) :: sh) 36 [v, .func (.func 37) #[] #[.pointer (some ⟨xc, 0, none⟩)]] [] (.int .i64 (idxP (fun o => decide (o.name = name)) l 0)) [] := by
  obtain ⟨a, cap, hv, _⟩ := hl.len
  subst hv
  refine fn_of_run en36 fn36 rfl rfl rfl ?_
  repeat' (first | refine zck ?_ | refine zcp (by kernel_rfl) ?_ | refine zcl ?_ | (refine zap rfl ?_; first | refine zan rfl ?_ | refine zan rfl ?_ | refine zce rfl ?_) | refine zch ?_)
  refine run_loop (S := Nat) (fun j => [(0, .slice a l.length cap), (1, .func (.func 37) #[] #[.pointer (some ⟨xc, 0, none⟩)]), (7, .int .i64 l.length), (8, .int .i64 j)])
    (fun j Γ => Γ = [] ∧ j ≤ l.length ∧ idxP (fun o => decide (o.name = name)) (l.drop j) j = idxP (fun o => decide (o.name = name)) l 0) (fun j => l.length - j) 0 ⟨rfl, rfl, rfl, rfl, trivial⟩ ⟨rfl, by omega, rfl⟩ ?_
  rintro j Γ junk ⟨rfl, g1, g2⟩
  by_cases hj : j < l.length
  · obtain ⟨x, hx⟩ : ∃ x, l[j]? = some x := ⟨_, List.getElem?_eq_getElem hj⟩
    obtain ⟨b, off, c, T, fr, cs, rfl, e2, e3, ⟨vp, vb, rfl, r1, r2⟩, _⟩ := hl.at hx
    obtain ⟨a3, c3, hvp, _⟩ := id r1
    obtain ⟨a4, c4, hvb, _⟩ := r2.len
    subst hvp; subst hvb
    have hd : l.drop j = x :: l.drop (j + 1) := by
      rw [List.drop_eq_getElem_cons hj]
      congr 1
      exact (List.getElem?_eq_some_iff.1 hx).2
    have hc := find1_spec w0 sh xc name x a3 a4 x.params.length c3 x.body.length c4
    rw [hd, idxP] at g2
    by_cases hs : decide (x.name = name) = true
    · rw [if_pos hs] at g2
      rw [hs] at hc
      repeat' (first | refine zck ?_ | refine zcp (by kernel_rfl) ?_ | refine zcm ?_ | refine zcl ?_ | (refine zap rfl ?_; first | refine zad rfl (fun hF Γ w h1 h2 => e2 hF Γ w (fun p hp => h1 p (by simp [hp])) h2) (e3 _ (by omega)) ?_ | refine zan rfl ?_ | refine zan rfl ?_ | refine zah [] hc rfl rfl rfl (fun _ h => h) rfl ?_ | refine zbg rfl rfl (by omega) ?_ | refine zas rfl rfl (by omega) ?_) | refine zch ?_ | refine zci rfl ?_)
      exact qret1 (fun _ _ h => h) rfl ⟨by rw [← g2]; rfl, rfl⟩
    · rw [if_neg hs] at g2
      rw [Bool.eq_false_iff.2 hs] at hc
      repeat' (first | refine zck ?_ | refine zcp (by kernel_rfl) ?_ | refine zcm ?_ | refine zcl ?_ | refine zcn ?_ | (refine zap rfl ?_; first | refine zad rfl (fun hF Γ w h1 h2 => e2 hF Γ w (fun p hp => h1 p (by simp [hp])) h2) (e3 _ (by omega)) ?_ | refine zan rfl ?_ | refine zan rfl ?_ | refine zah [] hc rfl rfl rfl (fun _ h => h) rfl ?_ | refine zbg rfl rfl (by omega) ?_ | refine zau rfl rfl (by omega) ?_ | refine zas rfl rfl (by omega) ?_) | refine zch ?_ | refine zci rfl ?_ | refine zcj rfl ?_)
      exact cut_end ⟨rfl, j + 1, ⟨rfl, rfl, rfl, int_eq (by omega), trivial⟩, ⟨rfl, by omega, by rw [← g2]; rfl⟩, by omega⟩
  · repeat' (first | refine zck ?_ | refine zcp (by kernel_rfl) ?_ | (refine zap rfl ?_; first | refine zbh rfl rfl (by omega) ?_) | refine zch ?_ | refine zcj rfl ?_)
    refine cut_exit rfl rfl ?_
    repeat' (first | refine zck ?_ | refine zcp (by kernel_rfl) ?_ | (refine zap rfl ?_; first | refine zan rfl ?_) | refine zch ?_)
    rw [List.drop_of_length_le (by omega)] at g2
    exact ret_tmp1 rfl ⟨by rw [← g2]; rfl, rfl⟩
theorem find_spec (w0 : World) (sh : Shared) (v : Value) (p : PP') (name : ByteArray) (hp : RdP w0 sh v p) (hb : p.opers.length ≤ 1000000) :
    Vc.Fn PP w0 sh 20 [v, .string name] [] (fun r Γ => Γ = [] ∧ match findP p name with
      | some o => ∃ v, r = .tuple #[v, .bool true] ∧ RdOv w0 sh v o
      | none => r = .tuple #[.agg (List.toArray [.string ⟨#[]⟩, .slice none 0 0, .slice none 0 0]), .bool false]) := by
  obtain ⟨vs, vo, hv, h1, h2⟩ := hp
  subst hv
  obtain ⟨a1, c1, hvs, hc1, _⟩ := id h1
  obtain ⟨a2, c2, hvo, hc2⟩ := h2.len
  subst hvs; subst hvo
  have hf := idxP_find (fun o : PO => decide (o.name = name)) p.opers 0 (Int.le_refl _)
  have hi := fun xc => idxO_spec w0 sh _ p.opers xc name h2 (by omega)
  unfold findP
  refine fn_of_run en20 fn20 rfl rfl rfl ?_
  repeat (first | refine zck ?_ | refine zcl ?_ | refine zcm ?_ | refine zcn ?_)
  first | refine zcp (by kernel_rfl) ?_ | refine zcq PP_mixed (by kernel_rfl) (by kernel_rfl) ?_
  repeat' (refine zap rfl ?_; first | refine zan rfl ?_ | refine zaq (cs := [_]) rfl (fun nb => ?_) | refine zaq (cs := [_, _]) rfl (fun nb => ?_) | refine zar (fun nb => ?_))
  all_goals refine zch ?_
  all_goals repeat (first | refine zck ?_ | refine zcl ?_ | refine zcm ?_ | refine zcn ?_)
  refine run_share [0] rfl ?_
  refine run_share [0] rfl ?_
  cases hq : p.opers.find? (fun o => decide (o.name = name)) with
  | none =>
    rw [hq] at hf
    rw [hf] at hi
    repeat' (first | refine zck ?_ | refine zcp (by kernel_rfl) ?_ | (refine zap rfl ?_; first | refine zan rfl ?_ | refine zan rfl ?_ | refine zaa 1 rfl rfl rfl ?_ | refine zah [] (hi _) rfl rfl rfl sub_h2 rfl ?_ | refine zao rfl ?_ | refine zbg rfl rfl (by omega) ?_ | refine zae 0 rfl rfl rfl rfl rfl rfl rfl ?_ | refine zcb rfl ?_ | refine zan rfl ?_) | refine zch ?_ | refine zci rfl ?_)
    exact run_ret (leaves_nil (ends_take [] rfl (ends_two rfl (resOk_pt 0 rfl rfl rfl) rfl ⟨rfl, rfl, rfl⟩)))
  | some x =>
    rw [hq] at hf
    obtain ⟨i, hi1, hx⟩ := hf
    rw [hi1] at hi
    obtain ⟨b, off, c, T, fr, cs, ha2, e2, e3, hro, _⟩ := h2.at hx
    have hr2 := hro
    obtain ⟨vp, vb, hcs, r1, r2⟩ := hro
    obtain ⟨a3, c3, hvp, _⟩ := id r1
    obtain ⟨a4, c4, hvb, _⟩ := r2.len
    subst hvp; subst hvb; subst hcs; subst ha2
    have hlt := (List.getElem?_eq_some_iff.1 hx).1
    repeat' (first | refine zck ?_ | refine zcp (by kernel_rfl) ?_ | refine zcm ?_ | (refine zap rfl ?_; first | refine zad rfl (fun hF Γ w h1 h2 => e2 hF Γ w (fun p hp => h1 p (by simp [hp])) h2) (e3 _ (by omega)) ?_ | refine zan rfl ?_ | refine zan rfl ?_ | refine zaa 1 rfl rfl rfl ?_ | refine zah [] (hi _) rfl rfl rfl sub_h2 rfl ?_ | refine zao rfl ?_ | refine zbh rfl rfl (by omega) ?_ | refine zae 0 rfl rfl rfl rfl rfl rfl rfl ?_ | refine zas rfl rfl (by omega) ?_ | refine zan rfl ?_) | refine zch ?_ | refine zcj rfl ?_)
    exact run_ret (leaves_nil (ends_take [] rfl (ends_two rfl (resOk_pt 0 rfl rfl rfl) rfl ⟨rfl, rfl, _, rfl, _, rfl, hr2⟩)))
end Go.Proofs.YtijbnjaackhlcaaGreatDoor

namespace Go.Proofs.YtijbnjaackhlcaaGreatDoor
open Go.Vc Sim
abbrev MsR (w0 : World) (k : Int) (v : Value) (Γ : List Asn) : Prop := Γ = [Rds fun bl => RdSl w0 bl encM 4 v (msK k)]
theorem methods0 (w0 : World) : Vc.Fn PP w0 [] 67 [.int .i64 0] [] (MsR w0 0) := by
  refine fn_of_run en67 fn67 rfl rfl rfl ?_
  repeat' (first | refine zck ?_ | refine zcp (by kernel_rfl) ?_ | refine zcl ?_ | (refine zap rfl ?_; first | refine reg_buildSlice rfl rfl rfl rfl rfl rfl (fun nb => ?_) | refine zan rfl ?_ | refine zan rfl ?_ | refine zce rfl ?_ | (refine zai [] (row_spec w0) rfl rfl rfl sub_nil ?_; rintro v Γ ⟨m1, s0, s1, s2, s3, s7, rfl, rfl⟩) | (refine zai [] (keyed_spec w0) rfl rfl rfl sub_nil ?_; rintro v Γ ⟨m2, s4, s5, s6, rfl, rfl⟩) | (refine zai [] (linked_spec w0) rfl rfl rfl sub_nil ?_; rintro v Γ ⟨m3, s8, s9, rfl, rfl⟩)) | refine zch ?_)
  refine run_share [13] rfl ?_
  refine run_loop1 ?_
  repeat' (first | refine zck ?_ | refine zcp (by kernel_rfl) ?_ | refine zcm ?_ | refine zcl ?_ | (refine zap rfl ?_; first | refine reg_lookup 7 (v := .tuple #[mSl s0 3, .bool true]) rfl rfl rfl rfl ?_ | refine zan rfl ?_ | refine zan rfl ?_ | refine zaa 0 rfl rfl rfl ?_ | refine zan rfl ?_ | refine zbg rfl rfl (by omega) ?_ | refine zas rfl rfl (by omega) ?_) | refine zch ?_ | refine zci rfl ?_)
  refine run_take [8] rfl ?_
  refine run_exch 0 (Rds fun bl => RdSl w0 bl encM 4 (mSl s0 3) (msK 0)) rfl (fun g hg => Rds.mono (fun bl hb => RdSl.flat (encE := encM) (q := 4) (w0 := w0) (b := s0) (l := ms0) (fun _ _ => rfl) hb) g (Rds.of_pt g hg)) rfl ?_
  exact ret_tmp1 rfl rfl
theorem methods1 (w0 : World) : Vc.Fn PP w0 [] 67 [.int .i64 1] [] (MsR w0 1) := by
  refine fn_of_run en67 fn67 rfl rfl rfl ?_
  repeat' (first | refine zck ?_ | refine zcp (by kernel_rfl) ?_ | refine zcl ?_ | (refine zap rfl ?_; first | refine reg_buildSlice rfl rfl rfl rfl rfl rfl (fun nb => ?_) | refine zan rfl ?_ | refine zan rfl ?_ | refine zce rfl ?_ | (refine zai [] (row_spec w0) rfl rfl rfl sub_nil ?_; rintro v Γ ⟨m1, s0, s1, s2, s3, s7, rfl, rfl⟩) | (refine zai [] (keyed_spec w0) rfl rfl rfl sub_nil ?_; rintro v Γ ⟨m2, s4, s5, s6, rfl, rfl⟩) | (refine zai [] (linked_spec w0) rfl rfl rfl sub_nil ?_; rintro v Γ ⟨m3, s8, s9, rfl, rfl⟩)) | refine zch ?_)
  refine run_share [13] rfl ?_
  refine run_loop1 ?_
  repeat' (first | refine zck ?_ | refine zcp (by kernel_rfl) ?_ | refine zcm ?_ | refine zcl ?_ | (refine zap rfl ?_; first | refine reg_lookup 7 (v := .tuple #[mSl s1 4, .bool true]) rfl rfl rfl rfl ?_ | refine zan rfl ?_ | refine zan rfl ?_ | refine zaa 0 rfl rfl rfl ?_ | refine zan rfl ?_ | refine zbg rfl rfl (by omega) ?_ | refine zas rfl rfl (by omega) ?_) | refine zch ?_ | refine zci rfl ?_)
  refine run_take [9] rfl ?_
  refine run_exch 0 (Rds fun bl => RdSl w0 bl encM 4 (mSl s1 4) (msK 1)) rfl (fun g hg => Rds.mono (fun bl hb => RdSl.flat (encE := encM) (q := 4) (w0 := w0) (b := s1) (l := ms1) (fun _ _ => rfl) hb) g (Rds.of_pt g hg)) rfl ?_
  exact ret_tmp1 rfl rfl
theorem methods2 (w0 : World) : Vc.Fn PP w0 [] 67 [.int .i64 2] [] (MsR w0 2) := by
  refine fn_of_run en67 fn67 rfl rfl rfl ?_
  repeat' (first | refine zck ?_ | refine zcp (by kernel_rfl) ?_ | refine zcl ?_ | (refine zap rfl ?_; first | refine reg_buildSlice rfl rfl rfl rfl rfl rfl (fun nb => ?_) | refine zan rfl ?_ | refine zan rfl ?_ | refine zce rfl ?_ | (refine zai [] (row_spec w0) rfl rfl rfl sub_nil ?_; rintro v Γ ⟨m1, s0, s1, s2, s3, s7, rfl, rfl⟩) | (refine zai [] (keyed_spec w0) rfl rfl rfl sub_nil ?_; rintro v Γ ⟨m2, s4, s5, s6, rfl, rfl⟩) | (refine zai [] (linked_spec w0) rfl rfl rfl sub_nil ?_; rintro v Γ ⟨m3, s8, s9, rfl, rfl⟩)) | refine zch ?_)
  refine run_share [13] rfl ?_
  refine run_loop1 ?_
  repeat' (first | refine zck ?_ | refine zcp (by kernel_rfl) ?_ | refine zcm ?_ | refine zcl ?_ | (refine zap rfl ?_; first | refine reg_lookup 7 (v := .tuple #[mSl s2 4, .bool true]) rfl rfl rfl rfl ?_ | refine zan rfl ?_ | refine zan rfl ?_ | refine zaa 0 rfl rfl rfl ?_ | refine zan rfl ?_ | refine zbg rfl rfl (by omega) ?_ | refine zas rfl rfl (by omega) ?_) | refine zch ?_ | refine zci rfl ?_)
  refine run_take [10] rfl ?_
  refine run_exch 0 (Rds fun bl => RdSl w0 bl encM 4 (mSl s2 4) (msK 2)) rfl (fun g hg => Rds.mono (fun bl hb => RdSl.flat (encE := encM) (q := 4) (w0 := w0) (b := s2) (l := ms2) (fun _ _ => rfl) hb) g (Rds.of_pt g hg)) rfl ?_
  exact ret_tmp1 rfl rfl
theorem methods3 (w0 : World) : Vc.Fn PP w0 [] 67 [.int .i64 3] [] (MsR w0 3) := by
  refine fn_of_run en67 fn67 rfl rfl rfl ?_
  repeat' (first | refine zck ?_ | refine zcp (by kernel_rfl) ?_ | refine zcl ?_ | (refine zap rfl ?_; first | refine reg_buildSlice rfl rfl rfl rfl rfl rfl (fun nb => ?_) | refine zan rfl ?_ | refine zan rfl ?_ | refine zce rfl ?_ | (refine zai [] (row_spec w0) rfl rfl rfl sub_nil ?_; rintro v Γ ⟨m1, s0, s1, s2, s3, s7, rfl, rfl⟩) | (refine zai [] (keyed_spec w0) rfl rfl rfl sub_nil ?_; rintro v Γ ⟨m2, s4, s5, s6, rfl, rfl⟩) | (refine zai [] (linked_spec w0) rfl rfl rfl sub_nil ?_; rintro v Γ ⟨m3, s8, s9, rfl, rfl⟩)) | refine zch ?_)
  refine run_share [13] rfl ?_
  refine run_loop1 ?_
  repeat' (first | refine zck ?_ | refine zcp (by kernel_rfl) ?_ | refine zcm ?_ | refine zcl ?_ | (refine zap rfl ?_; first | refine reg_lookup 7 (v := .tuple #[mSl s3 7, .bool true]) rfl rfl rfl rfl ?_ | refine zan rfl ?_ | refine zan rfl ?_ | refine zaa 0 rfl rfl rfl ?_ | refine zan rfl ?_ | refine zbg rfl rfl (by omega) ?_ | refine zas rfl rfl (by omega) ?_) | refine zch ?_ | refine zci rfl ?_)
  refine run_take [11] rfl ?_
  refine run_exch 0 (Rds fun bl => RdSl w0 bl encM 4 (mSl s3 7) (msK 3)) rfl (fun g hg => Rds.mono (fun bl hb => RdSl.flat (encE := encM) (q := 4) (w0 := w0) (b := s3) (l := ms3) (fun _ _ => rfl) hb) g (Rds.of_pt g hg)) rfl ?_
  exact ret_tmp1 rfl rfl
theorem methods4 (w0 : World) : Vc.Fn PP w0 [] 67 [.int .i64 4] [] (MsR w0 4) := by
  refine fn_of_run en67 fn67 rfl rfl rfl ?_
  repeat' (first | refine zck ?_ | refine zcp (by kernel_rfl) ?_ | refine zcl ?_ | (refine zap rfl ?_; first | refine reg_buildSlice rfl rfl rfl rfl rfl rfl (fun nb => ?_) | refine zan rfl ?_ | refine zan rfl ?_ | refine zce rfl ?_ | (refine zai [] (row_spec w0) rfl rfl rfl sub_nil ?_; rintro v Γ ⟨m1, s0, s1, s2, s3, s7, rfl, rfl⟩) | (refine zai [] (keyed_spec w0) rfl rfl rfl sub_nil ?_; rintro v Γ ⟨m2, s4, s5, s6, rfl, rfl⟩) | (refine zai [] (linked_spec w0) rfl rfl rfl sub_nil ?_; rintro v Γ ⟨m3, s8, s9, rfl, rfl⟩)) | refine zch ?_)
  refine run_share [13] rfl ?_
  refine run_loop1 ?_
  repeat' (first | refine zck ?_ | refine zcp (by kernel_rfl) ?_ | refine zcm ?_ | refine zcl ?_ | refine zcn ?_ | refine zco ?_ | (refine zap rfl ?_; first | refine reg_lookup 7 (v := .tuple #[.slice none 0 0, .bool false]) rfl rfl rfl rfl ?_ | refine reg_lookup 3 (v := .tuple #[mSl s4 5, .bool true]) rfl rfl rfl rfl ?_ | refine zan rfl ?_ | refine zan rfl ?_ | refine zaa 0 rfl rfl rfl ?_ | refine zan rfl ?_ | refine zbg rfl rfl (by omega) ?_ | refine zau rfl rfl (by omega) ?_ | refine zas rfl rfl (by omega) ?_) | refine zch ?_ | refine zci rfl ?_ | refine zcj rfl ?_)
  refine run_take [4] rfl ?_
  refine run_exch 0 (Rds fun bl => RdSl w0 bl encM 4 (mSl s4 5) (msK 4)) rfl (fun g hg => Rds.mono (fun bl hb => RdSl.flat (encE := encM) (q := 4) (w0 := w0) (b := s4) (l := ms4) (fun _ _ => rfl) hb) g (Rds.of_pt g hg)) rfl ?_
  exact ret_tmp1 rfl rfl
theorem methods5 (w0 : World) : Vc.Fn PP w0 [] 67 [.int .i64 5] [] (MsR w0 5) := by
  refine fn_of_run en67 fn67 rfl rfl rfl ?_
  repeat' (first | refine zck ?_ | refine zcp (by kernel_rfl) ?_ | refine zcl ?_ | (refine zap rfl ?_; first | refine reg_buildSlice rfl rfl rfl rfl rfl rfl (fun nb => ?_) | refine zan rfl ?_ | refine zan rfl ?_ | refine zce rfl ?_ | (refine zai [] (row_spec w0) rfl rfl rfl sub_nil ?_; rintro v Γ ⟨m1, s0, s1, s2, s3, s7, rfl, rfl⟩) | (refine zai [] (keyed_spec w0) rfl rfl rfl sub_nil ?_; rintro v Γ ⟨m2, s4, s5, s6, rfl, rfl⟩) | (refine zai [] (linked_spec w0) rfl rfl rfl sub_nil ?_; rintro v Γ ⟨m3, s8, s9, rfl, rfl⟩)) | refine zch ?_)
  refine run_share [13] rfl ?_
  refine run_loop1 ?_
  repeat' (first | refine zck ?_ | refine zcp (by kernel_rfl) ?_ | refine zcm ?_ | refine zcl ?_ | refine zcn ?_ | refine zco ?_ | (refine zap rfl ?_; first | refine reg_lookup 7 (v := .tuple #[.slice none 0 0, .bool false]) rfl rfl rfl rfl ?_ | refine reg_lookup 3 (v := .tuple #[mSl s5 9, .bool true]) rfl rfl rfl rfl ?_ | refine zan rfl ?_ | refine zan rfl ?_ | refine zaa 0 rfl rfl rfl ?_ | refine zan rfl ?_ | refine zbg rfl rfl (by omega) ?_ | refine zau rfl rfl (by omega) ?_ | refine zas rfl rfl (by omega) ?_) | refine zch ?_ | refine zci rfl ?_ | refine zcj rfl ?_)
  refine run_take [5] rfl ?_
  refine run_exch 0 (Rds fun bl => RdSl w0 bl encM 4 (mSl s5 9) (msK 5)) rfl (fun g hg => Rds.mono (fun bl hb => RdSl.flat (encE := encM) (q := 4) (w0 := w0) (b := s5) (l := ms5) (fun _ _ => rfl) hb) g (Rds.of_pt g hg)) rfl ?_
  exact ret_tmp1 rfl rfl
theorem methods6 (w0 : World) : Vc.Fn PP w0 [] 67 [.int .i64 6] [] (MsR w0 6) := by
  refine fn_of_run en67 fn67 rfl rfl rfl ?_
  repeat' (first | refine zck ?_ | refine zcp (by kernel_rfl) ?_ | refine zcl ?_ | (refine zap rfl ?_; first | refine reg_buildSlice rfl rfl rfl rfl rfl rfl (fun nb => ?_) | refine zan rfl ?_ | refine zan rfl ?_ | refine zce rfl ?_ | (refine zai [] (row_spec w0) rfl rfl rfl sub_nil ?_; rintro v Γ ⟨m1, s0, s1, s2, s3, s7, rfl, rfl⟩) | (refine zai [] (keyed_spec w0) rfl rfl rfl sub_nil ?_; rintro v Γ ⟨m2, s4, s5, s6, rfl, rfl⟩) | (refine zai [] (linked_spec w0) rfl rfl rfl sub_nil ?_; rintro v Γ ⟨m3, s8, s9, rfl, rfl⟩)) | refine zch ?_)
  refine run_share [13] rfl ?_
  refine run_loop1 ?_
  repeat' (first | refine zck ?_ | refine zcp (by kernel_rfl) ?_ | refine zcm ?_ | refine zcl ?_ | refine zcn ?_ | refine zco ?_ | (refine zap rfl ?_; first | refine reg_lookup 7 (v := .tuple #[.slice none 0 0, .bool false]) rfl rfl rfl rfl ?_ | refine reg_lookup 3 (v := .tuple #[mSl s6 7, .bool true]) rfl rfl rfl rfl ?_ | refine zan rfl ?_ | refine zan rfl ?_ | refine zaa 0 rfl rfl rfl ?_ | refine zan rfl ?_ | refine zbg rfl rfl (by omega) ?_ | refine zau rfl rfl (by omega) ?_ | refine zas rfl rfl (by omega) ?_) | refine zch ?_ | refine zci rfl ?_ | refine zcj rfl ?_)
  refine run_take [6] rfl ?_
  refine run_exch 0 (Rds fun bl => RdSl w0 bl encM 4 (mSl s6 7) (msK 6)) rfl (fun g hg => Rds.mono (fun bl hb => RdSl.flat (encE := encM) (q := 4) (w0 := w0) (b := s6) (l := ms6) (fun _ _ => rfl) hb) g (Rds.of_pt g hg)) rfl ?_
  exact ret_tmp1 rfl rfl
theorem methods7 (w0 : World) : Vc.Fn PP w0 [] 67 [.int .i64 7] [] (MsR w0 7) := by
  refine fn_of_run en67 fn67 rfl rfl rfl ?_
  repeat' (first | refine zck ?_ | refine zcp (by kernel_rfl) ?_ | refine zcl ?_ | (refine zap rfl ?_; first | refine reg_buildSlice rfl rfl rfl rfl rfl rfl (fun nb => ?_) | refine zan rfl ?_ | refine zan rfl ?_ | refine zce rfl ?_ | (refine zai [] (row_spec w0) rfl rfl rfl sub_nil ?_; rintro v Γ ⟨m1, s0, s1, s2, s3, s7, rfl, rfl⟩) | (refine zai [] (keyed_spec w0) rfl rfl rfl sub_nil ?_; rintro v Γ ⟨m2, s4, s5, s6, rfl, rfl⟩) | (refine zai [] (linked_spec w0) rfl rfl rfl sub_nil ?_; rintro v Γ ⟨m3, s8, s9, rfl, rfl⟩)) | refine zch ?_)
  refine run_share [13] rfl ?_
  refine run_loop1 ?_
  repeat' (first | refine zck ?_ | refine zcp (by kernel_rfl) ?_ | refine zcm ?_ | refine zcl ?_ | (refine zap rfl ?_; first | refine reg_lookup 7 (v := .tuple #[mSl s7 6, .bool true]) rfl rfl rfl rfl ?_ | refine zan rfl ?_ | refine zan rfl ?_ | refine zaa 0 rfl rfl rfl ?_ | refine zan rfl ?_ | refine zbg rfl rfl (by omega) ?_ | refine zas rfl rfl (by omega) ?_) | refine zch ?_ | refine zci rfl ?_)
  refine run_take [12] rfl ?_
  refine run_exch 0 (Rds fun bl => RdSl w0 bl encM 4 (mSl s7 6) (msK 7)) rfl (fun g hg => Rds.mono (fun bl hb => RdSl.flat (encE := encM) (q := 4) (w0 := w0) (b := s7) (l := ms7) (fun _ _ => rfl) hb) g (Rds.of_pt g hg)) rfl ?_
  exact ret_tmp1 rfl rfl
theorem methods8 (w0 : World) : Vc.Fn PP w0 [] 67 [.int .i64 8] [] (MsR w0 8) := by
  refine fn_of_run en67 fn67 rfl rfl rfl ?_
  repeat' (first | refine zck ?_ | refine zcp (by kernel_rfl) ?_ | refine zcl ?_ | (refine zap rfl ?_; first | refine reg_buildSlice rfl rfl rfl rfl rfl rfl (fun nb => ?_) | refine zan rfl ?_ | refine zan rfl ?_ | refine zce rfl ?_ | (refine zai [] (row_spec w0) rfl rfl rfl sub_nil ?_; rintro v Γ ⟨m1, s0, s1, s2, s3, s7, rfl, rfl⟩) | (refine zai [] (keyed_spec w0) rfl rfl rfl sub_nil ?_; rintro v Γ ⟨m2, s4, s5, s6, rfl, rfl⟩) | (refine zai [] (linked_spec w0) rfl rfl rfl sub_nil ?_; rintro v Γ ⟨m3, s8, s9, rfl, rfl⟩)) | refine zch ?_)
  refine run_share [13] rfl ?_
  refine run_loop1 ?_
  repeat' (first | refine zck ?_ | refine zcp (by kernel_rfl) ?_ | refine zcm ?_ | refine zcl ?_ | refine zcn ?_ | refine zco ?_ | (refine zap rfl ?_; first | refine reg_lookup 7 (v := .tuple #[.slice none 0 0, .bool false]) rfl rfl rfl rfl ?_ | refine reg_lookup 3 (v := .tuple #[.slice none 0 0, .bool false]) rfl rfl rfl rfl ?_ | refine reg_lookup 0 (v := .tuple #[mSl s8 10, .bool true]) rfl rfl rfl rfl ?_ | refine zan rfl ?_ | refine zan rfl ?_ | refine zaa 0 rfl rfl rfl ?_ | refine zan rfl ?_ | refine zbg rfl rfl (by omega) ?_ | refine zau rfl rfl (by omega) ?_ | refine zas rfl rfl (by omega) ?_) | refine zch ?_ | refine zci rfl ?_ | refine zcj rfl ?_)
  refine run_take [1] rfl ?_
  refine run_exch 0 (Rds fun bl => RdSl w0 bl encM 4 (mSl s8 10) (msK 8)) rfl (fun g hg => Rds.mono (fun bl hb => RdSl.flat (encE := encM) (q := 4) (w0 := w0) (b := s8) (l := ms8) (fun _ _ => rfl) hb) g (Rds.of_pt g hg)) rfl ?_
  exact ret_tmp1 rfl rfl
theorem methods9 (w0 : World) : Vc.Fn PP w0 [] 67 [.int .i64 9] [] (MsR w0 9) := by
  refine fn_of_run en67 fn67 rfl rfl rfl ?_
  repeat' (first | refine zck ?_ | refine zcp (by kernel_rfl) ?_ | refine zcl ?_ | (refine zap rfl ?_; first | refine reg_buildSlice rfl rfl rfl rfl rfl rfl (fun nb => ?_) | refine zan rfl ?_ | refine zan rfl ?_ | refine zce rfl ?_ | (refine zai [] (row_spec w0) rfl rfl rfl sub_nil ?_; rintro v Γ ⟨m1, s0, s1, s2, s3, s7, rfl, rfl⟩) | (refine zai [] (keyed_spec w0) rfl rfl rfl sub_nil ?_; rintro v Γ ⟨m2, s4, s5, s6, rfl, rfl⟩) | (refine zai [] (linked_spec w0) rfl rfl rfl sub_nil ?_; rintro v Γ ⟨m3, s8, s9, rfl, rfl⟩)) | refine zch ?_)
  refine run_share [13] rfl ?_
  refine run_loop1 ?_
  repeat' (first | refine zck ?_ | refine zcp (by kernel_rfl) ?_ | refine zcm ?_ | refine zcl ?_ | refine zcn ?_ | refine zco ?_ | (refine zap rfl ?_; first | refine reg_lookup 7 (v := .tuple #[.slice none 0 0, .bool false]) rfl rfl rfl rfl ?_ | refine reg_lookup 3 (v := .tuple #[.slice none 0 0, .bool false]) rfl rfl rfl rfl ?_ | refine reg_lookup 0 (v := .tuple #[mSl s9 7, .bool true]) rfl rfl rfl rfl ?_ | refine zan rfl ?_ | refine zan rfl ?_ | refine zaa 0 rfl rfl rfl ?_ | refine zan rfl ?_ | refine zbg rfl rfl (by omega) ?_ | refine zau rfl rfl (by omega) ?_ | refine zas rfl rfl (by omega) ?_) | refine zch ?_ | refine zci rfl ?_ | refine zcj rfl ?_)
  refine run_take [2] rfl ?_
  refine run_exch 0 (Rds fun bl => RdSl w0 bl encM 4 (mSl s9 7) (msK 9)) rfl (fun g hg => Rds.mono (fun bl hb => RdSl.flat (encE := encM) (q := 4) (w0 := w0) (b := s9) (l := ms9) (fun _ _ => rfl) hb) g (Rds.of_pt g hg)) rfl ?_
  exact ret_tmp1 rfl rfl
theorem methodsX (w0 : World) (k : Int) (hk : k < 0 ∨ 9 < k) : Vc.Fn PP w0 [] 67 [.int .i64 k] [] (MsR w0 k) := by
  have hm : msK k = [] := by
    unfold msK
    rw [if_neg (by omega), if_neg (by omega), if_neg (by omega), if_neg (by omega), if_neg (by omega), if_neg (by omega), if_neg (by omega), if_neg (by omega), if_neg (by omega), if_neg (by omega)]
  have h0 : ∀ a : Int, 0 ≤ a → a ≤ 9 → ¬ a = k := fun a _ _ => by omega
  refine fn_of_run en67 fn67 rfl rfl rfl ?_
  repeat' (first | refine zck ?_ | refine zcp (by kernel_rfl) ?_ | refine zcl ?_ | (refine zap rfl ?_; first | refine reg_buildSlice rfl rfl rfl rfl rfl rfl (fun nb => ?_) | refine zan rfl ?_ | refine zan rfl ?_ | refine zce rfl ?_ | (refine zai [] (row_spec w0) rfl rfl rfl sub_nil ?_; rintro v Γ ⟨m1, s0, s1, s2, s3, s7, rfl, rfl⟩) | (refine zai [] (keyed_spec w0) rfl rfl rfl sub_nil ?_; rintro v Γ ⟨m2, s4, s5, s6, rfl, rfl⟩) | (refine zai [] (linked_spec w0) rfl rfl rfl sub_nil ?_; rintro v Γ ⟨m3, s8, s9, rfl, rfl⟩)) | refine zch ?_)
  refine run_share [13] rfl ?_
  refine run_loop1 ?_
  repeat' (first | refine zck ?_ | refine zcp (by kernel_rfl) ?_ | refine zcm ?_ | refine zcl ?_ | refine zcn ?_ | refine zco ?_ | refine zcs rfl ?_ | (refine zap rfl ?_; first | refine reg_lookup 7 (v := .tuple #[.slice none 0 0, .bool false]) rfl rfl rfl (by simp [Vc.look, h0]) ?_ | refine reg_lookup 3 (v := .tuple #[.slice none 0 0, .bool false]) rfl rfl rfl (by simp [Vc.look, h0]) ?_ | refine reg_lookup 0 (v := .tuple #[.slice none 0 0, .bool false]) rfl rfl rfl (by simp [Vc.look, h0]) ?_ | refine zan rfl ?_ | refine zan rfl ?_ | refine zaa 0 rfl rfl rfl ?_ | refine zan rfl ?_ | refine zbg rfl rfl (by omega) ?_ | refine zbh rfl rfl (by omega) ?_ | refine zau rfl rfl (by omega) ?_ | refine zas rfl rfl (by omega) ?_) | refine zch ?_ | refine zci rfl ?_ | refine zcj rfl ?_)
  refine run_take [] rfl ?_
  refine run_emptyR (fun bl => RdSl w0 bl encM 4 (.slice none 0 0) (msK k)) (by rw [hm]; exact RdSl.nil) ?_
  exact ret_tmp1 rfl rfl
theorem methods_spec (w0 : World) (k : Int) : Vc.Fn PP w0 [] 67 [.int .i64 k] [] (MsR w0 k) := by
  by_cases h : 0 ≤ k ∧ k ≤ 9
  · rcases (by omega : k = 0 ∨ k = 1 ∨ k = 2 ∨ k = 3 ∨ k = 4 ∨ k = 5 ∨ k = 6 ∨ k = 7 ∨ k = 8 ∨ k = 9) with rfl | rfl | rfl | rfl | rfl | rfl | rfl | rfl | rfl | rfl
    · exact methods0 w0
    · exact methods1 w0
    · exact methods2 w0
    · exact methods3 w0
    · exact methods4 w0
    · exact methods5 w0
    · exact methods6 w0
    · exact methods7 w0
    · exact methods8 w0
    · exact methods9 w0
  · exact methodsX w0 k (by omega)
end Go.Proofs.YtijbnjaackhlcaaGreatDoor

namespace Go.Proofs.YtijbnjaackhlcaaGreatDoor
open Go.Vc Sim
theorem findM1_spec (w0 : World) (sh : Shared) (xc : Nat) (name : ByteArray) (m : MRow) :
    FnE PP w0 ((xc, .cells (List.toArray [.string name]) 9 (0, 0)) :: sh) 319 [.agg (List.toArray (encM m)), .pointer (some ⟨xc, 0, none⟩)] [] (.bool (decide (m.1.1 = name))) [] := by
  refine fn_of_run en319 fn319 rfl rfl rfl ?_
  repeat' (first | refine zck ?_ | refine zcp (by kernel_rfl) ?_ | (refine zap rfl ?_; first | refine reg_eqS rfl rfl ?_ | refine zan rfl ?_ | refine zaa 0 rfl rfl rfl ?_ | refine zab 0 rfl rfl rfl ?_ | refine zao rfl ?_ | refine zaq (cs := [_, _, _, _]) rfl (fun nb => ?_)) | refine zch ?_)
  refine run_take [] rfl ?_
  exact ret_tmp1 rfl ⟨rfl, rfl⟩
theorem idxM_spec (w0 : World) (sh : Shared) (v : Value) (l : List MRow) (xc : Nat) (name : ByteArray) (hl : RdSl w0 sh encM 4 v l) (hb : l.length ≤ 1099511627776) :
    FnE PP w0 ((xc, .cells (List.toArray [.string name]) 9 (0, 0)) :: sh) 318 [v, .func (.func 319) #[] #[.pointer (some ⟨xc, 0, none⟩)]] [] (.int .i64 (idxP (fun m => decide (m.1.1 = name)) l 0)) [] := by
  obtain ⟨a, cap, hv, _⟩ := id hl
  subst hv
  refine fn_of_run en318 fn318 rfl rfl rfl ?_
  repeat' (first | refine zck ?_ | refine zcp (by kernel_rfl) ?_ | refine zcl ?_ | (refine zap rfl ?_; first | refine zan rfl ?_ | refine zan rfl ?_ | refine zce rfl ?_) | refine zch ?_)
  refine run_loop (S := Nat) (fun j => [(0, .slice a l.length cap), (1, .func (.func 319) #[] #[.pointer (some ⟨xc, 0, none⟩)]), (7, .int .i64 l.length), (8, .int .i64 j)])
    (fun j Γ => Γ = [] ∧ j ≤ l.length ∧ idxP (fun m => decide (m.1.1 = name)) (l.drop j) j = idxP (fun m => decide (m.1.1 = name)) l 0) (fun j => l.length - j) 0 ⟨rfl, rfl, rfl, rfl, trivial⟩ ⟨rfl, by omega, rfl⟩ ?_
  rintro j Γ junk ⟨rfl, g1, g2⟩
  by_cases hj : j < l.length
  · obtain ⟨x, hx⟩ : ∃ x, l[j]? = some x := ⟨_, List.getElem?_eq_getElem hj⟩
    obtain ⟨b, off, c, T, fr, rfl, e2, e3, _⟩ := hl.cells hx
    have hd : l.drop j = x :: l.drop (j + 1) := by
      rw [List.drop_eq_getElem_cons hj]
      congr 1
      exact (List.getElem?_eq_some_iff.1 hx).2
    have hc := findM1_spec w0 sh xc name x
    rw [hd, idxP] at g2
    by_cases hs : decide (x.1.1 = name) = true
    · rw [if_pos hs] at g2
      rw [hs] at hc
      repeat' (first | refine zck ?_ | refine zcp (by kernel_rfl) ?_ | refine zcm ?_ | refine zcl ?_ | (refine zap rfl ?_; first | refine zad rfl (fun hF Γ w h1 h2 => e2 hF Γ w (fun p hp => h1 p (by simp [hp])) h2) (e3 _ (by omega)) ?_ | refine zan rfl ?_ | refine zan rfl ?_ | refine zah [] hc rfl rfl rfl (fun _ h => h) rfl ?_ | refine zbg rfl rfl (by omega) ?_ | refine zas rfl rfl (by omega) ?_) | refine zch ?_ | refine zci rfl ?_)
      exact qret1 (fun _ _ h => h) rfl ⟨by rw [← g2]; rfl, rfl⟩
    · rw [if_neg hs] at g2
      rw [Bool.eq_false_iff.2 hs] at hc
      repeat' (first | refine zck ?_ | refine zcp (by kernel_rfl) ?_ | refine zcm ?_ | refine zcl ?_ | refine zcn ?_ | (refine zap rfl ?_; first | refine zad rfl (fun hF Γ w h1 h2 => e2 hF Γ w (fun p hp => h1 p (by simp [hp])) h2) (e3 _ (by omega)) ?_ | refine zan rfl ?_ | refine zan rfl ?_ | refine zah [] hc rfl rfl rfl (fun _ h => h) rfl ?_ | refine zbg rfl rfl (by omega) ?_ | refine zau rfl rfl (by omega) ?_ | refine zas rfl rfl (by omega) ?_) | refine zch ?_ | refine zci rfl ?_ | refine zcj rfl ?_)
      exact cut_end ⟨rfl, j + 1, ⟨rfl, rfl, rfl, int_eq (by omega), trivial⟩, ⟨rfl, by omega, by rw [← g2]; rfl⟩, by omega⟩
  · repeat' (first | refine zck ?_ | refine zcp (by kernel_rfl) ?_ | (refine zap rfl ?_; first | refine zbh rfl rfl (by omega) ?_) | refine zch ?_ | refine zcj rfl ?_)
    refine cut_exit rfl rfl ?_
    repeat' (first | refine zck ?_ | refine zcp (by kernel_rfl) ?_ | (refine zap rfl ?_; first | refine zan rfl ?_) | refine zch ?_)
    rw [List.drop_of_length_le (by omega)] at g2
    exact ret_tmp1 rfl ⟨by rw [← g2]; rfl, rfl⟩
theorem msK_len (k : Int) : (msK k).length ≤ 10 := by
  have h := congrArg List.length (msK_rows k)
  rw [List.length_map] at h
  rw [h]
  unfold ctMeths
  by_cases h : 0 ≤ k ∧ k ≤ 9
  · rcases (by omega : k = 0 ∨ k = 1 ∨ k = 2 ∨ k = 3 ∨ k = 4 ∨ k = 5 ∨ k = 6 ∨ k = 7 ∨ k = 8 ∨ k = 9) with rfl | rfl | rfl | rfl | rfl | rfl | rfl | rfl | rfl | rfl <;> decide
  · rw [if_neg h]; decide
def findMV : Option MRow → Value
  | some m => .tuple #[.agg (List.toArray (encM m)), .bool true]
  | none => .tuple #[.agg (List.toArray [.string ⟨#[]⟩, .int .i64 0, .bool false, .nilFunc]), .bool false]
theorem findM_spec (w0 : World) (k : Int) (name : ByteArray) : FnE PP w0 [] 228 [.int .i64 k, .string name] [] (findMV ((msK k).find? fun m => decide (m.1.1 = name))) [] := by
  have hf := idxP_find (fun m : MRow => decide (m.1.1 = name)) (msK k) 0 (Int.le_refl _)
  have hlen := msK_len k
  refine fn_of_run en228 fn228 rfl rfl rfl ?_
  repeat (first | refine zck ?_ | refine zcl ?_ | refine zcm ?_ | refine zcn ?_)
  first | refine zcp (by kernel_rfl) ?_ | refine zcq PP_mixed (by kernel_rfl) (by kernel_rfl) ?_
  repeat' (refine zap rfl ?_; first | refine zan rfl ?_ | refine zaq (cs := [_]) rfl (fun nb => ?_) | refine zar (fun nb => ?_))
  all_goals refine zch ?_
  all_goals repeat (first | refine zck ?_ | refine zcl ?_ | refine zcm ?_ | refine zcn ?_)
  refine run_share [0] rfl ?_
  rename_i be
  repeat (first | refine zck ?_ | refine zcl ?_ | refine zcm ?_ | refine zcn ?_)
  first | refine zcp (by kernel_rfl) ?_ | refine zcq PP_mixed (by kernel_rfl) (by kernel_rfl) ?_
  repeat' (refine zap rfl ?_; first | refine zan rfl ?_ | refine zan rfl ?_ | (refine zai [] (methods_spec w0 k) rfl rfl rfl sub_nil ?_; rintro v Γ rfl))
  all_goals refine zch ?_
  all_goals repeat (first | refine zck ?_ | refine zcl ?_ | refine zcm ?_ | refine zcn ?_)
  refine run_shareR [0] rfl ?_
  intro sh' bl hs1 hs2 hR
  have hR := hR.mono hs2
  obtain ⟨a2, c2, hv2, _⟩ := id hR
  subst hv2
  have hbe2 : (be, Obj.cells (List.toArray [Value.string name]) 9 (0, 0)) ∈ sh' := hs1 _ (.head _)
  have hi := idxM_spec w0 sh' _ (msK k) be name hR (by omega)
  have hsub : ∀ p ∈ (be, Obj.cells (List.toArray [Value.string name]) 9 (0, 0)) :: sh', p ∈ sh' := fun p hp => by
    rcases List.mem_cons.1 hp with h | h
    · rw [h]; exact hbe2
    · exact h
  cases hq : (msK k).find? (fun m => decide (m.1.1 = name)) with
  | none =>
    rw [hq] at hf
    rw [hf] at hi
    repeat' (first | refine zck ?_ | refine zcp (by kernel_rfl) ?_ | (refine zap rfl ?_; first | refine zan rfl ?_ | refine zan rfl ?_ | refine zah [] hi rfl rfl rfl hsub rfl ?_ | refine zbg rfl rfl (by omega) ?_ | refine zae 0 rfl rfl rfl rfl rfl rfl rfl ?_ | refine zcb rfl ?_ | refine zan rfl ?_) | refine zch ?_ | refine zci rfl ?_)
    exact run_ret (leaves_nil (ends_take [] rfl (ends_two rfl (resOk_pt 0 rfl rfl rfl) rfl ⟨rfl, rfl, rfl⟩)))
  | some x =>
    rw [hq] at hf
    obtain ⟨i, hi1, hx⟩ := hf
    rw [hi1] at hi
    obtain ⟨b, off, c, T, fr, ha2, e2, e3, _⟩ := hR.cells hx
    subst ha2
    have hlt := (List.getElem?_eq_some_iff.1 hx).1
    repeat' (first | refine zck ?_ | refine zcp (by kernel_rfl) ?_ | refine zcm ?_ | (refine zap rfl ?_; first | refine zad rfl e2 (e3 _ (by omega)) ?_ | refine zan rfl ?_ | refine zan rfl ?_ | refine zah [] hi rfl rfl rfl hsub rfl ?_ | refine zbh rfl rfl (by omega) ?_ | refine zae 0 rfl rfl rfl rfl rfl rfl rfl ?_ | refine zas rfl rfl (by omega) ?_ | refine zan rfl ?_) | refine zch ?_ | refine zcj rfl ?_)
    exact run_ret (leaves_nil (ends_take [] rfl (ends_two rfl (resOk_pt 0 rfl rfl rfl) rfl ⟨rfl, rfl, rfl⟩)))
theorem method_spec (w0 : World) (m : ByteArray × Int × Bool) (f : Value) : FnE PP w0 [] 68 [.agg (List.toArray [.string m.1, .int .i64 m.2.1, .bool m.2.2, f])] [] (.agg (List.toArray [.string m.1, .int .i64 m.2.1, .bool m.2.2])) [] := by
  refine fn_of_run en68 fn68 rfl rfl rfl ?_
  repeat' (first | refine zck ?_ | refine zcp (by kernel_rfl) ?_ | (refine zap rfl ?_; first | refine zab 0 rfl rfl rfl ?_ | refine zao rfl ?_ | refine zae 1 rfl rfl rfl rfl rfl rfl rfl ?_ | refine zaq (cs := [_, _, _, _]) rfl (fun nb => ?_) | refine zar (fun nb => ?_) | refine zcb rfl ?_) | refine zch ?_)
  exact run_ret (leaves_nil (ends_take [] rfl (ends_one rfl (resOk_pt 1 rfl rfl rfl) ⟨rfl, rfl, rfl⟩)))
def findCV : Option (ByteArray × Int × Bool) → Value
  | some m => .tuple #[.agg (List.toArray [.string m.1, .int .i64 m.2.1, .bool m.2.2]), .bool true]
  | none => .tuple #[.agg (List.toArray [.string ⟨#[]⟩, .int .i64 0, .bool false]), .bool false]
theorem findC_spec (w0 : World) (k : Int) (name : ByteArray) : FnE PP w0 [] 91 [.int .i64 k, .string name] [] (findCV (ctFind k name)) [] := by
  have hm := findM_spec w0 k name
  have hc : ctFind k name = ((msK k).find? fun m => decide (m.1.1 = name)).map (·.1) := by
    unfold ctFind
    rw [← msK_rows, List.find?_map]
    rfl
  rw [hc]
  cases hq : (msK k).find? (fun m => decide (m.1.1 = name)) with
  | none =>
    rw [hq] at hm
    have hz := method_spec w0 (⟨#[]⟩, 0, false) .nilFunc
    refine fn_of_run en91 fn91 rfl rfl rfl ?_
    repeat' (first | refine zck ?_ | refine zcp (by kernel_rfl) ?_ | (refine zap rfl ?_; first | refine zan rfl ?_ | refine zan rfl ?_ | refine zab 1 rfl rfl rfl ?_ | refine zah [] hm rfl rfl rfl sub_nil rfl ?_ | refine zah [] hz rfl rfl rfl sub_nil rfl ?_ | refine zan rfl ?_ | refine zae 0 rfl rfl rfl rfl rfl rfl rfl ?_ | refine zae 1 rfl rfl rfl rfl rfl rfl rfl ?_ | refine zar (fun nb => ?_)) | refine zch ?_)
    exact run_ret (leaves_nil (ends_take [] rfl (ends_two rfl (resOk_pt 0 rfl rfl rfl) rfl ⟨rfl, rfl, rfl⟩)))
  | some x =>
    rw [hq] at hm
    have hz := method_spec w0 x.1 (.func (.func x.2) #[] #[])
    refine fn_of_run en91 fn91 rfl rfl rfl ?_
    repeat' (first | refine zck ?_ | refine zcp (by kernel_rfl) ?_ | (refine zap rfl ?_; first | refine zan rfl ?_ | refine zan rfl ?_ | refine zab 1 rfl rfl rfl ?_ | refine zah [] hm rfl rfl rfl sub_nil rfl ?_ | refine zah [] hz rfl rfl rfl sub_nil rfl ?_ | refine zan rfl ?_ | refine zae 0 rfl rfl rfl rfl rfl rfl rfl ?_ | refine zae 1 rfl rfl rfl rfl rfl rfl rfl ?_ | refine zar (fun nb => ?_)) | refine zch ?_)
    exact run_ret (leaves_nil (ends_take [] rfl (ends_two rfl (resOk_pt 0 rfl rfl rfl) rfl ⟨rfl, rfl, rfl⟩)))
end Go.Proofs.YtijbnjaackhlcaaGreatDoor

namespace Sim
open Go Go.Vc
def kS (l : List (ByteArray × ByteArray)) : SM := l.map fun d => (d.1, .string d.2)
def lookK : List (ByteArray × ByteArray) → ByteArray → Option ByteArray
  | [], _ => none
  | d :: l, s => if d.1 = s then some d.2 else lookK l s
theorem lookK_S (s : ByteArray) : ∀ l : List (ByteArray × ByteArray), lookS (kS l) s = (lookK l s).map .string
  | [] => rfl
  | d :: l => by
    have ih := lookK_S s l
    simp only [kS, List.map_cons, lookS, lookK] at ih ⊢
    rw [ih]
    split <;> rfl
theorem Ef.sm.mono {e : Ef} {n m : Nat} (h : e.sm n) (hm : n ≤ m) : e.sm m := ⟨Nat.le_trans h.1 hm, Nat.le_trans h.2.1 hm, Nat.le_trans h.2.2 hm⟩
end Sim

namespace Go.Vc
open Sim
theorem Rds.one {w0 : World} {b : Nat} {s : ByteArray} {T : TypeId} (g : Heap) (hg : pt b (.cells (List.toArray [.string s]) T (0, 0)) g) : Rds (fun bl => RdSl w0 bl encY 1 (.slice (some ⟨b, 0, none⟩) 1 1) [s]) g :=
  Rds.mono (fun _ hb => RdSl.flat (encE := encY) (q := 1) (w0 := w0) (b := b) (l := [s]) (fun _ _ => rfl) hb) g (Rds.of_pt g hg)
def EfR (w0 : World) (e : Ef) (L : List Asn) (v : Value) (Γ : List Asn) : Prop := ∃ x1 y1 x2 y2 x3 y3, v = efA x1 e.reads.length y1 x2 e.writes.length y2 x3 e.hosts.length y3 e.calls ∧ Γ = Rds (fun bl => RdEfV w0 bl v e) :: L
end Go.Vc
namespace Go.Proofs.YtijbnjaackhlcaaGreatDoor
open Go.Vc Sim
end Go.Proofs.YtijbnjaackhlcaaGreatDoor

namespace Go.Vc
open Sim
abbrev P6 : Type := (Option Addr × Nat) × (Option Addr × Nat) × (Option Addr × Nat)
abbrev efL (p : P6) (e : Ef) : List Value := [.slice p.1.1 e.reads.length p.1.2, .slice p.2.1.1 e.writes.length p.2.1.2, .slice p.2.2.1 e.hosts.length p.2.2.2, .int .i64 e.calls]
abbrev efV (p : P6) (e : Ef) : Value := .agg (List.toArray (efL p e))
abbrev rdV (w0 : World) (v : Value) (e : Ef) : Asn := Rds fun bl => RdEfV w0 bl v e
abbrev p0 : P6 := ((none, 0), (none, 0), (none, 0))
theorem EfR.p {w0 : World} {e : Ef} {L : List Asn} {v : Value} {Γ : List Asn} (h : EfR w0 e L v Γ) : ∃ p : P6, v = efV p e ∧ Γ = rdV w0 (efV p e) e :: L := by
  obtain ⟨x1, y1, x2, y2, x3, y3, h1, h2⟩ := h
  refine ⟨((x1, y1), (x2, y2), (x3, y3)), h1, ?_⟩
  rw [h2, h1]
theorem EfR.of {w0 : World} {e : Ef} {L : List Asn} (p : P6) : EfR w0 e L (efV p e) (rdV w0 (efV p e) e :: L) := ⟨_, _, _, _, _, _, rfl, rfl⟩
end Go.Vc
namespace Go.Proofs.YtijbnjaackhlcaaGreatDoor
open Go.Vc Sim
end Go.Proofs.YtijbnjaackhlcaaGreatDoor

namespace Go.Proofs.YtijbnjaackhlcaaGreatDoor
open Go.Vc Sim
end Go.Proofs.YtijbnjaackhlcaaGreatDoor

namespace Sim
end Sim
namespace Go.Proofs.YtijbnjaackhlcaaGreatDoor
open Go.Vc Sim
end Go.Proofs.YtijbnjaackhlcaaGreatDoor

namespace Go.Proofs.YtijbnjaackhlcaaGreatDoor
open Go.Vc Sim
end Go.Proofs.YtijbnjaackhlcaaGreatDoor

namespace Sim
open Go Go.Vc
theorem lookK_none {s : ByteArray} : ∀ {l : List (ByteArray × ByteArray)}, inS (l.map (·.1)) s = false → lookK l s = none
  | [], _ => rfl
  | d :: l, h => by
    simp only [inS, List.map_cons, List.any_cons, Bool.or_eq_false_iff] at h
    rw [lookK, if_neg (by simpa using h.1)]
    exact lookK_none h.2
theorem freshN_in {met more : List ByteArray} {s : ByteArray} (h : freshN met s more = 0) : inS met s = false := by
  unfold freshN at h
  split at h
  · omega
  · split at h
    · omega
    · rename_i h2; simpa using h2
theorem wrongD_fresh {l : List (ByteArray × ByteArray)} (h : wrongD [] l = 0) : ∀ (j : Nat), j ≤ l.length → wrongD ((l.take j).map (·.1)) (l.drop j) = 0
  | 0, _ => h
  | j + 1, hj => by
    have ih := wrongD_fresh h j (by omega)
    obtain ⟨x, hx⟩ : ∃ x, l[j]? = some x := ⟨_, List.getElem?_eq_getElem (by omega)⟩
    rw [wrongD_drop hx] at ih
    by_cases h0 : freshN ((l.take j).map (·.1)) x.1 [x.2] = 0
    · rw [if_neg (by omega)] at ih
      rw [take_snoc hx, List.map_append]
      exact ih
    · rw [if_pos h0] at ih; exact absurd ih h0
theorem kS_next {l : List (ByteArray × ByteArray)} {j : Nat} {x : ByteArray × ByteArray} (h : wrongD [] l = 0) (hx : l[j]? = some x) : insS (kS (l.take j)) x.1 (.string x.2) = kS (l.take (j + 1)) := by
  have hj := (List.getElem?_eq_some_iff.1 hx).1
  have h1 := wrongD_fresh h j (by omega)
  rw [wrongD_drop hx] at h1
  have h0 : freshN ((l.take j).map (·.1)) x.1 [x.2] = 0 := by
    by_cases h0 : freshN ((l.take j).map (·.1)) x.1 [x.2] = 0
    · exact h0
    · rw [if_pos h0] at h1; exact absurd h1 h0
  rw [insS_none _ _ _ (by rw [lookK_S, lookK_none (freshN_in h0)]; rfl), take_snoc hx]
  simp [kS]
theorem checkP_zero {p : PP'} (h : checkP p = 0) : p.stores.length ≤ 12 ∧ p.opers.length ≤ 32 ∧ wrongD [] p.stores = 0 ∧ wrongOs [] p.opers = 0 := by
  unfold checkP at h
  split at h
  · omega
  · split at h
    · rename_i h1; exact absurd h h1
    · rename_i h1 h2; exact ⟨by omega, by omega, by simpa using h2, h⟩
end Sim
namespace Go.Proofs.YtijbnjaackhlcaaGreatDoor
open Go.Vc Sim
end Go.Proofs.YtijbnjaackhlcaaGreatDoor

namespace Sim
end Sim
namespace Go.Proofs.YtijbnjaackhlcaaGreatDoor
open Go.Vc Sim
end Go.Proofs.YtijbnjaackhlcaaGreatDoor

namespace Sim
end Sim
namespace Go.Vc
open Sim
theorem RdC.of {w0 : World} {sh : Shared} {m b : Nat} {cl : List (List Value)} {T : TypeId} {fr : Nat × Nat} (hq : ∀ x ∈ cl, x.length = m) (h : (b, Obj.cells (List.toArray (cl.flatMap fun x => x)) T fr) ∈ sh) : RdC w0 sh m (.slice (some ⟨b, 0, none⟩) cl.length cl.length) cl :=
  RdSl.flat (encE := fun x : List Value => x) (q := m) (w0 := w0) (b := b) (l := cl) hq h
theorem RdEl.nil0 {w0 : World} {sh : Shared} : RdEl w0 sh (.slice none 0 0) [] := ⟨[], RdSl.nil, by unfold RdEs; rfl⟩
theorem RdSt.nil0 {w0 : World} {sh : Shared} : RdSt w0 sh (.slice none 0 0) [] := ⟨[], RdSl.nil, by unfold RdSs; rfl⟩
theorem RdEl.one {w0 : World} {sh : Shared} {b : Nat} {e : PE} {c : List Value} {T : TypeId} {fr : Nat × Nat} (he : RdE w0 sh e c) (hc : c.length = 6) (h : (b, Obj.cells (List.toArray (c ++ [])) T fr) ∈ sh) : RdEl w0 sh (.slice (some ⟨b, 0, none⟩) 1 1) [e] :=
  ⟨[c], RdC.of (cl := [c]) (fun x hx => by rw [List.mem_singleton.1 hx]; exact hc) h, by unfold RdEs; exact ⟨c, [], rfl, he, by unfold RdEs; rfl⟩⟩
theorem RdEl.two {w0 : World} {sh : Shared} {b : Nat} {e e' : PE} {c c' : List Value} {T : TypeId} {fr : Nat × Nat} (he : RdE w0 sh e c) (hc : c.length = 6) (he' : RdE w0 sh e' c') (hc' : c'.length = 6) (h : (b, Obj.cells (List.toArray (c ++ (c' ++ []))) T fr) ∈ sh) : RdEl w0 sh (.slice (some ⟨b, 0, none⟩) 2 2) [e, e'] :=
  ⟨[c, c'], RdC.of (cl := [c, c']) (fun x hx => by simp at hx; rcases hx with rfl | rfl <;> assumption) h, by unfold RdEs; exact ⟨c, [c'], rfl, he, by unfold RdEs; exact ⟨c', [], rfl, he', by unfold RdEs; rfl⟩⟩⟩
theorem RdSt.one {w0 : World} {sh : Shared} {b : Nat} {e : PS} {c : List Value} {T : TypeId} {fr : Nat × Nat} (he : RdS w0 sh e c) (hc : c.length = 11) (h : (b, Obj.cells (List.toArray (c ++ [])) T fr) ∈ sh) : RdSt w0 sh (.slice (some ⟨b, 0, none⟩) 1 1) [e] :=
  ⟨[c], RdC.of (cl := [c]) (fun x hx => by rw [List.mem_singleton.1 hx]; exact hc) h, by unfold RdSs; exact ⟨c, [], rfl, he, by unfold RdSs; rfl⟩⟩
theorem RdSt.two {w0 : World} {sh : Shared} {b : Nat} {e e' : PS} {c c' : List Value} {T : TypeId} {fr : Nat × Nat} (he : RdS w0 sh e c) (hc : c.length = 11) (he' : RdS w0 sh e' c') (hc' : c'.length = 11) (h : (b, Obj.cells (List.toArray (c ++ (c' ++ []))) T fr) ∈ sh) : RdSt w0 sh (.slice (some ⟨b, 0, none⟩) 2 2) [e, e'] :=
  ⟨[c, c'], RdC.of (cl := [c, c']) (fun x hx => by simp at hx; rcases hx with rfl | rfl <;> assumption) h, by unfold RdSs; exact ⟨c, [c'], rfl, he, by unfold RdSs; exact ⟨c', [], rfl, he', by unfold RdSs; rfl⟩⟩⟩
theorem RdS.of {w0 : World} {sh : Shared} {s : PS} {va vo vb ve : Value} (h1 : RdEl w0 sh va s.expr.args) (h2 : RdEl w0 sh vo s.expr.or) (h3 : RdSt w0 sh vb s.body) (h4 : RdSt w0 sh ve s.els) : RdS w0 sh s (psC s va vo vb ve) := by
  cases s
  obtain ⟨cl, g1, g2⟩ := h3
  obtain ⟨cl', g3, g4⟩ := h4
  have he := RdE.of h1 h2
  unfold RdS
  exact ⟨_, vb, ve, cl, cl', rfl, he, g1, g2, g3, g4⟩
theorem RdOl.one {w0 : World} {sh : Shared} {b : Nat} {o : PO} {c : List Value} {T : TypeId} {fr : Nat × Nat} (ho : RdO w0 sh o c) (hc : c.length = 3) (h : (b, Obj.cells (List.toArray (c ++ [])) T fr) ∈ sh) : RdOl w0 sh (.slice (some ⟨b, 0, none⟩) 1 1) [o] :=
  ⟨[c], RdC.of (cl := [c]) (fun x hx => by rw [List.mem_singleton.1 hx]; exact hc) h, c, [], rfl, ho, rfl⟩
end Go.Vc
namespace Go.Proofs.YtijbnjaackhlcaaGreatDoor
open Go.Vc Sim
end Go.Proofs.YtijbnjaackhlcaaGreatDoor

namespace Go.Proofs.YtijbnjaackhlcaaGreatDoor
open Go.Vc Sim
end Go.Proofs.YtijbnjaackhlcaaGreatDoor

namespace Sim
open Go Go.Vc
def Ef.nm (e : Ef) : Prop := joinE e zeroE = e
def PO.put (o : PO) (b : List PS) : PO := ⟨o.name, o.params, b⟩
end Sim

namespace Sim
open Go Go.Vc
def Ef.ok (e : Ef) : Prop := (∀ x ∈ e.writes, x ∈ e.reads) ∧ 0 ≤ e.calls ∧ (e.reads ≠ [] → 1 ≤ e.calls)
def Ef.le (a b : Ef) : Prop := (∀ x ∈ a.reads, x ∈ b.reads) ∧ (∀ x ∈ a.writes, x ∈ b.writes) ∧ (∀ x ∈ a.hosts, x ∈ b.hosts) ∧ a.calls ≤ b.calls
theorem Ef.le.trans {a b c : Ef} (h : a.le b) (g : b.le c) : a.le c := ⟨fun x hx => g.1 x (h.1 x hx), fun x hx => g.2.1 x (h.2.1 x hx), fun x hx => g.2.2.1 x (h.2.2.1 x hx), Int.le_trans h.2.2.2 g.2.2.2⟩
theorem Ef.nm.calls {a : Ef} (h : a.nm) : 0 ≤ a.calls ∧ a.calls ≤ mostC := by
  unfold Ef.nm at h
  rw [← h]
  exact sumC_range _ _
end Sim

namespace Sim
open Go Go.Vc
def lookG : List (ByteArray × List (ByteArray × Int × Bool)) → ByteArray → Option (List (ByteArray × Int × Bool))
  | [], _ => none
  | g :: gs, k => if g.1 = k then some g.2 else lookG gs k
end Sim

namespace Sim
open Go Go.Vc
def ctG : List (ByteArray × List (ByteArray × Int × Bool)) := (List.range 10).map fun i => (ctNames.getD i (bs []), ctRows.getD i [])
theorem ctG_nodup : (ctG.map (·.1)).Nodup := by decide +kernel
end Sim

namespace Sim
open Go Go.Vc
end Sim

namespace Go.Proofs.YtijbnjaackhlcaaGreatDoor
open Go.Vc Sim
theorem in_spec (w0 : World) (sh : Shared) (v : Value) (l : List ByteArray) (s : ByteArray) (hl : RdSl w0 sh encY 1 v l) (hb : l.length ≤ 1099511627776) :
    FnE PP w0 sh 33 [v, .string s] [] (.bool (inS l s)) [] := by
  obtain ⟨a, c, rfl⟩ := hl.val
  refine fn_of_run en33 fn33 rfl rfl rfl ?_
  repeat' (first | refine zck ?_ | refine zcp (by kernel_rfl) ?_ | refine zcl ?_ | (refine zap rfl ?_; first | refine zan rfl ?_) | refine zch ?_)
  refine run_loop (S := Nat) (fun j => [(0, .slice a l.length c), (1, .string s), (5, .int .i64 j)]) (fun j Γ => Γ = [] ∧ j ≤ l.length ∧ inS l s = inS (l.drop j) s) (fun j => l.length - j) 0 ⟨rfl, rfl, rfl, trivial⟩ ⟨rfl, by omega, rfl⟩ ?_
  rintro j Γ junk ⟨rfl, g1, g2⟩
  by_cases hj : j < l.length
  · obtain ⟨x, hx⟩ : ∃ x, l[j]? = some x := ⟨_, List.getElem?_eq_getElem hj⟩
    obtain ⟨b1, o1, k1, T1, f1, rfl, e2, _, e3⟩ := hl.cells hx
    have r1 : ∀ o, o = o1 + j * 1 + 0 → rd false 1 k1.toList o = some (.string x) := fun o ho => e3 0 _ rfl o ho
    have hd : l.drop j = x :: l.drop (j + 1) := by
      rw [List.drop_eq_getElem_cons hj]
      congr 1
      exact (List.getElem?_eq_some_iff.1 hx).2
    have hin : inS (l.drop j) s = (decide (x = s) || inS (l.drop (j + 1)) s) := by rw [hd]; rfl
    rw [hin] at g2
    by_cases hxy : x = s
    · rw [decide_eq_true hxy, Bool.true_or] at g2
      rw [g2]
      repeat' (first | refine zck ?_ | refine zcp (by kernel_rfl) ?_ | refine zcm ?_ | refine zcl ?_ | (refine zap rfl ?_; first | refine zad rfl e2 (r1 _ (by omega)) ?_ | refine reg_eqST rfl rfl hxy ?_ | refine zan rfl ?_ | refine zan rfl ?_ | refine zce rfl ?_ | refine zbg rfl rfl (by omega) ?_ | refine zas rfl rfl (by omega) ?_) | refine zch ?_ | refine zci rfl ?_)
      exact qret1 (fun _ _ h => h) rfl ⟨rfl, rfl⟩
    · rw [decide_eq_false hxy, Bool.false_or] at g2
      repeat' (first | refine zck ?_ | refine zcp (by kernel_rfl) ?_ | refine zcm ?_ | refine zcl ?_ | refine zcn ?_ | (refine zap rfl ?_; first | refine zad rfl e2 (r1 _ (by omega)) ?_ | refine reg_eqSF rfl rfl hxy ?_ | refine zan rfl ?_ | refine zan rfl ?_ | refine zce rfl ?_ | refine zbg rfl rfl (by omega) ?_ | refine zau rfl rfl (by omega) ?_ | refine zas rfl rfl (by omega) ?_) | refine zch ?_ | refine zci rfl ?_ | refine zcj rfl ?_)
      exact cut_end ⟨rfl, j + 1, ⟨rfl, rfl, int_eq (by omega), trivial⟩, ⟨rfl, by omega, g2⟩, by omega⟩
  · rw [List.drop_of_length_le (by omega)] at g2
    rw [g2]
    repeat' (first | refine zck ?_ | refine zcp (by kernel_rfl) ?_ | (refine zap rfl ?_; first | refine zan rfl ?_ | refine zce rfl ?_ | refine zbh rfl rfl (by omega) ?_) | refine zch ?_ | refine zcj rfl ?_)
    refine cut_exit rfl rfl ?_
    repeat' (first | refine zck ?_ | refine zcp (by kernel_rfl) ?_ | (refine zap rfl ?_; first | refine zan rfl ?_) | refine zch ?_)
    exact ret_tmp1 rfl ⟨rfl, rfl⟩
end Go.Proofs.YtijbnjaackhlcaaGreatDoor

namespace Sim
end Sim
namespace Go.Proofs.YtijbnjaackhlcaaGreatDoor
open Go.Vc Sim
end Go.Proofs.YtijbnjaackhlcaaGreatDoor

namespace Sim
end Sim
namespace Go.Proofs.YtijbnjaackhlcaaGreatDoor
open Go.Vc Sim
end Go.Proofs.YtijbnjaackhlcaaGreatDoor

namespace Go.Proofs.YtijbnjaackhlcaaGreatDoor
open Go.Vc Sim
theorem has_spec (w0 : World) (sh : Shared) (k : Int) : FnE PP w0 sh 60 [.int .i64 k] [] (.bool (hasEx k)) [] := by
  refine fn_of_run en60 fn60 rfl rfl rfl ?_
  by_cases h4 : k = 4
  · subst h4
    repeat' (first | refine zck ?_ | refine zcp (by kernel_rfl) ?_ | (refine zap rfl ?_; first | refine zak rfl ?_ | refine zan rfl ?_ | refine zan rfl ?_ | refine zbf rfl rfl (by omega) ?_ | refine zbv rfl ?_) | refine zch ?_)
    exact ret_tmp1 rfl ⟨rfl, rfl⟩
  · by_cases h6 : k = 6
    · subst h6
      repeat' (first | refine zck ?_ | refine zcp (by kernel_rfl) ?_ | (refine zap rfl ?_; first | refine zaj rfl ?_ | refine zan rfl ?_ | refine zan rfl ?_ | refine zbe rfl rfl (by omega) ?_ | refine zbf rfl rfl (by omega) ?_ | refine zbu rfl ?_) | refine zch ?_)
      exact ret_tmp1 rfl ⟨rfl, rfl⟩
    · have hh : hasEx k = true := by unfold hasEx; simp [h4, h6]
      rw [hh]
      repeat' (first | refine zck ?_ | refine zcp (by kernel_rfl) ?_ | (refine zap rfl ?_; first | refine zaj rfl ?_ | refine zan rfl ?_ | refine zan rfl ?_ | refine zbe rfl rfl (by omega) ?_ | refine zbu rfl ?_) | refine zch ?_)
      exact ret_tmp1 rfl ⟨rfl, rfl⟩
end Go.Proofs.YtijbnjaackhlcaaGreatDoor

namespace Sim
def szB (s : ByteArray) : Prop := s.size ≤ 4611686018427387904
mutual
def PE.sz : PE → Prop
  | .mk _ _ a b xs ys => szB a ∧ szB b ∧ PE.szL xs ∧ PE.szL ys
def PE.szL : List PE → Prop
  | [] => True
  | e :: l => PE.sz e ∧ PE.szL l
end
theorem PE.sz_eq {e : PE} (h : e.sz) : szB e.name ∧ szB e.meth ∧ PE.szL e.args ∧ PE.szL e.or := by cases e; unfold PE.sz at h; exact h
theorem PE.szL_mem : ∀ {l : List PE}, PE.szL l → ∀ x ∈ l, x.sz
  | [], _, x, hx => by simp at hx
  | e :: l, h, x, hx => by
    unfold PE.szL at h
    rcases List.mem_cons.1 hx with rfl | hx
    · exact h.1
    · exact PE.szL_mem h.2 x hx
theorem PE.sizeL_snoc : ∀ {l : List PE} {j : Nat} {x : PE}, l[j]? = some x → PE.sizeL (l.take (j + 1)) = PE.sizeL (l.take j) + x.size
  | e :: l, 0, x, h => by simp at h; subst h; simp [PE.sizeL]
  | e :: l, j + 1, x, h => by
    have := PE.sizeL_snoc (l := l) (j := j) (x := x) (by simpa using h)
    rw [List.take_succ_cons, List.take_succ_cons, PE.sizeL, PE.sizeL, this]; omega
end Sim
namespace Go.Proofs.YtijbnjaackhlcaaGreatDoor
open Go.Vc Sim
def RmE (w0 : World) (n : Nat) : Prop := ∀ (sh : Shared) (e : PE) (va vo : Value) (left : Int), e.size ≤ n → e.sz → RdEl w0 sh va e.args → RdEl w0 sh vo e.or → -50000000000000000 ≤ left → left ≤ 400 →
  Vc.Fn PP w0 sh 38 [.agg (List.toArray (peC e.kind e.num e.name e.meth va vo)), .int .i64 left] [] (fun v Γ => Γ = [] ∧ ∃ L : Int, v = .int .i64 L ∧ -200000000000000000 ≤ L ∧ L ≤ left ∧ (0 ≤ L → L + e.size ≤ left))
set_option maxHeartbeats 4000000 in
theorem roomE_spec (w0 : World) : ∀ n, RmE w0 n := by
  intro n
  induction n with
  | zero => intro sh e va vo left h; have := e.size_pos; omega
  | succ n ih =>
  intro sh e va vo left hs hz ha ho hl1 hl2
  obtain ⟨z1, z2, z3, z4⟩ := PE.sz_eq hz
  unfold szB at z1 z2
  have hsz := e.size_eq
  have hsa := fun (x : PE) (h : x ∈ e.args) => PE.size_args h
  have hso := fun (x : PE) (h : x ∈ e.or) => PE.size_or h
  obtain ⟨a1, c1, hva, _⟩ := id ha.len
  obtain ⟨a2, c2, hvo, _⟩ := id ho.len
  subst hva; subst hvo
  obtain ⟨L1, hL1⟩ : ∃ L1, left - 1 - ((e.name.size : Nat) : Int) / 100 - ((e.meth.size : Nat) : Int) / 100 = L1 := ⟨_, rfl⟩
  refine fn_of_run en38 fn38 rfl rfl rfl ?_
  repeat (first | refine zck ?_ | refine zcl ?_ | refine zcm ?_ | refine zcn ?_)
  first | refine zcp (by kernel_rfl) ?_ | refine zcq PP_mixed (by kernel_rfl) (by kernel_rfl) ?_
  repeat' (refine zap rfl ?_; first | refine zan rfl ?_ | refine zaq (cs := [_, _, _, _, _, _]) rfl (fun nb => ?_))
  all_goals refine zch ?_
  all_goals repeat (first | refine zck ?_ | refine zcl ?_ | refine zcm ?_ | refine zcn ?_)
  refine run_share [0] rfl ?_
  obtain ⟨be, hbe⟩ : ∃ b, b = nb := ⟨_, rfl⟩
  subst hbe
  repeat (first | refine zck ?_ | refine zcl ?_ | refine zcm ?_ | refine zcn ?_)
  first | refine zcp (by kernel_rfl) ?_ | refine zcq PP_mixed (by kernel_rfl) (by kernel_rfl) ?_
  repeat' (refine zap rfl ?_; first | refine zan rfl ?_ | refine zan rfl ?_ | refine zaa 0 rfl rfl rfl ?_ | refine reg_lenS rfl ?_ | refine zao rfl ?_ | refine zav rfl rfl (by omega) ?_ | refine zax rfl rfl (by omega) ?_)
  all_goals refine zch ?_
  all_goals repeat (first | refine zck ?_ | refine zcl ?_ | refine zcm ?_ | refine zcn ?_)
  repeat (first | refine zck ?_ | refine zcl ?_ | refine zcm ?_ | refine zcn ?_)
  first | refine zcp (by kernel_rfl) ?_ | refine zcq PP_mixed (by kernel_rfl) (by kernel_rfl) ?_
  repeat' (refine zap rfl ?_; first | refine zan rfl ?_)
  all_goals refine zch ?_
  all_goals repeat (refine zck ?_)
  refine run_bind_eq2 (σ := { L : Int // -200000000000000000 ≤ L ∧ L ≤ L1 ∧ (0 ≤ L → L + PE.sizeL e.args ≤ L1) }) (l' := fun s => [(1, .int .i64 s.1), (2, .pointer (some ⟨be, 0, none⟩))]) (Γ' := fun _ => []) ?_ ?_
  · refine zcl ?_
    refine run_loop (S := Nat × Int) (fun s => [(1, .int .i64 s.2), (2, .pointer (some ⟨be, 0, none⟩)), (5, .int .i64 s.1)])
      (fun s Γ => Γ = [] ∧ s.1 ≤ e.args.length ∧ s.1 ≤ 401 ∧ -200000000000000000 ≤ s.2 ∧ s.2 ≤ L1 ∧ (0 ≤ s.2 → s.2 + PE.sizeL (e.args.take s.1) ≤ L1)) (fun s => e.args.length - s.1) (0, L1)
      ⟨int_eq (by dsimp only; omega), rfl, rfl, trivial⟩ ⟨rfl, Nat.zero_le _, by dsimp only; omega, by dsimp only; omega, by dsimp only; omega, fun _ => by simp [PE.sizeL]⟩ ?_
    rintro ⟨j, L⟩ Γ junk ⟨rfl, q1, q0, q2, q3, q4⟩
    dsimp only at q1 q0 q2 q3 q4 ⊢
    by_cases hj : j < e.args.length ∧ 0 ≤ L
    · obtain ⟨hj, hL⟩ := hj
      obtain ⟨x, hx⟩ : ∃ x, e.args[j]? = some x := ⟨_, List.getElem?_eq_getElem hj⟩
      obtain ⟨b, off, cc, T, fr, cs, rfl, e2, e3, e4, _⟩ := ha.at hx
      obtain ⟨va, vo, rfl, r1, r2⟩ := e4.cs
      have hxm := List.mem_iff_getElem?.2 ⟨_, hx⟩
      have hcall := ih sh x va vo L (by have := hsa x hxm; omega) (PE.szL_mem z3 x hxm) r1 r2 (by omega) (by omega)
      have hsn := PE.sizeL_snoc hx
      have hxp := x.size_pos
      have hq4 := q4 hL
      have hlt := PE.sizeL_len (e.args.take j)
      rw [List.length_take] at hlt
      repeat' (first | refine zck ?_ | refine zcp (by kernel_rfl) ?_ | refine zcm ?_ | refine zcl ?_ | refine zcn ?_ | (refine zap rfl ?_; first | refine zad rfl (fun hF Γ w h1 h2 => e2 hF Γ w (fun p hp => h1 p (by simp [hp])) h2) (e3 _ (by omega)) ?_ | refine zaj rfl ?_ | refine zan rfl ?_ | refine zan rfl ?_ | refine zaa 0 rfl rfl rfl ?_ | refine zce rfl ?_ | (refine zai [] hcall rfl rfl rfl (fun p hp => by simp [hp]) ?_; rintro v Γ ⟨rfl, L', rfl, p1, p2, p3⟩) | refine zce rfl ?_ | refine zao rfl ?_ | refine zbg rfl rfl (by omega) ?_ | refine zbm rfl rfl (by omega) ?_ | refine zau rfl rfl (by omega) ?_ | refine zbu rfl ?_ | refine zas rfl rfl (by omega) ?_) | refine zch ?_ | refine zci rfl ?_)
      exact cut_end ⟨rfl, (j + 1, L'), ⟨rfl, rfl, int_eq (by dsimp only; omega), trivial⟩, ⟨rfl, by dsimp only; omega, by dsimp only; omega, by dsimp only; omega, by dsimp only; omega, fun h => by dsimp only at h ⊢; rw [hsn]; have := p3 h; omega⟩, by dsimp only; omega⟩
    · by_cases hj1 : j < e.args.length
      · have hL : L < 0 := by omega
        repeat' (first | refine zck ?_ | refine zcp (by kernel_rfl) ?_ | (refine zap rfl ?_; first | refine zaj rfl ?_ | refine zan rfl ?_ | refine zaa 0 rfl rfl rfl ?_ | refine zce rfl ?_ | refine zao rfl ?_ | refine zbg rfl rfl (by omega) ?_ | refine zbn rfl rfl (by omega) ?_ | refine zbu rfl ?_) | refine zch ?_ | refine zcj rfl ?_)
        refine cut_exit rfl rfl ?_
        exact cut_end ⟨rfl, ⟨L, q2, q3, fun h => by omega⟩, ⟨rfl, rfl, trivial⟩, rfl⟩
      · repeat' (first | refine zck ?_ | refine zcp (by kernel_rfl) ?_ | (refine zap rfl ?_; first | refine zak rfl ?_ | refine zan rfl ?_ | refine zaa 0 rfl rfl rfl ?_ | refine zce rfl ?_ | refine zao rfl ?_ | refine zbh rfl rfl (by omega) ?_ | refine zbv rfl ?_) | refine zch ?_ | refine zcj rfl ?_)
        refine cut_exit rfl rfl ?_
        exact cut_end ⟨rfl, ⟨L, q2, q3, fun h => by have := q4 h; rwa [List.take_of_length_le (by omega)] at this⟩, ⟨rfl, rfl, trivial⟩, rfl⟩
  · rintro ⟨L2, w1, w2, w3⟩ junk
    dsimp only
    repeat (first | refine zck ?_ | refine zcl ?_ | refine zcm ?_ | refine zcn ?_)
    first | refine zcp (by kernel_rfl) ?_ | refine zcq PP_mixed (by kernel_rfl) (by kernel_rfl) ?_
    repeat' (refine zap rfl ?_; first | refine zan rfl ?_)
    all_goals refine zch ?_
    all_goals repeat (first | refine zck ?_ | refine zcl ?_ | refine zcm ?_ | refine zcn ?_)
    refine run_loop (S := Nat × Int) (fun s => [(1, .int .i64 s.2), (2, .pointer (some ⟨be, 0, none⟩)), (6, .int .i64 s.1)])
      (fun s Γ => Γ = [] ∧ s.1 ≤ e.or.length ∧ s.1 ≤ 401 ∧ -200000000000000000 ≤ s.2 ∧ s.2 ≤ L2 ∧ (0 ≤ s.2 → s.2 + PE.sizeL (e.or.take s.1) ≤ L2)) (fun s => e.or.length - s.1) (0, L2)
      ⟨rfl, rfl, rfl, trivial⟩ ⟨rfl, Nat.zero_le _, by dsimp only; omega, by dsimp only; omega, by dsimp only; omega, fun _ => by simp [PE.sizeL]⟩ ?_
    rintro ⟨j, L⟩ Γ junk ⟨rfl, q1, q0, q2, q3, q4⟩
    dsimp only at q1 q0 q2 q3 q4 ⊢
    by_cases hj : j < e.or.length ∧ 0 ≤ L
    · obtain ⟨hj, hL⟩ := hj
      obtain ⟨x, hx⟩ : ∃ x, e.or[j]? = some x := ⟨_, List.getElem?_eq_getElem hj⟩
      obtain ⟨b, off, cc, T, fr, cs, rfl, e2, e3, e4, _⟩ := ho.at hx
      obtain ⟨va, vo, rfl, r1, r2⟩ := e4.cs
      have hxm := List.mem_iff_getElem?.2 ⟨_, hx⟩
      have hcall := ih sh x va vo L (by have := hso x hxm; omega) (PE.szL_mem z4 x hxm) r1 r2 (by omega) (by omega)
      have hsn := PE.sizeL_snoc hx
      have hxp := x.size_pos
      have hq4 := q4 hL
      have hlt := PE.sizeL_len (e.or.take j)
      rw [List.length_take] at hlt
      repeat' (first | refine zck ?_ | refine zcp (by kernel_rfl) ?_ | refine zcm ?_ | refine zcl ?_ | refine zcn ?_ | (refine zap rfl ?_; first | refine zad rfl (fun hF Γ w h1 h2 => e2 hF Γ w (fun p hp => h1 p (by simp [hp])) h2) (e3 _ (by omega)) ?_ | refine zaj rfl ?_ | refine zan rfl ?_ | refine zan rfl ?_ | refine zaa 0 rfl rfl rfl ?_ | refine zce rfl ?_ | (refine zai [] hcall rfl rfl rfl (fun p hp => by simp [hp]) ?_; rintro v Γ ⟨rfl, L', rfl, p1, p2, p3⟩) | refine zce rfl ?_ | refine zao rfl ?_ | refine zbg rfl rfl (by omega) ?_ | refine zbm rfl rfl (by omega) ?_ | refine zau rfl rfl (by omega) ?_ | refine zbu rfl ?_ | refine zas rfl rfl (by omega) ?_) | refine zch ?_ | refine zci rfl ?_)
      exact cut_end ⟨rfl, (j + 1, L'), ⟨rfl, rfl, int_eq (by dsimp only; omega), trivial⟩, ⟨rfl, by dsimp only; omega, by dsimp only; omega, by dsimp only; omega, by dsimp only; omega, fun h => by dsimp only at h ⊢; rw [hsn]; have := p3 h; omega⟩, by dsimp only; omega⟩
    · by_cases hj1 : j < e.or.length
      · have hL : L < 0 := by omega
        repeat' (first | refine zck ?_ | refine zcp (by kernel_rfl) ?_ | (refine zap rfl ?_; first | refine zaj rfl ?_ | refine zan rfl ?_ | refine zaa 0 rfl rfl rfl ?_ | refine zce rfl ?_ | refine zao rfl ?_ | refine zbg rfl rfl (by omega) ?_ | refine zbn rfl rfl (by omega) ?_ | refine zbu rfl ?_) | refine zch ?_ | refine zcj rfl ?_)
        refine cut_exit rfl rfl ?_
        repeat' (first | refine zck ?_ | refine zcp (by kernel_rfl) ?_ | (refine zap rfl ?_; first | refine zan rfl ?_ | refine zan rfl ?_) | refine zch ?_)
        exact ret_tmp1 rfl ⟨rfl, L, rfl, by omega, by omega, fun h => by omega⟩
      · repeat' (first | refine zck ?_ | refine zcp (by kernel_rfl) ?_ | (refine zap rfl ?_; first | refine zak rfl ?_ | refine zan rfl ?_ | refine zaa 0 rfl rfl rfl ?_ | refine zce rfl ?_ | refine zao rfl ?_ | refine zbh rfl rfl (by omega) ?_ | refine zbv rfl ?_) | refine zch ?_ | refine zcj rfl ?_)
        refine cut_exit rfl rfl ?_
        repeat' (first | refine zck ?_ | refine zcp (by kernel_rfl) ?_ | (refine zap rfl ?_; first | refine zan rfl ?_ | refine zan rfl ?_) | refine zch ?_)
        refine ret_tmp1 rfl ⟨rfl, L, rfl, by omega, by omega, fun h => ?_⟩
        have h1 := q4 h
        rw [List.take_of_length_le (by omega)] at h1
        have h2 := w3 (by omega)
        omega
end Go.Proofs.YtijbnjaackhlcaaGreatDoor

namespace Sim
mutual
def PS.sz : PS → Prop
  | .mk _ a _ e xs ys => szB a ∧ e.sz ∧ PS.szL xs ∧ PS.szL ys
def PS.szL : List PS → Prop
  | [] => True
  | e :: l => PS.sz e ∧ PS.szL l
end
theorem PS.sz_eq {e : PS} (h : e.sz) : szB e.name ∧ e.expr.sz ∧ PS.szL e.body ∧ PS.szL e.els := by cases e; unfold PS.sz at h; exact h
theorem PS.szL_mem : ∀ {l : List PS}, PS.szL l → ∀ x ∈ l, x.sz
  | [], _, x, hx => by simp at hx
  | e :: l, h, x, hx => by
    unfold PS.szL at h
    rcases List.mem_cons.1 hx with rfl | hx
    · exact h.1
    · exact PS.szL_mem h.2 x hx
theorem PS.sizeL_snoc : ∀ {l : List PS} {j : Nat} {x : PS}, l[j]? = some x → PS.sizeL (l.take (j + 1)) = PS.sizeL (l.take j) + x.size
  | e :: l, 0, x, h => by simp at h; subst h; simp [PS.sizeL]
  | e :: l, j + 1, x, h => by
    have := PS.sizeL_snoc (l := l) (j := j) (x := x) (by simpa using h)
    rw [List.take_succ_cons, List.take_succ_cons, PS.sizeL, PS.sizeL, this]; omega
theorem PS.size_eq (e : PS) : e.size = 1 + e.expr.size + PS.sizeL e.body + PS.sizeL e.els := by cases e; unfold PS.size; rfl
end Sim
namespace Go.Proofs.YtijbnjaackhlcaaGreatDoor
open Go.Vc Sim
set_option maxHeartbeats 4000000 in
theorem room_spec (w0 : World) : ∀ (n : Nat) (sh : Shared) (v : Value) (l : List PS) (left : Int), PS.sizeL l ≤ n → PS.szL l → RdSt w0 sh v l → -200000000000000000 ≤ left → left ≤ 400 →
    Vc.Fn PP w0 sh 21 [v, .int .i64 left] [] (fun v Γ => Γ = [] ∧ ∃ L : Int, v = .int .i64 L ∧ -200000000000000000 ≤ L ∧ L ≤ left ∧ (0 ≤ L → L + PS.sizeL l ≤ left)) := by
  intro n
  induction n using Nat.strongRecOn with
  | _ n ih =>
  intro sh v l left hn hz hr hl1 hl2
  obtain ⟨a, c, hv, _⟩ := hr.len
  subst hv
  refine fn_of_run en21 fn21 rfl rfl rfl ?_
  repeat' (first | refine zck ?_ | refine zcp (by kernel_rfl) ?_ | refine zcl ?_ | (refine zap rfl ?_; first | refine zan rfl ?_) | refine zch ?_)
  refine run_loop (S := Nat × Int) (fun s => [(0, .slice a l.length c), (1, .int .i64 s.2), (5, .int .i64 s.1)])
    (fun s Γ => Γ = [] ∧ s.1 ≤ l.length ∧ s.1 ≤ 401 ∧ -200000000000000000 ≤ s.2 ∧ s.2 ≤ left ∧ (0 ≤ s.2 → s.2 + PS.sizeL (l.take s.1) ≤ left)) (fun s => l.length - s.1) (0, left)
    ⟨rfl, rfl, rfl, trivial⟩ ⟨rfl, Nat.zero_le _, by dsimp only; omega, by dsimp only; omega, by dsimp only; omega, fun _ => by simp [PS.sizeL]⟩ ?_
  rintro ⟨j, L⟩ Γ junk ⟨rfl, q1, q0, q2, q3, q4⟩
  dsimp only at q1 q0 q2 q3 q4 ⊢
  by_cases hj : j < l.length ∧ 0 ≤ L
  · obtain ⟨hj, hL⟩ := hj
    obtain ⟨x, hx⟩ : ∃ x, l[j]? = some x := ⟨_, List.getElem?_eq_getElem hj⟩
    obtain ⟨b, off, cc, T, fr, cs, rfl, e2, e3, e4, e5⟩ := hr.at hx
    obtain ⟨va, vo, vb, ve, rfl, hsp⟩ := e4.sp
    have hxm := List.mem_iff_getElem?.2 ⟨_, hx⟩
    obtain ⟨z1, z2, z3, z4⟩ := PS.sz_eq (PS.szL_mem hz x hxm)
    unfold szB at z1
    have hxs := PS.sizeL_mem hxm
    have hse := x.size_eq
    have hep := x.expr.size_pos
    have k1 := fun L1 h1 h2 => roomE_spec w0 x.expr.size sh x.expr va vo L1 (Nat.le_refl _) z2 hsp.a hsp.o h1 h2
    have k2 := fun L1 h1 h2 => ih (PS.sizeL x.body) (by omega) sh vb x.body L1 (Nat.le_refl _) z3 hsp.b h1 h2
    have k3 := fun L1 h1 h2 => ih (PS.sizeL x.els) (by omega) sh ve x.els L1 (Nat.le_refl _) z4 hsp.e h1 h2
    obtain ⟨a1, c1, hva, _⟩ := hsp.a.len
    obtain ⟨a2, c2, hvo, _⟩ := hsp.o.len
    obtain ⟨a3, c3, hvb, _⟩ := hsp.b.len
    obtain ⟨a4, c4, hve, _⟩ := hsp.e.len
    subst hva; subst hvo; subst hvb; subst hve
    have hsn := PS.sizeL_snoc hx
    have hq4 := q4 hL
    have hlt := PS.sizeL_len (l.take j)
    rw [List.length_take] at hlt
    have rE : ∀ o, o = off + j * 11 + 3 → rd true 6 cc.toList o = some (.agg (List.toArray (peC x.expr.kind x.expr.num x.expr.name x.expr.meth (.slice a1 x.expr.args.length c1) (.slice a2 x.expr.or.length c2)))) := fun o ho =>
      rd_cells (c := cc) (o := off + j * 11 + 3) (q := 6) rfl (fun k u hk => by
        have h6 : k < 6 := (List.getElem?_eq_some_iff.1 hk).1
        have h7 := e5 (3 + k) u (by
          rcases (by omega : k = 0 ∨ k = 1 ∨ k = 2 ∨ k = 3 ∨ k = 4 ∨ k = 5) with rfl | rfl | rfl | rfl | rfl | rfl <;> exact hk) (off + j * 11 + (3 + k)) rfl
        have h8 : nth cc.toList (off + j * 11 + (3 + k)) = some u := h7
        rw [nth_eq] at h8
        simpa [Nat.add_assoc] using h8) o ho
    repeat (first | refine zck ?_ | refine zcl ?_ | refine zcm ?_ | refine zcn ?_)
    first | refine zcp (by kernel_rfl) ?_ | refine zcq PP_mixed (by kernel_rfl) (by kernel_rfl) ?_
    repeat' (refine zap rfl ?_; first | refine zaj rfl ?_ | refine zan rfl ?_ | refine zce rfl ?_ | refine zbg rfl rfl (by omega) ?_ | refine zbm rfl rfl (by omega) ?_ | refine zbu rfl ?_)
    all_goals refine zch ?_
    all_goals repeat (first | refine zck ?_ | refine zcl ?_ | refine zcm ?_ | refine zcn ?_)
    refine zci rfl ?_
    repeat (first | refine zck ?_ | refine zcl ?_ | refine zcm ?_ | refine zcn ?_)
    first | refine zcp (by kernel_rfl) ?_ | refine zcq PP_mixed (by kernel_rfl) (by kernel_rfl) ?_
    repeat' (refine zap rfl ?_; first | refine zad rfl e2 (rE _ (by omega)) ?_ | refine zad rfl e2 (e5 1 _ rfl _ (by omega)) ?_ | refine zan rfl ?_ | refine zan rfl ?_ | refine reg_lenS rfl ?_ | (refine zai [] (k1 _ (by omega) (by omega)) rfl rfl rfl (fun _ h => h) ?_; rintro v Γ ⟨rfl, L2, rfl, p1, p2, p3⟩) | refine zao rfl ?_ | refine zav rfl rfl (by omega) ?_ | refine zax rfl rfl (by omega) ?_ | refine zas rfl rfl (by omega) ?_)
    all_goals refine zch ?_
    all_goals repeat (first | refine zck ?_ | refine zcl ?_ | refine zcm ?_ | refine zcn ?_)
    repeat' (first | refine zcp (by kernel_rfl) ?_ | refine zcq PP_mixed (by kernel_rfl) (by kernel_rfl) ?_ | refine zcn ?_ | (refine zap rfl ?_; first | refine zad rfl e2 (e5 9 _ rfl _ (by omega)) ?_ | refine zad rfl e2 (e5 10 _ rfl _ (by omega)) ?_ | refine zan rfl ?_ | refine zan rfl ?_ | (refine zai [] (k2 _ (by omega) (by omega)) rfl rfl rfl (fun _ h => h) ?_; rintro v Γ ⟨rfl, L3, rfl, p4, p5, p6⟩) | (refine zai [] (k3 _ (by omega) (by omega)) rfl rfl rfl (fun _ h => h) ?_; rintro v Γ ⟨rfl, L4, rfl, p7, p8, p9⟩) | refine zao rfl ?_ | refine zau rfl rfl (by omega) ?_ | refine zas rfl rfl (by omega) ?_) | refine zch ?_)
    exact cut_end ⟨rfl, (j + 1, L4), ⟨rfl, rfl, int_eq (by dsimp only; omega), trivial⟩, ⟨rfl, by dsimp only; omega, by dsimp only; omega, by dsimp only; omega, by dsimp only; omega, fun h => by dsimp only at h ⊢; rw [hsn]; have h1 := p9 h; have h2 := p6 (by omega); have h3 := p3 (by omega); omega⟩, by dsimp only; omega⟩
  · by_cases hj1 : j < l.length
    · have hL : L < 0 := by omega
      repeat' (first | refine zck ?_ | refine zcp (by kernel_rfl) ?_ | (refine zap rfl ?_; first | refine zaj rfl ?_ | refine zan rfl ?_ | refine zce rfl ?_ | refine zbg rfl rfl (by omega) ?_ | refine zbn rfl rfl (by omega) ?_ | refine zbu rfl ?_) | refine zch ?_ | refine zcj rfl ?_)
      refine cut_exit rfl rfl ?_
      repeat' (first | refine zck ?_ | refine zcp (by kernel_rfl) ?_ | (refine zap rfl ?_; first | refine zan rfl ?_ | refine zan rfl ?_) | refine zch ?_)
      exact ret_tmp1 rfl ⟨rfl, L, rfl, q2, q3, fun h => by omega⟩
    · repeat' (first | refine zck ?_ | refine zcp (by kernel_rfl) ?_ | (refine zap rfl ?_; first | refine zak rfl ?_ | refine zan rfl ?_ | refine zce rfl ?_ | refine zbh rfl rfl (by omega) ?_ | refine zbv rfl ?_) | refine zch ?_ | refine zcj rfl ?_)
      refine cut_exit rfl rfl ?_
      repeat' (first | refine zck ?_ | refine zcp (by kernel_rfl) ?_ | (refine zap rfl ?_; first | refine zan rfl ?_ | refine zan rfl ?_) | refine zch ?_)
      exact ret_tmp1 rfl ⟨rfl, L, rfl, q2, q3, fun h => by have := q4 h; rwa [List.take_of_length_le (by omega)] at this⟩
end Go.Proofs.YtijbnjaackhlcaaGreatDoor

namespace Sim
def PO.cost (o : PO) : Nat := 1 + PS.sizeL o.body + o.params.length
def PO.costL : List PO → Nat
  | [] => 0
  | o :: l => o.cost + PO.costL l
theorem PO.costL_mem : ∀ {l : List PO} {o : PO}, o ∈ l → o.cost ≤ PO.costL l
  | x :: l, o, h => by
    unfold PO.costL
    rcases List.mem_cons.1 h with rfl | h
    · omega
    · have := PO.costL_mem h; omega
theorem PO.costL_len : ∀ l : List PO, l.length ≤ PO.costL l
  | [] => Nat.zero_le _
  | x :: l => by have := PO.costL_len l; unfold PO.costL PO.cost; simp only [List.length_cons]; omega
theorem PO.costL_snoc : ∀ {l : List PO} {j : Nat} {x : PO}, l[j]? = some x → PO.costL (l.take (j + 1)) = PO.costL (l.take j) + x.cost
  | e :: l, 0, x, h => by simp at h; subst h; simp [PO.costL]
  | e :: l, j + 1, x, h => by
    have := PO.costL_snoc (l := l) (j := j) (x := x) (by simpa using h)
    rw [List.take_succ_cons, List.take_succ_cons, PO.costL, PO.costL, this]; omega
def PP'.sz (p : PP') : Prop := (∀ d ∈ p.stores, szB d.1 ∧ szB d.2) ∧ p.stores.length ≤ 1125899906842624 ∧ p.opers.length ≤ 1125899906842624 ∧ ∀ o ∈ p.opers, szB o.name ∧ (∀ s ∈ o.params, szB s) ∧ o.params.length ≤ 1125899906842624 ∧ PS.szL o.body
end Sim
namespace Go.Proofs.YtijbnjaackhlcaaGreatDoor
open Go.Vc Sim
set_option maxHeartbeats 8000000 in
theorem greatP_spec (w0 : World) (sh : Shared) (v : Value) (p : PP') (hp : RdP w0 sh v p) (hz : p.sz) :
    Vc.Fn PP w0 sh 9 [v] [] (fun v Γ => Γ = [] ∧ ∃ B, v = .bool B ∧ (B = false → PO.costL p.opers + p.stores.length ≤ 400)) := by
  obtain ⟨vs, vo, hv, h1, h2⟩ := hp
  subst hv
  obtain ⟨a1, c1, hvs, hc1, _⟩ := id h1
  obtain ⟨a2, c2, hvo, hc2⟩ := h2.len
  subst hvs; subst hvo
  obtain ⟨z1, z2, z3, z4⟩ := hz
  refine fn_of_run en9 fn9 rfl rfl rfl ?_
  repeat (first | refine zck ?_ | refine zcl ?_ | refine zcm ?_ | refine zcn ?_)
  first | refine zcp (by kernel_rfl) ?_ | refine zcq PP_mixed (by kernel_rfl) (by kernel_rfl) ?_
  repeat' (refine zap rfl ?_; first | refine zan rfl ?_ | refine zaq (cs := [_, _]) rfl (fun nb => ?_))
  all_goals refine zch ?_
  all_goals repeat (first | refine zck ?_ | refine zcl ?_ | refine zcm ?_ | refine zcn ?_)
  refine run_share [0] rfl ?_
  obtain ⟨be, hbe⟩ : ∃ b, b = nb := ⟨_, rfl⟩
  subst hbe
  repeat (first | refine zck ?_ | refine zcl ?_ | refine zcm ?_ | refine zcn ?_)
  first | refine zcp (by kernel_rfl) ?_ | refine zcq PP_mixed (by kernel_rfl) (by kernel_rfl) ?_
  repeat' (refine zap rfl ?_; first | refine zan rfl ?_)
  all_goals refine zch ?_
  all_goals repeat (first | refine zck ?_ | refine zcl ?_ | refine zcm ?_ | refine zcn ?_)
  repeat (first | refine zck ?_ | refine zcl ?_ | refine zcm ?_ | refine zcn ?_)
  first | refine zcp (by kernel_rfl) ?_ | refine zcq PP_mixed (by kernel_rfl) (by kernel_rfl) ?_
  repeat' (refine zap rfl ?_; first | refine zan rfl ?_)
  all_goals refine zch ?_
  all_goals repeat (refine zck ?_)
  refine run_bind_eq2 (σ := { L : Int // -2000000000000000000 ≤ L ∧ L ≤ 400 ∧ (0 ≤ L → L + PO.costL p.opers ≤ 400) }) (l' := fun s => [(1, .pointer (some ⟨be, 0, none⟩)), (3, .int .i64 s.1)]) (Γ' := fun _ => []) ?_ ?_
  · refine zcl ?_
    refine run_loop (S := Nat × Int) (fun s => [(1, .pointer (some ⟨be, 0, none⟩)), (3, .int .i64 s.2), (4, .int .i64 s.1)])
      (fun s Γ => Γ = [] ∧ s.1 ≤ p.opers.length ∧ -2000000000000000000 ≤ s.2 ∧ s.2 ≤ 400 ∧ (0 ≤ s.2 → s.2 + PO.costL (p.opers.take s.1) ≤ 400)) (fun s => p.opers.length - s.1) (0, 400)
      ⟨rfl, rfl, rfl, trivial⟩ ⟨rfl, Nat.zero_le _, by dsimp only; omega, by dsimp only; omega, fun _ => by simp [PO.costL]⟩ ?_
    rintro ⟨j, L⟩ Γ junk ⟨rfl, q1, q2, q3, q4⟩
    dsimp only at q1 q2 q3 q4 ⊢
    by_cases hj : j < p.opers.length ∧ 0 ≤ L
    · obtain ⟨hj, hL⟩ := hj
      obtain ⟨x, hx⟩ : ∃ x, p.opers[j]? = some x := ⟨_, List.getElem?_eq_getElem hj⟩
      obtain ⟨b, off, cc, T, fr, cs, rfl, e2, e3, ⟨vp, vb, rfl, r1, r2⟩, e5⟩ := h2.at hx
      have hxm := List.mem_iff_getElem?.2 ⟨_, hx⟩
      obtain ⟨y1, y2, y3, y4⟩ := z4 x hxm
      unfold szB at y1
      have k1 := fun L1 h1 h2 => room_spec w0 (PS.sizeL x.body) sh vb x.body L1 (Nat.le_refl _) y4 r2 h1 h2
      obtain ⟨a3, c3, hvp, _⟩ := id r1
      obtain ⟨a4, c4, hvb, _⟩ := r2.len
      subst hvp; subst hvb
      have hsn := PO.costL_snoc hx
      have hq4 := q4 hL
      have em : ∀ hF Γ w, Sh ((be, Obj.cells (List.toArray [Value.slice a1 p.stores.length c1, Value.slice (some ⟨b, off, none⟩) p.opers.length c2]) 25 (0, 0)) :: sh) hF → St w0 hF Γ w → w.heap[b]? = some (.cells cc T fr) := fun hF Γ w h1 h2 => e2 hF Γ w (fun p hp => h1 p (by simp [hp])) h2
      repeat (first | refine zck ?_ | refine zcl ?_ | refine zcm ?_ | refine zcn ?_)
      first | refine zcp (by kernel_rfl) ?_ | refine zcq PP_mixed (by kernel_rfl) (by kernel_rfl) ?_
      repeat' (refine zap rfl ?_; first | refine zaj rfl ?_ | refine zan rfl ?_ | refine zaa 0 rfl rfl rfl ?_ | refine zce rfl ?_ | refine zao rfl ?_ | refine zbg rfl rfl (by omega) ?_ | refine zbm rfl rfl (by omega) ?_ | refine zbu rfl ?_)
      all_goals refine zch ?_
      all_goals repeat (first | refine zck ?_ | refine zcl ?_ | refine zcm ?_ | refine zcn ?_)
      refine zci rfl ?_
      repeat (first | refine zck ?_ | refine zcl ?_ | refine zcm ?_ | refine zcn ?_)
      first | refine zcp (by kernel_rfl) ?_ | refine zcq PP_mixed (by kernel_rfl) (by kernel_rfl) ?_
      repeat' (refine zap rfl ?_; first | refine zad rfl em (e5 2 _ rfl _ (by omega)) ?_ | refine zad rfl em (e5 1 _ rfl _ (by omega)) ?_ | refine zad rfl em (e5 0 _ rfl _ (by omega)) ?_ | refine zan rfl ?_ | refine zan rfl ?_ | refine zaa 0 rfl rfl rfl ?_ | refine reg_lenS rfl ?_ | refine zce rfl ?_ | (refine zai [] (k1 _ (by omega) (by omega)) rfl rfl rfl (fun p hp => by simp [hp]) ?_; rintro v Γ ⟨rfl, L2, rfl, p1, p2, p3⟩) | refine zce rfl ?_ | refine zao rfl ?_ | refine zav rfl rfl (by omega) ?_ | refine zax rfl rfl (by omega) ?_ | refine zas rfl rfl (by omega) ?_)
      all_goals refine zch ?_
      all_goals repeat (first | refine zck ?_ | refine zcl ?_ | refine zcm ?_ | refine zcn ?_)
      have hcost : 0 ≤ L2 → L2 + PO.costL (p.opers.take (j + 1)) ≤ 400 := fun h => by rw [hsn]; have := p3 h; unfold PO.cost; omega
      repeat (first | refine zck ?_ | refine zcl ?_ | refine zcm ?_ | refine zcn ?_)
      first | refine zcp (by kernel_rfl) ?_ | refine zcq PP_mixed (by kernel_rfl) (by kernel_rfl) ?_
      repeat' (refine zap rfl ?_; first | refine zan rfl ?_)
      all_goals refine zch ?_
      all_goals repeat (refine zck ?_)
      refine run_bind_eq2 (σ := { L : Int // -2000000000000000000 ≤ L ∧ L ≤ L2 }) (l' := fun s => [(1, .pointer (some ⟨be, 0, none⟩)), (3, .int .i64 s.1), (4, .int .i64 j)]) (Γ' := fun _ => []) ?_ ?_
      · refine zcl ?_
        refine run_loop (S := Nat × Int) (fun s => [(1, .pointer (some ⟨be, 0, none⟩)), (3, .int .i64 s.2), (4, .int .i64 j), (5, .int .i64 s.1)])
          (fun s Γ => Γ = [] ∧ s.1 ≤ x.params.length ∧ s.1 ≤ 20 ∧ -200000000000000000 - 50000000000000000 * (s.1 : Int) ≤ s.2 ∧ s.2 ≤ L2) (fun s => x.params.length - s.1) (0, L2)
          ⟨rfl, rfl, rfl, rfl, trivial⟩ ⟨rfl, Nat.zero_le _, by dsimp only; omega, by dsimp only; omega, by dsimp only; omega⟩ ?_
        rintro ⟨i, L3⟩ Γ junk ⟨rfl, w1, w2, w3, w4⟩
        dsimp only at w1 w2 w3 w4 ⊢
        by_cases hi : i < x.params.length ∧ i < 20
        · obtain ⟨hi, hi2⟩ := hi
          obtain ⟨s, hs⟩ : ∃ s, x.params[i]? = some s := ⟨_, List.getElem?_eq_getElem hi⟩
          obtain ⟨b3, off3, cc3, T3, fr3, rfl, g2, _, g3⟩ := r1.cells hs
          have hsz := y2 s (List.mem_iff_getElem?.2 ⟨_, hs⟩)
          unfold szB at hsz
          have em3 : ∀ hF Γ w, Sh ((be, Obj.cells (List.toArray [Value.slice a1 p.stores.length c1, Value.slice (some ⟨b, off, none⟩) p.opers.length c2]) 25 (0, 0)) :: sh) hF → St w0 hF Γ w → w.heap[b3]? = some (.cells cc3 T3 fr3) := fun hF Γ w h1 h2 => g2 hF Γ w (fun p hp => h1 p (by simp [hp])) h2
          repeat' (first | refine zck ?_ | refine zcp (by kernel_rfl) ?_ | refine zcm ?_ | refine zcl ?_ | refine zcn ?_ | (refine zap rfl ?_; first | refine zad rfl em (e5 1 _ rfl _ (by omega)) ?_ | refine zad rfl em3 (g3 0 _ rfl _ (by omega)) ?_ | refine zaj rfl ?_ | refine zan rfl ?_ | refine zan rfl ?_ | refine zaa 0 rfl rfl rfl ?_ | refine reg_lenS rfl ?_ | refine zce rfl ?_ | refine zao rfl ?_ | refine zbg rfl rfl (by omega) ?_ | refine zau rfl rfl (by omega) ?_ | refine zav rfl rfl (by omega) ?_ | refine zax rfl rfl (by omega) ?_ | refine zbu rfl ?_ | refine zas rfl rfl (by omega) ?_) | refine zch ?_ | refine zci rfl ?_)
          exact cut_end ⟨rfl, (i + 1, L3 - ((s.size : Nat) : Int) / 100), ⟨rfl, rfl, rfl, int_eq (by dsimp only; omega), trivial⟩, ⟨rfl, by dsimp only; omega, by dsimp only; omega, by dsimp only; omega, by dsimp only; omega⟩, by dsimp only; omega⟩
        · by_cases hi1 : i < x.params.length
          · repeat' (first | refine zck ?_ | refine zcp (by kernel_rfl) ?_ | (refine zap rfl ?_; first | refine zad rfl em (e5 1 _ rfl _ (by omega)) ?_ | refine zaj rfl ?_ | refine zan rfl ?_ | refine zaa 0 rfl rfl rfl ?_ | refine zce rfl ?_ | refine zao rfl ?_ | refine zbg rfl rfl (by omega) ?_ | refine zbh rfl rfl (by omega) ?_ | refine zbu rfl ?_ | refine zas rfl rfl (by omega) ?_) | refine zch ?_ | refine zcj rfl ?_)
            refine cut_exit rfl rfl ?_
            exact cut_end ⟨rfl, ⟨L3, by omega, w4⟩, ⟨rfl, rfl, rfl, trivial⟩, rfl⟩
          · repeat' (first | refine zck ?_ | refine zcp (by kernel_rfl) ?_ | (refine zap rfl ?_; first | refine zad rfl em (e5 1 _ rfl _ (by omega)) ?_ | refine zak rfl ?_ | refine zan rfl ?_ | refine zaa 0 rfl rfl rfl ?_ | refine zce rfl ?_ | refine zao rfl ?_ | refine zbh rfl rfl (by omega) ?_ | refine zbv rfl ?_ | refine zas rfl rfl (by omega) ?_) | refine zch ?_ | refine zcj rfl ?_)
            refine cut_exit rfl rfl ?_
            exact cut_end ⟨rfl, ⟨L3, by omega, w4⟩, ⟨rfl, rfl, rfl, trivial⟩, rfl⟩
      · rintro ⟨L3, w1, w2⟩ junk
        dsimp only
        repeat' (first | refine zcp (by kernel_rfl) ?_ | refine zcn ?_ | (refine zap rfl ?_; first | refine zan rfl ?_ | refine zan rfl ?_ | refine zau rfl rfl (by omega) ?_) | refine zch ?_)
        exact cut_end ⟨rfl, (j + 1, L3), ⟨rfl, rfl, int_eq (by dsimp only; omega), trivial⟩, ⟨rfl, by dsimp only; omega, by dsimp only; omega, by dsimp only; omega, fun h => by dsimp only at h ⊢; have := hcost (by omega); omega⟩, by dsimp only; omega⟩
    · by_cases hj1 : j < p.opers.length
      · have hL : L < 0 := by omega
        repeat' (first | refine zck ?_ | refine zcp (by kernel_rfl) ?_ | (refine zap rfl ?_; first | refine zaj rfl ?_ | refine zan rfl ?_ | refine zaa 0 rfl rfl rfl ?_ | refine zce rfl ?_ | refine zao rfl ?_ | refine zbg rfl rfl (by omega) ?_ | refine zbn rfl rfl (by omega) ?_ | refine zbu rfl ?_) | refine zch ?_ | refine zcj rfl ?_)
        refine cut_exit rfl rfl ?_
        exact cut_end ⟨rfl, ⟨L, q2, q3, fun h => by omega⟩, ⟨rfl, rfl, trivial⟩, rfl⟩
      · repeat' (first | refine zck ?_ | refine zcp (by kernel_rfl) ?_ | (refine zap rfl ?_; first | refine zak rfl ?_ | refine zan rfl ?_ | refine zaa 0 rfl rfl rfl ?_ | refine zce rfl ?_ | refine zao rfl ?_ | refine zbh rfl rfl (by omega) ?_ | refine zbv rfl ?_) | refine zch ?_ | refine zcj rfl ?_)
        refine cut_exit rfl rfl ?_
        exact cut_end ⟨rfl, ⟨L, q2, q3, fun h => by have := q4 h; rwa [List.take_of_length_le (by omega)] at this⟩, ⟨rfl, rfl, trivial⟩, rfl⟩
  · rintro ⟨L1, w1, w2, w3⟩ junk
    dsimp only
    repeat (first | refine zck ?_ | refine zcl ?_ | refine zcm ?_ | refine zcn ?_)
    first | refine zcp (by kernel_rfl) ?_ | refine zcq PP_mixed (by kernel_rfl) (by kernel_rfl) ?_
    repeat' (refine zap rfl ?_; first | refine zan rfl ?_)
    all_goals refine zch ?_
    all_goals repeat (first | refine zck ?_ | refine zcl ?_ | refine zcm ?_ | refine zcn ?_)
    refine run_loop (S := Nat × Int) (fun s => [(1, .pointer (some ⟨be, 0, none⟩)), (3, .int .i64 s.2), (6, .int .i64 s.1)])
      (fun s Γ => Γ = [] ∧ s.1 ≤ p.stores.length ∧ -2000000000000000000 ≤ s.2 ∧ s.2 ≤ L1 ∧ (0 ≤ s.2 → s.2 + (s.1 : Int) ≤ L1)) (fun s => p.stores.length - s.1) (0, L1)
      ⟨rfl, rfl, rfl, trivial⟩ ⟨rfl, Nat.zero_le _, by dsimp only; omega, by dsimp only; omega, fun _ => by simp⟩ ?_
    rintro ⟨j, L⟩ Γ junk ⟨rfl, q1, q2, q3, q4⟩
    dsimp only at q1 q2 q3 q4 ⊢
    by_cases hj : j < p.stores.length ∧ 0 ≤ L
    · obtain ⟨hj, hL⟩ := hj
      obtain ⟨x, hx⟩ : ∃ x, p.stores[j]? = some x := ⟨_, List.getElem?_eq_getElem hj⟩
      obtain ⟨b, off, cc, T, fr, rfl, e2, _, e5⟩ := h1.cells hx
      obtain ⟨y1, y2⟩ := z1 x (List.mem_iff_getElem?.2 ⟨_, hx⟩)
      unfold szB at y1 y2
      have hq4 := q4 hL
      have em : ∀ hF Γ w, Sh ((be, Obj.cells (List.toArray [Value.slice (some ⟨b, off, none⟩) p.stores.length c1, Value.slice a2 p.opers.length c2]) 25 (0, 0)) :: sh) hF → St w0 hF Γ w → w.heap[b]? = some (.cells cc T fr) := fun hF Γ w h1 h2 => e2 hF Γ w (fun p hp => h1 p (by simp [hp])) h2
      repeat' (first | refine zck ?_ | refine zcp (by kernel_rfl) ?_ | refine zcq PP_mixed (by kernel_rfl) (by kernel_rfl) ?_ | refine zcm ?_ | refine zcl ?_ | refine zcn ?_ | (refine zap rfl ?_; first | refine zad rfl em (e5 0 _ rfl _ (by omega)) ?_ | refine zad rfl em (e5 1 _ rfl _ (by omega)) ?_ | refine zaj rfl ?_ | refine zan rfl ?_ | refine zan rfl ?_ | refine zaa 0 rfl rfl rfl ?_ | refine reg_lenS rfl ?_ | refine zce rfl ?_ | refine zao rfl ?_ | refine zbg rfl rfl (by omega) ?_ | refine zbm rfl rfl (by omega) ?_ | refine zau rfl rfl (by omega) ?_ | refine zav rfl rfl (by omega) ?_ | refine zax rfl rfl (by omega) ?_ | refine zbu rfl ?_ | refine zas rfl rfl (by omega) ?_) | refine zch ?_ | refine zci rfl ?_)
      exact cut_end ⟨rfl, (j + 1, L - 1 - ((x.1.size : Nat) : Int) / 100 - ((x.2.size : Nat) : Int) / 100), ⟨rfl, rfl, int_eq (by dsimp only; omega), trivial⟩, ⟨rfl, by dsimp only; omega, by dsimp only; omega, by dsimp only; omega, fun h => by dsimp only at h ⊢; omega⟩, by dsimp only; omega⟩
    · by_cases hj1 : j < p.stores.length
      · have hL : L < 0 := by omega
        repeat' (first | refine zck ?_ | refine zcp (by kernel_rfl) ?_ | (refine zap rfl ?_; first | refine zaj rfl ?_ | refine zan rfl ?_ | refine zaa 0 rfl rfl rfl ?_ | refine zce rfl ?_ | refine zao rfl ?_ | refine zbg rfl rfl (by omega) ?_ | refine zbn rfl rfl (by omega) ?_ | refine zbu rfl ?_) | refine zch ?_ | refine zcj rfl ?_)
        refine cut_exit rfl rfl ?_
        repeat' (first | refine zck ?_ | refine zcp (by kernel_rfl) ?_ | (refine zap rfl ?_; first | refine zan rfl ?_ | refine zan rfl ?_ | refine zbg rfl rfl (by omega) ?_) | refine zch ?_)
        exact ret_tmp1 rfl ⟨rfl, true, rfl, fun h => by cases h⟩
      · repeat' (first | refine zck ?_ | refine zcp (by kernel_rfl) ?_ | (refine zap rfl ?_; first | refine zak rfl ?_ | refine zan rfl ?_ | refine zaa 0 rfl rfl rfl ?_ | refine zce rfl ?_ | refine zao rfl ?_ | refine zbh rfl rfl (by omega) ?_ | refine zbv rfl ?_) | refine zch ?_ | refine zcj rfl ?_)
        refine cut_exit rfl rfl ?_
        repeat' (first | refine zck ?_ | refine zcp (by kernel_rfl) ?_ | (refine zap rfl ?_; first | refine zan rfl ?_ | refine zan rfl ?_ | refine zbq rfl rfl ?_) | refine zch ?_)
        refine ret_tmp1 rfl ⟨rfl, _, rfl, fun h => ?_⟩
        have h3 := of_decide_eq_false h
        have h4 := q4 (by omega)
        have h5 := w3 (by omega)
        have h6 : j = p.stores.length := by omega
        omega
end Go.Proofs.YtijbnjaackhlcaaGreatDoor

