import Derived.Test.YtagmagnkigjggaaGreatDoorPart4
/- Lemmas and walks for the claims of this seat (own work): Sx7 Ct1 Ct2 Fi0 Fi1 Fi2 Fi3 Fi4 Fi5. -/
namespace Sim
open Go Go.Vc
def findP (p : PP') (s : ByteArray) : Option PO := p.opers.find? fun o => decide (o.name = s)
theorem idxP_find {α : Type} (p : α → Bool) : ∀ (l : List α) (k : Int), 0 ≤ k → match l.find? p with
    | some x => ∃ i : Nat, idxP p l k = k + i ∧ l[i]? = some x
    | none => idxP p l k = -1
  | [], k, _ => rfl
  | x :: l, k, h => by
    have ih := idxP_find p l (k + 1) (by omega)
    by_cases e : p x = true
    · rw [List.find?_cons_of_pos e]
      exact ⟨0, by rw [idxP, if_pos e]; simp, rfl⟩
    · rw [List.find?_cons_of_neg e]
      have e1 : idxP p (x :: l) k = idxP p l (k + 1) := by rw [idxP, if_neg e]
      cases hf : l.find? p with
      | none => rw [hf] at ih; exact e1.trans ih
      | some y =>
        rw [hf] at ih
        obtain ⟨i, h1, h2⟩ := ih
        exact ⟨i + 1, by rw [e1, h1]; omega, h2⟩
end Sim
namespace Go.Vc
open Sim
def RdOv (w0 : World) (sh : Shared) (v : Value) (o : PO) : Prop := ∃ cs, v = .agg (List.toArray cs) ∧ RdO w0 sh o cs
theorem sub_h2 {a b : Nat × Obj} {sh : Shared} : ∀ p ∈ a :: sh, p ∈ a :: b :: sh := fun p hp => by
  rcases List.mem_cons.1 hp with h | h
  · rw [h]; exact List.mem_cons_self ..
  · exact List.mem_cons_of_mem _ (List.mem_cons_of_mem _ h)
end Go.Vc
namespace Go.Proofs.YtagmagnkigjggaaGreatDoor
open Go.Vc Sim
theorem find1_spec (w0 : World) (sh : Shared) (xc : Nat) (name : ByteArray) (o : PO) (a1 a2 : Option Addr) (n1 c1 n2 c2 : Nat) :
    FnE PP w0 ((xc, .cells (List.toArray [.string name]) 9 (0, 0)) :: sh) 17 [.agg (List.toArray [.string o.name, .slice a1 n1 c1, .slice a2 n2 c2]), .pointer (some ⟨xc, 0, none⟩)] [] (.bool (decide (o.name = name))) [] := by
  refine fn_of_run en17 fn17 rfl rfl rfl ?_
  repeat' (first | refine zck ?_ | refine zcp (by kernel_rfl) ?_ | (refine zap rfl ?_; first | refine reg_eqS rfl rfl ?_ | refine zan rfl ?_ | refine zaa 0 rfl rfl rfl ?_ | refine zab 0 rfl rfl rfl ?_ | refine zao rfl ?_ | refine zaq (cs := [_, _, _]) rfl (fun nb => ?_)) | refine zch ?_)
  refine run_take [] rfl ?_
  exact ret_tmp1 rfl ⟨rfl, rfl⟩
theorem idxO_spec (w0 : World) (sh : Shared) (v : Value) (l : List PO) (xc : Nat) (name : ByteArray) (hl : RdOl w0 sh v l) (hb : l.length ≤ 1099511627776) :
    FnE PP w0 ((xc, .cells (List.toArray [.string name]) 9 (0, 0)) :: sh) 16 [v, .func (.func 17) #[] #[.pointer (some ⟨xc, 0, none⟩)]] [] (.int .i64 (idxP (fun o => decide (o.name = name)) l 0)) [] := by
  obtain ⟨a, cap, hv, _⟩ := hl.len
  subst hv
  refine fn_of_run en16 fn16 rfl rfl rfl ?_
  repeat' (first | refine zck ?_ | refine zcp (by kernel_rfl) ?_ | refine zcl ?_ | (refine zap rfl ?_; first | refine zan rfl ?_ | refine zan rfl ?_ | refine zce rfl ?_) | refine zch ?_)
  refine run_loop (S := Nat) (fun j => [(0, .slice a l.length cap), (1, .func (.func 17) #[] #[.pointer (some ⟨xc, 0, none⟩)]), (7, .int .i64 l.length), (8, .int .i64 j)])
    (fun j Γ => Γ = [] ∧ j ≤ l.length ∧ idxP (fun o => decide (o.name = name)) (l.drop j) j = idxP (fun o => decide (o.name = name)) l 0) (fun j => l.length - j) 0 ⟨rfl, rfl, rfl, rfl, trivial⟩ ⟨rfl, by omega, rfl⟩ ?_
  rintro j Γ junk ⟨rfl, g1, g2⟩
  by_cases hj : j < l.length
  · obtain ⟨x, hx⟩ : ∃ x, l[j]? = some x := ⟨_, List.getElem?_eq_getElem hj⟩
    obtain ⟨b, off, c, T, fr, cs, rfl, e2, e3, ⟨vp, vb, rfl, r1, r2⟩, _⟩ := hl.at hx
    obtain ⟨a3, c3, hvp, _⟩ := id r1
    obtain ⟨a4, c4, hvb, _⟩ := r2.len
    subst hvp; subst hvb
    have hd : l.drop j = x :: l.drop (j + 1) := by
      rw [List.drop_eq_getElem_cons hj]
      congr 1
      exact (List.getElem?_eq_some_iff.1 hx).2
    have hc := find1_spec w0 sh xc name x a3 a4 x.params.length c3 x.body.length c4
    rw [hd, idxP] at g2
    by_cases hs : decide (x.name = name) = true
    · rw [if_pos hs] at g2
      rw [hs] at hc
      repeat' (first | refine zck ?_ | refine zcp (by kernel_rfl) ?_ | refine zcm ?_ | refine zcl ?_ | (refine zap rfl ?_; first | refine zad rfl (fun hF Γ w h1 h2 => e2 hF Γ w (fun p hp => h1 p (by simp [hp])) h2) (e3 _ (by omega)) ?_ | refine zan rfl ?_ | refine zan rfl ?_ | refine zah [] hc rfl rfl rfl (fun _ h => h) rfl ?_ | refine zbg rfl rfl (by omega) ?_ | refine zas rfl rfl (by omega) ?_) | refine zch ?_ | refine zci rfl ?_)
      exact qret1 (fun _ _ h => h) rfl ⟨by rw [← g2]; rfl, rfl⟩
    · rw [if_neg hs] at g2
      rw [Bool.eq_false_iff.2 hs] at hc
      repeat' (first | refine zck ?_ | refine zcp (by kernel_rfl) ?_ | refine zcm ?_ | refine zcl ?_ | refine zcn ?_ | (refine zap rfl ?_; first | refine zad rfl (fun hF Γ w h1 h2 => e2 hF Γ w (fun p hp => h1 p (by simp [hp])) h2) (e3 _ (by omega)) ?_ | refine zan rfl ?_ | refine zan rfl ?_ | refine zah [] hc rfl rfl rfl (fun _ h => h) rfl ?_ | refine zbg rfl rfl (by omega) ?_ | refine zau rfl rfl (by omega) ?_ | refine zas rfl rfl (by omega) ?_) | refine zch ?_ | refine zci rfl ?_ | refine zcj rfl ?_)
      exact cut_end ⟨rfl, j + 1, ⟨rfl, rfl, rfl, int_eq (by omega), trivial⟩, ⟨rfl, by omega, by rw [← g2]; rfl⟩, by omega⟩
  · repeat' (first | refine zck ?_ | refine zcp (by kernel_rfl) ?_ | (refine zap rfl ?_; first | refine zbh rfl rfl (by omega) ?_) | refine zch ?_ | refine zcj rfl ?_)
    refine cut_exit rfl rfl ?_
    repeat' (first | refine zck ?_ | refine zcp (by kernel_rfl) ?_ | (refine zap rfl ?_; first | refine zan rfl ?_) | refine zch ?_)
    rw [List.drop_of_length_le (by omega)] at g2
    exact ret_tmp1 rfl ⟨by rw [← g2]; rfl, rfl⟩
theorem find_spec (w0 : World) (sh : Shared) (v : Value) (p : PP') (name : ByteArray) (hp : RdP w0 sh v p) (hb : p.opers.length ≤ 1000000) :
    Vc.Fn PP w0 sh 7 [v, .string name] [] (fun r Γ => Γ = [] ∧ match findP p name with
      | some o => ∃ v, r = .tuple #[v, .bool true] ∧ RdOv w0 sh v o
      | none => r = .tuple #[.agg (List.toArray [.string ⟨#[]⟩, .slice none 0 0, .slice none 0 0]), .bool false]) := by
  obtain ⟨vs, vo, hv, h1, h2⟩ := hp
  subst hv
  obtain ⟨a1, c1, hvs, hc1, _⟩ := id h1
  obtain ⟨a2, c2, hvo, hc2⟩ := h2.len
  subst hvs; subst hvo
  have hf := idxP_find (fun o : PO => decide (o.name = name)) p.opers 0 (Int.le_refl _)
  have hi := fun xc => idxO_spec w0 sh _ p.opers xc name h2 (by omega)
  unfold findP
  refine fn_of_run en7 fn7 rfl rfl rfl ?_
  repeat (first | refine zck ?_ | refine zcl ?_ | refine zcm ?_ | refine zcn ?_)
  first | refine zcp (by kernel_rfl) ?_ | refine zcq PP_mixed (by kernel_rfl) (by kernel_rfl) ?_
  repeat' (refine zap rfl ?_; first | refine zan rfl ?_ | refine zaq (cs := [_]) rfl (fun nb => ?_) | refine zaq (cs := [_, _]) rfl (fun nb => ?_) | refine zar (fun nb => ?_))
  all_goals refine zch ?_
  all_goals repeat (first | refine zck ?_ | refine zcl ?_ | refine zcm ?_ | refine zcn ?_)
  refine run_share [0] rfl ?_
  refine run_share [0] rfl ?_
  cases hq : p.opers.find? (fun o => decide (o.name = name)) with
  | none =>
    rw [hq] at hf
    rw [hf] at hi
    repeat' (first | refine zck ?_ | refine zcp (by kernel_rfl) ?_ | (refine zap rfl ?_; first | refine zan rfl ?_ | refine zan rfl ?_ | refine zaa 1 rfl rfl rfl ?_ | refine zah [] (hi _) rfl rfl rfl sub_h2 rfl ?_ | refine zao rfl ?_ | refine zbg rfl rfl (by omega) ?_ | refine zae 0 rfl rfl rfl rfl rfl rfl rfl ?_ | refine zcb rfl ?_ | refine zan rfl ?_) | refine zch ?_ | refine zci rfl ?_)
    exact run_ret (leaves_nil (ends_take [] rfl (ends_two rfl (resOk_pt 0 rfl rfl rfl) rfl ⟨rfl, rfl, rfl⟩)))
  | some x =>
    rw [hq] at hf
    obtain ⟨i, hi1, hx⟩ := hf
    rw [hi1] at hi
    obtain ⟨b, off, c, T, fr, cs, ha2, e2, e3, hro, _⟩ := h2.at hx
    have hr2 := hro
    obtain ⟨vp, vb, hcs, r1, r2⟩ := hro
    obtain ⟨a3, c3, hvp, _⟩ := id r1
    obtain ⟨a4, c4, hvb, _⟩ := r2.len
    subst hvp; subst hvb; subst hcs; subst ha2
    have hlt := (List.getElem?_eq_some_iff.1 hx).1
    repeat' (first | refine zck ?_ | refine zcp (by kernel_rfl) ?_ | refine zcm ?_ | (refine zap rfl ?_; first | refine zad rfl (fun hF Γ w h1 h2 => e2 hF Γ w (fun p hp => h1 p (by simp [hp])) h2) (e3 _ (by omega)) ?_ | refine zan rfl ?_ | refine zan rfl ?_ | refine zaa 1 rfl rfl rfl ?_ | refine zah [] (hi _) rfl rfl rfl sub_h2 rfl ?_ | refine zao rfl ?_ | refine zbh rfl rfl (by omega) ?_ | refine zae 0 rfl rfl rfl rfl rfl rfl rfl ?_ | refine zas rfl rfl (by omega) ?_ | refine zan rfl ?_) | refine zch ?_ | refine zcj rfl ?_)
    exact run_ret (leaves_nil (ends_take [] rfl (ends_two rfl (resOk_pt 0 rfl rfl rfl) rfl ⟨rfl, rfl, _, rfl, _, rfl, hr2⟩)))
end Go.Proofs.YtagmagnkigjggaaGreatDoor

namespace Go.Proofs.YtagmagnkigjggaaGreatDoor
open Go.Vc Sim
abbrev MsR (w0 : World) (k : Int) (v : Value) (Γ : List Asn) : Prop := Γ = [Rds fun bl => RdSl w0 bl encM 4 v (msK k)]
theorem methods0 (w0 : World) : Vc.Fn PP w0 [] 39 [.int .i64 0] [] (MsR w0 0) := by
  refine fn_of_run en39 fn39 rfl rfl rfl ?_
  repeat' (first | refine zck ?_ | refine zcp (by kernel_rfl) ?_ | refine zcl ?_ | (refine zap rfl ?_; first | refine reg_buildSlice rfl rfl rfl rfl rfl rfl (fun nb => ?_) | refine zan rfl ?_ | refine zan rfl ?_ | refine zce rfl ?_ | (refine zai [] (row_spec w0) rfl rfl rfl sub_nil ?_; rintro v Γ ⟨m1, s0, s1, s2, s3, s7, rfl, rfl⟩) | (refine zai [] (keyed_spec w0) rfl rfl rfl sub_nil ?_; rintro v Γ ⟨m2, s4, s5, s6, rfl, rfl⟩) | (refine zai [] (linked_spec w0) rfl rfl rfl sub_nil ?_; rintro v Γ ⟨m3, s8, s9, rfl, rfl⟩)) | refine zch ?_)
  refine run_share [13] rfl ?_
  refine run_loop1 ?_
  repeat' (first | refine zck ?_ | refine zcp (by kernel_rfl) ?_ | refine zcm ?_ | refine zcl ?_ | (refine zap rfl ?_; first | refine reg_lookup 7 (v := .tuple #[mSl s0 3, .bool true]) rfl rfl rfl rfl ?_ | refine zan rfl ?_ | refine zan rfl ?_ | refine zaa 0 rfl rfl rfl ?_ | refine zan rfl ?_ | refine zbg rfl rfl (by omega) ?_ | refine zas rfl rfl (by omega) ?_) | refine zch ?_ | refine zci rfl ?_)
  refine run_take [8] rfl ?_
  refine run_exch 0 (Rds fun bl => RdSl w0 bl encM 4 (mSl s0 3) (msK 0)) rfl (fun g hg => Rds.mono (fun bl hb => RdSl.flat (encE := encM) (q := 4) (w0 := w0) (b := s0) (l := ms0) (fun _ _ => rfl) hb) g (Rds.of_pt g hg)) rfl ?_
  exact ret_tmp1 rfl rfl
theorem methods1 (w0 : World) : Vc.Fn PP w0 [] 39 [.int .i64 1] [] (MsR w0 1) := by
  refine fn_of_run en39 fn39 rfl rfl rfl ?_
  repeat' (first | refine zck ?_ | refine zcp (by kernel_rfl) ?_ | refine zcl ?_ | (refine zap rfl ?_; first | refine reg_buildSlice rfl rfl rfl rfl rfl rfl (fun nb => ?_) | refine zan rfl ?_ | refine zan rfl ?_ | refine zce rfl ?_ | (refine zai [] (row_spec w0) rfl rfl rfl sub_nil ?_; rintro v Γ ⟨m1, s0, s1, s2, s3, s7, rfl, rfl⟩) | (refine zai [] (keyed_spec w0) rfl rfl rfl sub_nil ?_; rintro v Γ ⟨m2, s4, s5, s6, rfl, rfl⟩) | (refine zai [] (linked_spec w0) rfl rfl rfl sub_nil ?_; rintro v Γ ⟨m3, s8, s9, rfl, rfl⟩)) | refine zch ?_)
  refine run_share [13] rfl ?_
  refine run_loop1 ?_
  repeat' (first | refine zck ?_ | refine zcp (by kernel_rfl) ?_ | refine zcm ?_ | refine zcl ?_ | (refine zap rfl ?_; first | refine reg_lookup 7 (v := .tuple #[mSl s1 4, .bool true]) rfl rfl rfl rfl ?_ | refine zan rfl ?_ | refine zan rfl ?_ | refine zaa 0 rfl rfl rfl ?_ | refine zan rfl ?_ | refine zbg rfl rfl (by omega) ?_ | refine zas rfl rfl (by omega) ?_) | refine zch ?_ | refine zci rfl ?_)
  refine run_take [9] rfl ?_
  refine run_exch 0 (Rds fun bl => RdSl w0 bl encM 4 (mSl s1 4) (msK 1)) rfl (fun g hg => Rds.mono (fun bl hb => RdSl.flat (encE := encM) (q := 4) (w0 := w0) (b := s1) (l := ms1) (fun _ _ => rfl) hb) g (Rds.of_pt g hg)) rfl ?_
  exact ret_tmp1 rfl rfl
theorem methods2 (w0 : World) : Vc.Fn PP w0 [] 39 [.int .i64 2] [] (MsR w0 2) := by
  refine fn_of_run en39 fn39 rfl rfl rfl ?_
  repeat' (first | refine zck ?_ | refine zcp (by kernel_rfl) ?_ | refine zcl ?_ | (refine zap rfl ?_; first | refine reg_buildSlice rfl rfl rfl rfl rfl rfl (fun nb => ?_) | refine zan rfl ?_ | refine zan rfl ?_ | refine zce rfl ?_ | (refine zai [] (row_spec w0) rfl rfl rfl sub_nil ?_; rintro v Γ ⟨m1, s0, s1, s2, s3, s7, rfl, rfl⟩) | (refine zai [] (keyed_spec w0) rfl rfl rfl sub_nil ?_; rintro v Γ ⟨m2, s4, s5, s6, rfl, rfl⟩) | (refine zai [] (linked_spec w0) rfl rfl rfl sub_nil ?_; rintro v Γ ⟨m3, s8, s9, rfl, rfl⟩)) | refine zch ?_)
  refine run_share [13] rfl ?_
  refine run_loop1 ?_
  repeat' (first | refine zck ?_ | refine zcp (by kernel_rfl) ?_ | refine zcm ?_ | refine zcl ?_ | (refine zap rfl ?_; first | refine reg_lookup 7 (v := .tuple #[mSl s2 4, .bool true]) rfl rfl rfl rfl ?_ | refine zan rfl ?_ | refine zan rfl ?_ | refine zaa 0 rfl rfl rfl ?_ | refine zan rfl ?_ | refine zbg rfl rfl (by omega) ?_ | refine zas rfl rfl (by omega) ?_) | refine zch ?_ | refine zci rfl ?_)
  refine run_take [10] rfl ?_
  refine run_exch 0 (Rds fun bl => RdSl w0 bl encM 4 (mSl s2 4) (msK 2)) rfl (fun g hg => Rds.mono (fun bl hb => RdSl.flat (encE := encM) (q := 4) (w0 := w0) (b := s2) (l := ms2) (fun _ _ => rfl) hb) g (Rds.of_pt g hg)) rfl ?_
  exact ret_tmp1 rfl rfl
theorem methods3 (w0 : World) : Vc.Fn PP w0 [] 39 [.int .i64 3] [] (MsR w0 3) := by
  refine fn_of_run en39 fn39 rfl rfl rfl ?_
  repeat' (first | refine zck ?_ | refine zcp (by kernel_rfl) ?_ | refine zcl ?_ | (refine zap rfl ?_; first | refine reg_buildSlice rfl rfl rfl rfl rfl rfl (fun nb => ?_) | refine zan rfl ?_ | refine zan rfl ?_ | refine zce rfl ?_ | (refine zai [] (row_spec w0) rfl rfl rfl sub_nil ?_; rintro v Γ ⟨m1, s0, s1, s2, s3, s7, rfl, rfl⟩) | (refine zai [] (keyed_spec w0) rfl rfl rfl sub_nil ?_; rintro v Γ ⟨m2, s4, s5, s6, rfl, rfl⟩) | (refine zai [] (linked_spec w0) rfl rfl rfl sub_nil ?_; rintro v Γ ⟨m3, s8, s9, rfl, rfl⟩)) | refine zch ?_)
  refine run_share [13] rfl ?_
  refine run_loop1 ?_
  repeat' (first | refine zck ?_ | refine zcp (by kernel_rfl) ?_ | refine zcm ?_ | refine zcl ?_ | (refine zap rfl ?_; first | refine reg_lookup 7 (v := .tuple #[mSl s3 7, .bool true]) rfl rfl rfl rfl ?_ | refine zan rfl ?_ | refine zan rfl ?_ | refine zaa 0 rfl rfl rfl ?_ | refine zan rfl ?_ | refine zbg rfl rfl (by omega) ?_ | refine zas rfl rfl (by omega) ?_) | refine zch ?_ | refine zci rfl ?_)
  refine run_take [11] rfl ?_
  refine run_exch 0 (Rds fun bl => RdSl w0 bl encM 4 (mSl s3 7) (msK 3)) rfl (fun g hg => Rds.mono (fun bl hb => RdSl.flat (encE := encM) (q := 4) (w0 := w0) (b := s3) (l := ms3) (fun _ _ => rfl) hb) g (Rds.of_pt g hg)) rfl ?_
  exact ret_tmp1 rfl rfl
theorem methods4 (w0 : World) : Vc.Fn PP w0 [] 39 [.int .i64 4] [] (MsR w0 4) := by
  refine fn_of_run en39 fn39 rfl rfl rfl ?_
  repeat' (first | refine zck ?_ | refine zcp (by kernel_rfl) ?_ | refine zcl ?_ | (refine zap rfl ?_; first | refine reg_buildSlice rfl rfl rfl rfl rfl rfl (fun nb => ?_) | refine zan rfl ?_ | refine zan rfl ?_ | refine zce rfl ?_ | (refine zai [] (row_spec w0) rfl rfl rfl sub_nil ?_; rintro v Γ ⟨m1, s0, s1, s2, s3, s7, rfl, rfl⟩) | (refine zai [] (keyed_spec w0) rfl rfl rfl sub_nil ?_; rintro v Γ ⟨m2, s4, s5, s6, rfl, rfl⟩) | (refine zai [] (linked_spec w0) rfl rfl rfl sub_nil ?_; rintro v Γ ⟨m3, s8, s9, rfl, rfl⟩)) | refine zch ?_)
  refine run_share [13] rfl ?_
  refine run_loop1 ?_
  repeat' (first | refine zck ?_ | refine zcp (by kernel_rfl) ?_ | refine zcm ?_ | refine zcl ?_ | refine zcn ?_ | refine zco ?_ | (refine zap rfl ?_; first | refine reg_lookup 7 (v := .tuple #[.slice none 0 0, .bool false]) rfl rfl rfl rfl ?_ | refine reg_lookup 3 (v := .tuple #[mSl s4 5, .bool true]) rfl rfl rfl rfl ?_ | refine zan rfl ?_ | refine zan rfl ?_ | refine zaa 0 rfl rfl rfl ?_ | refine zan rfl ?_ | refine zbg rfl rfl (by omega) ?_ | refine zau rfl rfl (by omega) ?_ | refine zas rfl rfl (by omega) ?_) | refine zch ?_ | refine zci rfl ?_ | refine zcj rfl ?_)
  refine run_take [4] rfl ?_
  refine run_exch 0 (Rds fun bl => RdSl w0 bl encM 4 (mSl s4 5) (msK 4)) rfl (fun g hg => Rds.mono (fun bl hb => RdSl.flat (encE := encM) (q := 4) (w0 := w0) (b := s4) (l := ms4) (fun _ _ => rfl) hb) g (Rds.of_pt g hg)) rfl ?_
  exact ret_tmp1 rfl rfl
theorem methods5 (w0 : World) : Vc.Fn PP w0 [] 39 [.int .i64 5] [] (MsR w0 5) := by
  refine fn_of_run en39 fn39 rfl rfl rfl ?_
  repeat' (first | refine zck ?_ | refine zcp (by kernel_rfl) ?_ | refine zcl ?_ | (refine zap rfl ?_; first | refine reg_buildSlice rfl rfl rfl rfl rfl rfl (fun nb => ?_) | refine zan rfl ?_ | refine zan rfl ?_ | refine zce rfl ?_ | (refine zai [] (row_spec w0) rfl rfl rfl sub_nil ?_; rintro v Γ ⟨m1, s0, s1, s2, s3, s7, rfl, rfl⟩) | (refine zai [] (keyed_spec w0) rfl rfl rfl sub_nil ?_; rintro v Γ ⟨m2, s4, s5, s6, rfl, rfl⟩) | (refine zai [] (linked_spec w0) rfl rfl rfl sub_nil ?_; rintro v Γ ⟨m3, s8, s9, rfl, rfl⟩)) | refine zch ?_)
  refine run_share [13] rfl ?_
  refine run_loop1 ?_
  repeat' (first | refine zck ?_ | refine zcp (by kernel_rfl) ?_ | refine zcm ?_ | refine zcl ?_ | refine zcn ?_ | refine zco ?_ | (refine zap rfl ?_; first | refine reg_lookup 7 (v := .tuple #[.slice none 0 0, .bool false]) rfl rfl rfl rfl ?_ | refine reg_lookup 3 (v := .tuple #[mSl s5 9, .bool true]) rfl rfl rfl rfl ?_ | refine zan rfl ?_ | refine zan rfl ?_ | refine zaa 0 rfl rfl rfl ?_ | refine zan rfl ?_ | refine zbg rfl rfl (by omega) ?_ | refine zau rfl rfl (by omega) ?_ | refine zas rfl rfl (by omega) ?_) | refine zch ?_ | refine zci rfl ?_ | refine zcj rfl ?_)
  refine run_take [5] rfl ?_
  refine run_exch 0 (Rds fun bl => RdSl w0 bl encM 4 (mSl s5 9) (msK 5)) rfl (fun g hg => Rds.mono (fun bl hb => RdSl.flat (encE := encM) (q := 4) (w0 := w0) (b := s5) (l := ms5) (fun _ _ => rfl) hb) g (Rds.of_pt g hg)) rfl ?_
  exact ret_tmp1 rfl rfl
theorem methods6 (w0 : World) : Vc.Fn PP w0 [] 39 [.int .i64 6] [] (MsR w0 6) := by
  refine fn_of_run en39 fn39 rfl rfl rfl ?_
  repeat' (first | refine zck ?_ | refine zcp (by kernel_rfl) ?_ | refine zcl ?_ | (refine zap rfl ?_; first | refine reg_buildSlice rfl rfl rfl rfl rfl rfl (fun nb => ?_) | refine zan rfl ?_ | refine zan rfl ?_ | refine zce rfl ?_ | (refine zai [] (row_spec w0) rfl rfl rfl sub_nil ?_; rintro v Γ ⟨m1, s0, s1, s2, s3, s7, rfl, rfl⟩) | (refine zai [] (keyed_spec w0) rfl rfl rfl sub_nil ?_; rintro v Γ ⟨m2, s4, s5, s6, rfl, rfl⟩) | (refine zai [] (linked_spec w0) rfl rfl rfl sub_nil ?_; rintro v Γ ⟨m3, s8, s9, rfl, rfl⟩)) | refine zch ?_)
  refine run_share [13] rfl ?_
  refine run_loop1 ?_
  repeat' (first | refine zck ?_ | refine zcp (by kernel_rfl) ?_ | refine zcm ?_ | refine zcl ?_ | refine zcn ?_ | refine zco ?_ | (refine zap rfl ?_; first | refine reg_lookup 7 (v := .tuple #[.slice none 0 0, .bool false]) rfl rfl rfl rfl ?_ | refine reg_lookup 3 (v := .tuple #[mSl s6 7, .bool true]) rfl rfl rfl rfl ?_ | refine zan rfl ?_ | refine zan rfl ?_ | refine zaa 0 rfl rfl rfl ?_ | refine zan rfl ?_ | refine zbg rfl rfl (by omega) ?_ | refine zau rfl rfl (by omega) ?_ | refine zas rfl rfl (by omega) ?_) | refine zch ?_ | refine zci rfl ?_ | refine zcj rfl ?_)
  refine run_take [6] rfl ?_
  refine run_exch 0 (Rds fun bl => RdSl w0 bl encM 4 (mSl s6 7) (msK 6)) rfl (fun g hg => Rds.mono (fun bl hb => RdSl.flat (encE := encM) (q := 4) (w0 := w0) (b := s6) (l := ms6) (fun _ _ => rfl) hb) g (Rds.of_pt g hg)) rfl ?_
  exact ret_tmp1 rfl rfl
theorem methods7 (w0 : World) : Vc.Fn PP w0 [] 39 [.int .i64 7] [] (MsR w0 7) := by
  refine fn_of_run en39 fn39 rfl rfl rfl ?_
  repeat' (first | refine zck ?_ | refine zcp (by kernel_rfl) ?_ | refine zcl ?_ | (refine zap rfl ?_; first | refine reg_buildSlice rfl rfl rfl rfl rfl rfl (fun nb => ?_) | refine zan rfl ?_ | refine zan rfl ?_ | refine zce rfl ?_ | (refine zai [] (row_spec w0) rfl rfl rfl sub_nil ?_; rintro v Γ ⟨m1, s0, s1, s2, s3, s7, rfl, rfl⟩) | (refine zai [] (keyed_spec w0) rfl rfl rfl sub_nil ?_; rintro v Γ ⟨m2, s4, s5, s6, rfl, rfl⟩) | (refine zai [] (linked_spec w0) rfl rfl rfl sub_nil ?_; rintro v Γ ⟨m3, s8, s9, rfl, rfl⟩)) | refine zch ?_)
  refine run_share [13] rfl ?_
  refine run_loop1 ?_
  repeat' (first | refine zck ?_ | refine zcp (by kernel_rfl) ?_ | refine zcm ?_ | refine zcl ?_ | (refine zap rfl ?_; first | refine reg_lookup 7 (v := .tuple #[mSl s7 6, .bool true]) rfl rfl rfl rfl ?_ | refine zan rfl ?_ | refine zan rfl ?_ | refine zaa 0 rfl rfl rfl ?_ | refine zan rfl ?_ | refine zbg rfl rfl (by omega) ?_ | refine zas rfl rfl (by omega) ?_) | refine zch ?_ | refine zci rfl ?_)
  refine run_take [12] rfl ?_
  refine run_exch 0 (Rds fun bl => RdSl w0 bl encM 4 (mSl s7 6) (msK 7)) rfl (fun g hg => Rds.mono (fun bl hb => RdSl.flat (encE := encM) (q := 4) (w0 := w0) (b := s7) (l := ms7) (fun _ _ => rfl) hb) g (Rds.of_pt g hg)) rfl ?_
  exact ret_tmp1 rfl rfl
theorem methods8 (w0 : World) : Vc.Fn PP w0 [] 39 [.int .i64 8] [] (MsR w0 8) := by
  refine fn_of_run en39 fn39 rfl rfl rfl ?_
  repeat' (first | refine zck ?_ | refine zcp (by kernel_rfl) ?_ | refine zcl ?_ | (refine zap rfl ?_; first | refine reg_buildSlice rfl rfl rfl rfl rfl rfl (fun nb => ?_) | refine zan rfl ?_ | refine zan rfl ?_ | refine zce rfl ?_ | (refine zai [] (row_spec w0) rfl rfl rfl sub_nil ?_; rintro v Γ ⟨m1, s0, s1, s2, s3, s7, rfl, rfl⟩) | (refine zai [] (keyed_spec w0) rfl rfl rfl sub_nil ?_; rintro v Γ ⟨m2, s4, s5, s6, rfl, rfl⟩) | (refine zai [] (linked_spec w0) rfl rfl rfl sub_nil ?_; rintro v Γ ⟨m3, s8, s9, rfl, rfl⟩)) | refine zch ?_)
  refine run_share [13] rfl ?_
  refine run_loop1 ?_
  repeat' (first | refine zck ?_ | refine zcp (by kernel_rfl) ?_ | refine zcm ?_ | refine zcl ?_ | refine zcn ?_ | refine zco ?_ | (refine zap rfl ?_; first | refine reg_lookup 7 (v := .tuple #[.slice none 0 0, .bool false]) rfl rfl rfl rfl ?_ | refine reg_lookup 3 (v := .tuple #[.slice none 0 0, .bool false]) rfl rfl rfl rfl ?_ | refine reg_lookup 0 (v := .tuple #[mSl s8 10, .bool true]) rfl rfl rfl rfl ?_ | refine zan rfl ?_ | refine zan rfl ?_ | refine zaa 0 rfl rfl rfl ?_ | refine zan rfl ?_ | refine zbg rfl rfl (by omega) ?_ | refine zau rfl rfl (by omega) ?_ | refine zas rfl rfl (by omega) ?_) | refine zch ?_ | refine zci rfl ?_ | refine zcj rfl ?_)
  refine run_take [1] rfl ?_
  refine run_exch 0 (Rds fun bl => RdSl w0 bl encM 4 (mSl s8 10) (msK 8)) rfl (fun g hg => Rds.mono (fun bl hb => RdSl.flat (encE := encM) (q := 4) (w0 := w0) (b := s8) (l := ms8) (fun _ _ => rfl) hb) g (Rds.of_pt g hg)) rfl ?_
  exact ret_tmp1 rfl rfl
theorem methods9 (w0 : World) : Vc.Fn PP w0 [] 39 [.int .i64 9] [] (MsR w0 9) := by
  refine fn_of_run en39 fn39 rfl rfl rfl ?_
  repeat' (first | refine zck ?_ | refine zcp (by kernel_rfl) ?_ | refine zcl ?_ | (refine zap rfl ?_; first | refine reg_buildSlice rfl rfl rfl rfl rfl rfl (fun nb => ?_) | refine zan rfl ?_ | refine zan rfl ?_ | refine zce rfl ?_ | (refine zai [] (row_spec w0) rfl rfl rfl sub_nil ?_; rintro v Γ ⟨m1, s0, s1, s2, s3, s7, rfl, rfl⟩) | (refine zai [] (keyed_spec w0) rfl rfl rfl sub_nil ?_; rintro v Γ ⟨m2, s4, s5, s6, rfl, rfl⟩) | (refine zai [] (linked_spec w0) rfl rfl rfl sub_nil ?_; rintro v Γ ⟨m3, s8, s9, rfl, rfl⟩)) | refine zch ?_)
  refine run_share [13] rfl ?_
  refine run_loop1 ?_
  repeat' (first | refine zck ?_ | refine zcp (by kernel_rfl) ?_ | refine zcm ?_ | refine zcl ?_ | refine zcn ?_ | refine zco ?_ | (refine zap rfl ?_; first | refine reg_lookup 7 (v := .tuple #[.slice none 0 0, .bool false]) rfl rfl rfl rfl ?_ | refine reg_lookup 3 (v := .tuple #[.slice none 0 0, .bool false]) rfl rfl rfl rfl ?_ | refine reg_lookup 0 (v := .tuple #[mSl s9 7, .bool true]) rfl rfl rfl rfl ?_ | refine zan rfl ?_ | refine zan rfl ?_ | refine zaa 0 rfl rfl rfl ?_ | refine zan rfl ?_ | refine zbg rfl rfl (by omega) ?_ | refine zau rfl rfl (by omega) ?_ | refine zas rfl rfl (by omega) ?_) | refine zch ?_ | refine zci rfl ?_ | refine zcj rfl ?_)
  refine run_take [2] rfl ?_
  refine run_exch 0 (Rds fun bl => RdSl w0 bl encM 4 (mSl s9 7) (msK 9)) rfl (fun g hg => Rds.mono (fun bl hb => RdSl.flat (encE := encM) (q := 4) (w0 := w0) (b := s9) (l := ms9) (fun _ _ => rfl) hb) g (Rds.of_pt g hg)) rfl ?_
  exact ret_tmp1 rfl rfl
theorem methodsX (w0 : World) (k : Int) (hk : k < 0 ∨ 9 < k) : Vc.Fn PP w0 [] 39 [.int .i64 k] [] (MsR w0 k) := by
  have hm : msK k = [] := by
    unfold msK
    rw [if_neg (by omega), if_neg (by omega), if_neg (by omega), if_neg (by omega), if_neg (by omega), if_neg (by omega), if_neg (by omega), if_neg (by omega), if_neg (by omega), if_neg (by omega)]
  have h0 : ∀ a : Int, 0 ≤ a → a ≤ 9 → ¬ a = k := fun a _ _ => by omega
  refine fn_of_run en39 fn39 rfl rfl rfl ?_
  repeat' (first | refine zck ?_ | refine zcp (by kernel_rfl) ?_ | refine zcl ?_ | (refine zap rfl ?_; first | refine reg_buildSlice rfl rfl rfl rfl rfl rfl (fun nb => ?_) | refine zan rfl ?_ | refine zan rfl ?_ | refine zce rfl ?_ | (refine zai [] (row_spec w0) rfl rfl rfl sub_nil ?_; rintro v Γ ⟨m1, s0, s1, s2, s3, s7, rfl, rfl⟩) | (refine zai [] (keyed_spec w0) rfl rfl rfl sub_nil ?_; rintro v Γ ⟨m2, s4, s5, s6, rfl, rfl⟩) | (refine zai [] (linked_spec w0) rfl rfl rfl sub_nil ?_; rintro v Γ ⟨m3, s8, s9, rfl, rfl⟩)) | refine zch ?_)
  refine run_share [13] rfl ?_
  refine run_loop1 ?_
  repeat' (first | refine zck ?_ | refine zcp (by kernel_rfl) ?_ | refine zcm ?_ | refine zcl ?_ | refine zcn ?_ | refine zco ?_ | refine zcs rfl ?_ | (refine zap rfl ?_; first | refine reg_lookup 7 (v := .tuple #[.slice none 0 0, .bool false]) rfl rfl rfl (by simp [Vc.look, h0]) ?_ | refine reg_lookup 3 (v := .tuple #[.slice none 0 0, .bool false]) rfl rfl rfl (by simp [Vc.look, h0]) ?_ | refine reg_lookup 0 (v := .tuple #[.slice none 0 0, .bool false]) rfl rfl rfl (by simp [Vc.look, h0]) ?_ | refine zan rfl ?_ | refine zan rfl ?_ | refine zaa 0 rfl rfl rfl ?_ | refine zan rfl ?_ | refine zbg rfl rfl (by omega) ?_ | refine zbh rfl rfl (by omega) ?_ | refine zau rfl rfl (by omega) ?_ | refine zas rfl rfl (by omega) ?_) | refine zch ?_ | refine zci rfl ?_ | refine zcj rfl ?_)
  refine run_take [] rfl ?_
  refine run_emptyR (fun bl => RdSl w0 bl encM 4 (.slice none 0 0) (msK k)) (by rw [hm]; exact RdSl.nil) ?_
  exact ret_tmp1 rfl rfl
theorem methods_spec (w0 : World) (k : Int) : Vc.Fn PP w0 [] 39 [.int .i64 k] [] (MsR w0 k) := by
  by_cases h : 0 ≤ k ∧ k ≤ 9
  · rcases (by omega : k = 0 ∨ k = 1 ∨ k = 2 ∨ k = 3 ∨ k = 4 ∨ k = 5 ∨ k = 6 ∨ k = 7 ∨ k = 8 ∨ k = 9) with rfl | rfl | rfl | rfl | rfl | rfl | rfl | rfl | rfl | rfl
    · exact methods0 w0
    · exact methods1 w0
    · exact methods2 w0
    · exact methods3 w0
    · exact methods4 w0
    · exact methods5 w0
    · exact methods6 w0
    · exact methods7 w0
    · exact methods8 w0
    · exact methods9 w0
  · exact methodsX w0 k (by omega)
end Go.Proofs.YtagmagnkigjggaaGreatDoor

namespace Go.Proofs.YtagmagnkigjggaaGreatDoor
open Go.Vc Sim
theorem findM1_spec (w0 : World) (sh : Shared) (xc : Nat) (name : ByteArray) (m : MRow) :
    FnE PP w0 ((xc, .cells (List.toArray [.string name]) 9 (0, 0)) :: sh) 334 [.agg (List.toArray (encM m)), .pointer (some ⟨xc, 0, none⟩)] [] (.bool (decide (m.1.1 = name))) [] := by
  refine fn_of_run en334 fn334 rfl rfl rfl ?_
  repeat' (first | refine zck ?_ | refine zcp (by kernel_rfl) ?_ | (refine zap rfl ?_; first | refine reg_eqS rfl rfl ?_ | refine zan rfl ?_ | refine zaa 0 rfl rfl rfl ?_ | refine zab 0 rfl rfl rfl ?_ | refine zao rfl ?_ | refine zaq (cs := [_, _, _, _]) rfl (fun nb => ?_)) | refine zch ?_)
  refine run_take [] rfl ?_
  exact ret_tmp1 rfl ⟨rfl, rfl⟩
theorem idxM_spec (w0 : World) (sh : Shared) (v : Value) (l : List MRow) (xc : Nat) (name : ByteArray) (hl : RdSl w0 sh encM 4 v l) (hb : l.length ≤ 1099511627776) :
    FnE PP w0 ((xc, .cells (List.toArray [.string name]) 9 (0, 0)) :: sh) 333 [v, .func (.func 334) #[] #[.pointer (some ⟨xc, 0, none⟩)]] [] (.int .i64 (idxP (fun m => decide (m.1.1 = name)) l 0)) [] := by
  obtain ⟨a, cap, hv, _⟩ := id hl
  subst hv
  refine fn_of_run en333 fn333 rfl rfl rfl ?_
  repeat' (first | refine zck ?_ | refine zcp (by kernel_rfl) ?_ | refine zcl ?_ | (refine zap rfl ?_; first | refine zan rfl ?_ | refine zan rfl ?_ | refine zce rfl ?_) | refine zch ?_)
  refine run_loop (S := Nat) (fun j => [(0, .slice a l.length cap), (1, .func (.func 334) #[] #[.pointer (some ⟨xc, 0, none⟩)]), (7, .int .i64 l.length), (8, .int .i64 j)])
    (fun j Γ => Γ = [] ∧ j ≤ l.length ∧ idxP (fun m => decide (m.1.1 = name)) (l.drop j) j = idxP (fun m => decide (m.1.1 = name)) l 0) (fun j => l.length - j) 0 ⟨rfl, rfl, rfl, rfl, trivial⟩ ⟨rfl, by omega, rfl⟩ ?_
  rintro j Γ junk ⟨rfl, g1, g2⟩
  by_cases hj : j < l.length
  · obtain ⟨x, hx⟩ : ∃ x, l[j]? = some x := ⟨_, List.getElem?_eq_getElem hj⟩
    obtain ⟨b, off, c, T, fr, rfl, e2, e3, _⟩ := hl.cells hx
    have hd : l.drop j = x :: l.drop (j + 1) := by
      rw [List.drop_eq_getElem_cons hj]
      congr 1
      exact (List.getElem?_eq_some_iff.1 hx).2
    have hc := findM1_spec w0 sh xc name x
    rw [hd, idxP] at g2
    by_cases hs : decide (x.1.1 = name) = true
    · rw [if_pos hs] at g2
      rw [hs] at hc
      repeat' (first | refine zck ?_ | refine zcp (by kernel_rfl) ?_ | refine zcm ?_ | refine zcl ?_ | (refine zap rfl ?_; first | refine zad rfl (fun hF Γ w h1 h2 => e2 hF Γ w (fun p hp => h1 p (by simp [hp])) h2) (e3 _ (by omega)) ?_ | refine zan rfl ?_ | refine zan rfl ?_ | refine zah [] hc rfl rfl rfl (fun _ h => h) rfl ?_ | refine zbg rfl rfl (by omega) ?_ | refine zas rfl rfl (by omega) ?_) | refine zch ?_ | refine zci rfl ?_)
      exact qret1 (fun _ _ h => h) rfl ⟨by rw [← g2]; rfl, rfl⟩
    · rw [if_neg hs] at g2
      rw [Bool.eq_false_iff.2 hs] at hc
      repeat' (first | refine zck ?_ | refine zcp (by kernel_rfl) ?_ | refine zcm ?_ | refine zcl ?_ | refine zcn ?_ | (refine zap rfl ?_; first | refine zad rfl (fun hF Γ w h1 h2 => e2 hF Γ w (fun p hp => h1 p (by simp [hp])) h2) (e3 _ (by omega)) ?_ | refine zan rfl ?_ | refine zan rfl ?_ | refine zah [] hc rfl rfl rfl (fun _ h => h) rfl ?_ | refine zbg rfl rfl (by omega) ?_ | refine zau rfl rfl (by omega) ?_ | refine zas rfl rfl (by omega) ?_) | refine zch ?_ | refine zci rfl ?_ | refine zcj rfl ?_)
      exact cut_end ⟨rfl, j + 1, ⟨rfl, rfl, rfl, int_eq (by omega), trivial⟩, ⟨rfl, by omega, by rw [← g2]; rfl⟩, by omega⟩
  · repeat' (first | refine zck ?_ | refine zcp (by kernel_rfl) ?_ | (refine zap rfl ?_; first | refine zbh rfl rfl (by omega) ?_) | refine zch ?_ | refine zcj rfl ?_)
    refine cut_exit rfl rfl ?_
    repeat' (first | refine zck ?_ | refine zcp (by kernel_rfl) ?_ | (refine zap rfl ?_; first | refine zan rfl ?_) | refine zch ?_)
    rw [List.drop_of_length_le (by omega)] at g2
    exact ret_tmp1 rfl ⟨by rw [← g2]; rfl, rfl⟩
theorem msK_len (k : Int) : (msK k).length ≤ 10 := by
  have h := congrArg List.length (msK_rows k)
  rw [List.length_map] at h
  rw [h]
  unfold ctMeths
  by_cases h : 0 ≤ k ∧ k ≤ 9
  · rcases (by omega : k = 0 ∨ k = 1 ∨ k = 2 ∨ k = 3 ∨ k = 4 ∨ k = 5 ∨ k = 6 ∨ k = 7 ∨ k = 8 ∨ k = 9) with rfl | rfl | rfl | rfl | rfl | rfl | rfl | rfl | rfl | rfl <;> decide
  · rw [if_neg h]; decide
def findMV : Option MRow → Value
  | some m => .tuple #[.agg (List.toArray (encM m)), .bool true]
  | none => .tuple #[.agg (List.toArray [.string ⟨#[]⟩, .int .i64 0, .bool false, .nilFunc]), .bool false]
theorem findM_spec (w0 : World) (k : Int) (name : ByteArray) : FnE PP w0 [] 304 [.int .i64 k, .string name] [] (findMV ((msK k).find? fun m => decide (m.1.1 = name))) [] := by
  have hf := idxP_find (fun m : MRow => decide (m.1.1 = name)) (msK k) 0 (Int.le_refl _)
  have hlen := msK_len k
  refine fn_of_run en304 fn304 rfl rfl rfl ?_
  repeat (first | refine zck ?_ | refine zcl ?_ | refine zcm ?_ | refine zcn ?_)
  first | refine zcp (by kernel_rfl) ?_ | refine zcq PP_mixed (by kernel_rfl) (by kernel_rfl) ?_
  repeat' (refine zap rfl ?_; first | refine zan rfl ?_ | refine zaq (cs := [_]) rfl (fun nb => ?_) | refine zar (fun nb => ?_))
  all_goals refine zch ?_
  all_goals repeat (first | refine zck ?_ | refine zcl ?_ | refine zcm ?_ | refine zcn ?_)
  refine run_share [0] rfl ?_
  rename_i be
  repeat (first | refine zck ?_ | refine zcl ?_ | refine zcm ?_ | refine zcn ?_)
  first | refine zcp (by kernel_rfl) ?_ | refine zcq PP_mixed (by kernel_rfl) (by kernel_rfl) ?_
  repeat' (refine zap rfl ?_; first | refine zan rfl ?_ | refine zan rfl ?_ | (refine zai [] (methods_spec w0 k) rfl rfl rfl sub_nil ?_; rintro v Γ rfl))
  all_goals refine zch ?_
  all_goals repeat (first | refine zck ?_ | refine zcl ?_ | refine zcm ?_ | refine zcn ?_)
  refine run_shareR [0] rfl ?_
  intro sh' bl hs1 hs2 hR
  have hR := hR.mono hs2
  obtain ⟨a2, c2, hv2, _⟩ := id hR
  subst hv2
  have hbe2 : (be, Obj.cells (List.toArray [Value.string name]) 9 (0, 0)) ∈ sh' := hs1 _ (.head _)
  have hi := idxM_spec w0 sh' _ (msK k) be name hR (by omega)
  have hsub : ∀ p ∈ (be, Obj.cells (List.toArray [Value.string name]) 9 (0, 0)) :: sh', p ∈ sh' := fun p hp => by
    rcases List.mem_cons.1 hp with h | h
    · rw [h]; exact hbe2
    · exact h
  cases hq : (msK k).find? (fun m => decide (m.1.1 = name)) with
  | none =>
    rw [hq] at hf
    rw [hf] at hi
    repeat' (first | refine zck ?_ | refine zcp (by kernel_rfl) ?_ | (refine zap rfl ?_; first | refine zan rfl ?_ | refine zan rfl ?_ | refine zah [] hi rfl rfl rfl hsub rfl ?_ | refine zbg rfl rfl (by omega) ?_ | refine zae 0 rfl rfl rfl rfl rfl rfl rfl ?_ | refine zcb rfl ?_ | refine zan rfl ?_) | refine zch ?_ | refine zci rfl ?_)
    exact run_ret (leaves_nil (ends_take [] rfl (ends_two rfl (resOk_pt 0 rfl rfl rfl) rfl ⟨rfl, rfl, rfl⟩)))
  | some x =>
    rw [hq] at hf
    obtain ⟨i, hi1, hx⟩ := hf
    rw [hi1] at hi
    obtain ⟨b, off, c, T, fr, ha2, e2, e3, _⟩ := hR.cells hx
    subst ha2
    have hlt := (List.getElem?_eq_some_iff.1 hx).1
    repeat' (first | refine zck ?_ | refine zcp (by kernel_rfl) ?_ | refine zcm ?_ | (refine zap rfl ?_; first | refine zad rfl e2 (e3 _ (by omega)) ?_ | refine zan rfl ?_ | refine zan rfl ?_ | refine zah [] hi rfl rfl rfl hsub rfl ?_ | refine zbh rfl rfl (by omega) ?_ | refine zae 0 rfl rfl rfl rfl rfl rfl rfl ?_ | refine zas rfl rfl (by omega) ?_ | refine zan rfl ?_) | refine zch ?_ | refine zcj rfl ?_)
    exact run_ret (leaves_nil (ends_take [] rfl (ends_two rfl (resOk_pt 0 rfl rfl rfl) rfl ⟨rfl, rfl, rfl⟩)))
theorem method_spec (w0 : World) (m : ByteArray × Int × Bool) (f : Value) : FnE PP w0 [] 40 [.agg (List.toArray [.string m.1, .int .i64 m.2.1, .bool m.2.2, f])] [] (.agg (List.toArray [.string m.1, .int .i64 m.2.1, .bool m.2.2])) [] := by
  refine fn_of_run en40 fn40 rfl rfl rfl ?_
  repeat' (first | refine zck ?_ | refine zcp (by kernel_rfl) ?_ | (refine zap rfl ?_; first | refine zab 0 rfl rfl rfl ?_ | refine zao rfl ?_ | refine zae 1 rfl rfl rfl rfl rfl rfl rfl ?_ | refine zaq (cs := [_, _, _, _]) rfl (fun nb => ?_) | refine zar (fun nb => ?_) | refine zcb rfl ?_) | refine zch ?_)
  exact run_ret (leaves_nil (ends_take [] rfl (ends_one rfl (resOk_pt 1 rfl rfl rfl) ⟨rfl, rfl, rfl⟩)))
def findCV : Option (ByteArray × Int × Bool) → Value
  | some m => .tuple #[.agg (List.toArray [.string m.1, .int .i64 m.2.1, .bool m.2.2]), .bool true]
  | none => .tuple #[.agg (List.toArray [.string ⟨#[]⟩, .int .i64 0, .bool false]), .bool false]
theorem findC_spec (w0 : World) (k : Int) (name : ByteArray) : FnE PP w0 [] 201 [.int .i64 k, .string name] [] (findCV (ctFind k name)) [] := by
  have hm := findM_spec w0 k name
  have hc : ctFind k name = ((msK k).find? fun m => decide (m.1.1 = name)).map (·.1) := by
    unfold ctFind
    rw [← msK_rows, List.find?_map]
    rfl
  rw [hc]
  cases hq : (msK k).find? (fun m => decide (m.1.1 = name)) with
  | none =>
    rw [hq] at hm
    have hz := method_spec w0 (⟨#[]⟩, 0, false) .nilFunc
    refine fn_of_run en201 fn201 rfl rfl rfl ?_
    repeat' (first | refine zck ?_ | refine zcp (by kernel_rfl) ?_ | (refine zap rfl ?_; first | refine zan rfl ?_ | refine zan rfl ?_ | refine zab 1 rfl rfl rfl ?_ | refine zah [] hm rfl rfl rfl sub_nil rfl ?_ | refine zah [] hz rfl rfl rfl sub_nil rfl ?_ | refine zan rfl ?_ | refine zae 0 rfl rfl rfl rfl rfl rfl rfl ?_ | refine zae 1 rfl rfl rfl rfl rfl rfl rfl ?_ | refine zar (fun nb => ?_)) | refine zch ?_)
    exact run_ret (leaves_nil (ends_take [] rfl (ends_two rfl (resOk_pt 0 rfl rfl rfl) rfl ⟨rfl, rfl, rfl⟩)))
  | some x =>
    rw [hq] at hm
    have hz := method_spec w0 x.1 (.func (.func x.2) #[] #[])
    refine fn_of_run en201 fn201 rfl rfl rfl ?_
    repeat' (first | refine zck ?_ | refine zcp (by kernel_rfl) ?_ | (refine zap rfl ?_; first | refine zan rfl ?_ | refine zan rfl ?_ | refine zab 1 rfl rfl rfl ?_ | refine zah [] hm rfl rfl rfl sub_nil rfl ?_ | refine zah [] hz rfl rfl rfl sub_nil rfl ?_ | refine zan rfl ?_ | refine zae 0 rfl rfl rfl rfl rfl rfl rfl ?_ | refine zae 1 rfl rfl rfl rfl rfl rfl rfl ?_ | refine zar (fun nb => ?_)) | refine zch ?_)
    exact run_ret (leaves_nil (ends_take [] rfl (ends_two rfl (resOk_pt 0 rfl rfl rfl) rfl ⟨rfl, rfl, rfl⟩)))
end Go.Proofs.YtagmagnkigjggaaGreatDoor

namespace Sim
open Go Go.Vc
def kS (l : List (ByteArray × ByteArray)) : SM := l.map fun d => (d.1, .string d.2)
def lookK : List (ByteArray × ByteArray) → ByteArray → Option ByteArray
  | [], _ => none
  | d :: l, s => if d.1 = s then some d.2 else lookK l s
theorem lookK_S (s : ByteArray) : ∀ l : List (ByteArray × ByteArray), lookS (kS l) s = (lookK l s).map .string
  | [] => rfl
  | d :: l => by
    have ih := lookK_S s l
    simp only [kS, List.map_cons, lookS, lookK] at ih ⊢
    rw [ih]
    split <;> rfl
def kindZ (s : ByteArray) : Int := ((ctKind s).getD 0 : Nat)
def nameK (ks : List (ByteArray × ByteArray)) (store : ByteArray) : ByteArray := (lookK ks store).getD ⟨#[]⟩
def writesK (ks : List (ByteArray × ByteArray)) (store meth : ByteArray) : Bool := match ctFind (kindZ (nameK ks store)) meth with | some m => m.2.2 | none => false
def callE (ks : List (ByteArray × ByteArray)) (store meth : ByteArray) : Ef := ⟨[store], if writesK ks store meth = true then [store] else [], [], 1⟩
def callW (ks : List (ByteArray × ByteArray)) (store meth : ByteArray) (w : Int) : Int :=
  if w ≠ 0 then w else if (lookK ks store).isSome = false then 16 else if (ctKind (nameK ks store)).isSome = false then 2 else if (ctFind (kindZ (nameK ks store)) meth).isSome = false then 14 else w
def nodeE (ks : List (ByteArray × ByteArray)) (k : Int) (name meth : ByteArray) (out : Ef) : Ef :=
  if k = 6 then joinE out (callE ks name meth) else if k = 7 then joinE out ⟨[], [], [name], 0⟩ else out
def nodeW (ks : List (ByteArray × ByteArray)) (k : Int) (name meth : ByteArray) (w : Int) : Int := if k = 6 then callW ks name meth w else w
mutual
def exprE (ks : List (ByteArray × ByteArray)) : PE → Int → Ef × Int
  | .mk k _ name meth xs ys, w =>
    (nodeE ks k name meth (exprEs ks ys (exprEs ks xs zeroE w).1 (exprEs ks xs zeroE w).2).1, nodeW ks k name meth (exprEs ks ys (exprEs ks xs zeroE w).1 (exprEs ks xs zeroE w).2).2)
def exprEs (ks : List (ByteArray × ByteArray)) : List PE → Ef → Int → Ef × Int
  | [], out, w => (out, w)
  | e :: l, out, w => exprEs ks l (joinE out (exprE ks e w).1) (exprE ks e w).2
end
theorem exprE_eq (ks : List (ByteArray × ByteArray)) (e : PE) (w : Int) : exprE ks e w = (nodeE ks e.kind e.name e.meth (exprEs ks e.or (exprEs ks e.args zeroE w).1 (exprEs ks e.args zeroE w).2).1, nodeW ks e.kind e.name e.meth (exprEs ks e.or (exprEs ks e.args zeroE w).1 (exprEs ks e.args zeroE w).2).2) := by
  cases e; rw [exprE]; rfl
theorem exprEs_drop {ks : List (ByteArray × ByteArray)} {l : List PE} {j : Nat} {x : PE} {out : Ef} {w : Int} (h : l[j]? = some x) : exprEs ks (l.drop j) out w = exprEs ks (l.drop (j + 1)) (joinE out (exprE ks x w).1) (exprE ks x w).2 := by
  have hj := (List.getElem?_eq_some_iff.1 h).1
  rw [List.drop_eq_getElem_cons hj, (List.getElem?_eq_some_iff.1 h).2, exprEs]
def maxC (a b : Int) : Int := if b > a then b else a
def partE (k num : Int) (own body other : Ef) : Ef := if k = 4 then timesE body num else joinE own { joinE body other with calls := maxC body.calls other.calls }
mutual
def stmtE (ks : List (ByteArray × ByteArray)) : PS → Int → Ef × Int
  | .mk k _ num e body els, w =>
    (partE k num (exprE ks e w).1 (stmtEs ks body zeroE (exprE ks e w).2).1 (stmtEs ks els zeroE (stmtEs ks body zeroE (exprE ks e w).2).2).1, (stmtEs ks els zeroE (stmtEs ks body zeroE (exprE ks e w).2).2).2)
def stmtEs (ks : List (ByteArray × ByteArray)) : List PS → Ef → Int → Ef × Int
  | [], out, w => (out, w)
  | e :: l, out, w => stmtEs ks l (joinE out (stmtE ks e w).1) (stmtE ks e w).2
end
theorem stmtE_eq (ks : List (ByteArray × ByteArray)) (s : PS) (w : Int) : stmtE ks s w = (partE s.kind s.num (exprE ks s.expr w).1 (stmtEs ks s.body zeroE (exprE ks s.expr w).2).1 (stmtEs ks s.els zeroE (stmtEs ks s.body zeroE (exprE ks s.expr w).2).2).1, (stmtEs ks s.els zeroE (stmtEs ks s.body zeroE (exprE ks s.expr w).2).2).2) := by
  cases s; rw [stmtE]; rfl
theorem stmtEs_drop {ks : List (ByteArray × ByteArray)} {l : List PS} {j : Nat} {x : PS} {out : Ef} {w : Int} (h : l[j]? = some x) : stmtEs ks (l.drop j) out w = stmtEs ks (l.drop (j + 1)) (joinE out (stmtE ks x w).1) (stmtE ks x w).2 := by
  have hj := (List.getElem?_eq_some_iff.1 h).1
  rw [List.drop_eq_getElem_cons hj, (List.getElem?_eq_some_iff.1 h).2, stmtEs]
theorem Ef.sm.mono {e : Ef} {n m : Nat} (h : e.sm n) (hm : n ≤ m) : e.sm m := ⟨Nat.le_trans h.1 hm, Nat.le_trans h.2.1 hm, Nat.le_trans h.2.2 hm⟩
theorem zeroE_sm (n : Nat) : zeroE.sm n := ⟨Nat.zero_le _, Nat.zero_le _, Nat.zero_le _⟩
theorem callE_sm (ks : List (ByteArray × ByteArray)) (s m : ByteArray) : (callE ks s m).sm 1 := ⟨Nat.le_refl _, by unfold callE; dsimp only; split <;> simp, Nat.zero_le _⟩
theorem nodeE_sm {ks : List (ByteArray × ByteArray)} {k : Int} {a b : ByteArray} {out : Ef} {n : Nat} (h : out.sm n) : (nodeE ks k a b out).sm (n + 1) := by
  unfold nodeE
  split
  · exact joinE_sm h (callE_sm ks a b)
  · split
    · exact joinE_sm h ⟨Nat.zero_le _, Nat.zero_le _, Nat.le_refl _⟩
    · exact h.mono (by omega)
mutual
theorem exprE_sm (ks : List (ByteArray × ByteArray)) : ∀ (e : PE) (w : Int), (exprE ks e w).1.sm e.size
  | .mk k num a b xs ys, w => by
    rw [exprE_eq, PE.size_eq]
    dsimp only [PE.kind, PE.name, PE.meth, PE.args, PE.or]
    have h1 := exprEs_sm ks xs zeroE w 0 (zeroE_sm 0)
    have h2 := exprEs_sm ks ys (exprEs ks xs zeroE w).1 (exprEs ks xs zeroE w).2 _ h1
    exact (nodeE_sm h2).mono (by omega)
theorem exprEs_sm (ks : List (ByteArray × ByteArray)) : ∀ (l : List PE) (out : Ef) (w : Int) (n : Nat), out.sm n → (exprEs ks l out w).1.sm (n + PE.sizeL l)
  | [], out, w, n, h => by rw [exprEs]; exact h.mono (by omega)
  | e :: l, out, w, n, h => by
    rw [exprEs, PE.sizeL]
    have h1 := exprE_sm ks e w
    have h2 := exprEs_sm ks l _ (exprE ks e w).2 _ (joinE_sm h h1)
    exact h2.mono (by omega)
end
theorem timesE_sm {e : Ef} {n : Nat} (k : Int) (h : e.sm n) : (timesE e k).sm n := by
  unfold timesE
  split
  · exact zeroE_sm n
  · exact joinE_sm (m := 0) h (zeroE_sm 0)
theorem partE_sm {k num : Int} {a b c : Ef} {n m q : Nat} (ha : a.sm n) (hb : b.sm m) (hc : c.sm q) : (partE k num a b c).sm (n + m + q) := by
  unfold partE
  split
  · exact (timesE_sm num hb).mono (by omega)
  · have h : Ef.sm { joinE b c with calls := maxC b.calls c.calls } (m + q) := joinE_sm hb hc
    exact (joinE_sm ha h).mono (by omega)
mutual
theorem stmtE_sm (ks : List (ByteArray × ByteArray)) : ∀ (s : PS) (w : Int), (stmtE ks s w).1.sm s.size
  | .mk k a num e body els, w => by
    rw [stmtE_eq]
    dsimp only [PS.kind, PS.num, PS.expr, PS.body, PS.els]
    have h1 := exprE_sm ks e w
    have h2 := stmtEs_sm ks body zeroE (exprE ks e w).2 0 (zeroE_sm 0)
    have h3 := stmtEs_sm ks els zeroE (stmtEs ks body zeroE (exprE ks e w).2).2 0 (zeroE_sm 0)
    exact (partE_sm h1 h2 h3).mono (by rw [PS.size]; omega)
theorem stmtEs_sm (ks : List (ByteArray × ByteArray)) : ∀ (l : List PS) (out : Ef) (w : Int) (n : Nat), out.sm n → (stmtEs ks l out w).1.sm (n + PS.sizeL l)
  | [], out, w, n, h => by rw [stmtEs]; exact h.mono (by omega)
  | e :: l, out, w, n, h => by
    rw [stmtEs, PS.sizeL]
    have h1 := stmtE_sm ks e w
    have h2 := stmtEs_sm ks l _ (stmtE ks e w).2 _ (joinE_sm h h1)
    exact h2.mono (by omega)
end
def ofP (p : PP') (oper : ByteArray) : Ef × Int :=
  if checkP p ≠ 0 then (zeroE, checkP p) else match findP p oper with
  | none => (zeroE, 10)
  | some o => if (stmtEs p.stores o.body zeroE 0).2 ≠ 0 then (zeroE, (stmtEs p.stores o.body zeroE 0).2) else ((stmtEs p.stores o.body zeroE 0).1, 0)
end Sim

namespace Go.Vc
open Sim
abbrev fC (m : Nat) (w : Int) : List Value := [.map (some m), .int .i64 w]
def efC (x1 : Option Addr) (n1 y1 : Nat) (x2 : Option Addr) (n2 y2 : Nat) (x3 : Option Addr) (n3 y3 : Nat) (c : Int) : List Value := [.slice x1 n1 y1, .slice x2 n2 y2, .slice x3 n3 y3, .int .i64 c]
theorem Rds.one {w0 : World} {b : Nat} {s : ByteArray} {T : TypeId} (g : Heap) (hg : pt b (.cells (List.toArray [.string s]) T (0, 0)) g) : Rds (fun bl => RdSl w0 bl encY 1 (.slice (some ⟨b, 0, none⟩) 1 1) [s]) g :=
  Rds.mono (fun _ hb => RdSl.flat (encE := encY) (q := 1) (w0 := w0) (b := b) (l := [s]) (fun _ _ => rfl) hb) g (Rds.of_pt g hg)
def EfR (w0 : World) (e : Ef) (L : List Asn) (v : Value) (Γ : List Asn) : Prop := ∃ x1 y1 x2 y2 x3 y3, v = efA x1 e.reads.length y1 x2 e.writes.length y2 x3 e.hosts.length y3 e.calls ∧ Γ = Rds (fun bl => RdEfV w0 bl v e) :: L
end Go.Vc
namespace Go.Proofs.YtagmagnkigjggaaGreatDoor
open Go.Vc Sim
theorem join_own (w0 : World) (sh : Shared) (va vb : Value) (a b : Ef) (sa : a.sm 30000) (sb : b.sm 30000) :
    Vc.Fn PP w0 sh 29 [va, vb] [Rds fun bl => RdEfV w0 bl va a, Rds fun bl => RdEfV w0 bl vb b] (EfR w0 (joinE a b) [Rds fun bl => RdEfV w0 bl vb b, Rds fun bl => RdEfV w0 bl va a]) := by
  refine (Fn.lendR en29 (fun sh1 bl1 h1 h2 h3 => Fn.lendR en29 (fun sh2 bl2 g1 g2 g3 => join_form w0 sh2 va vb a b (h3.mono fun p hp => g1 p (h2 p hp)) (g3.mono g2) sa sb))).mono ?_
  rintro v Γ ⟨_, ⟨_, ⟨x1, y1, x2, y2, x3, y3, rfl, rfl⟩, rfl⟩, rfl⟩
  exact ⟨x1, y1, x2, y2, x3, y3, rfl, rfl⟩
set_option maxHeartbeats 2000000 in
theorem call_spec (w0 : World) (sh : Shared) (fb m : Nat) (ks : List (ByteArray × ByteArray)) (w : Int) (store meth : ByteArray) (hR : RdM w0 sh m (kS ks)) :
    Vc.Fn PP w0 sh 60 [.pointer (some ⟨fb, 0, none⟩), .string store, .string meth] [pt fb (.cells (List.toArray (fC m w)) 64 (0, 0))]
      (EfR w0 (callE ks store meth) [pt fb (.cells (List.toArray (fC m (callW ks store meth w))) 64 (0, 0))]) := by
  have hlk : (if true = true then Value.tuple #[(lookS (kS ks) store).getD (.string ByteArray.empty), .bool (lookS (kS ks) store).isSome] else (lookS (kS ks) store).getD (.string ByteArray.empty)) = .tuple #[.string (nameK ks store), .bool (decide ((lookK ks store).isSome = true))] := by
    rw [if_pos rfl, lookK_S, nameK]
    cases lookK ks store <;> rfl
  have hkd : FnE PP w0 [] 200 [.string (nameK ks store)] [] (.tuple #[.int .i64 (kindZ (nameK ks store)), .bool (decide ((ctKind (nameK ks store)).isSome = true))]) [] := by
    rw [Bool.decide_eq_true]; exact kind_spec w0 (nameK ks store)
  have hfd : ∃ (n : ByteArray) (a : Int), FnE PP w0 [] 201 [.int .i64 (kindZ (nameK ks store)), .string meth] [] (.tuple #[.agg (List.toArray [.string n, .int .i64 a, .bool (decide (writesK ks store meth = true))]), .bool (decide ((ctFind (kindZ (nameK ks store)) meth).isSome = true))]) [] := by
    have h := findC_spec w0 (kindZ (nameK ks store)) meth
    unfold writesK
    cases hq : ctFind (kindZ (nameK ks store)) meth with
    | none => rw [hq] at h; exact ⟨_, _, h⟩
    | some x => rw [hq] at h; exact ⟨x.1, x.2.1, by dsimp only; rw [Bool.decide_eq_true]; exact h⟩
  obtain ⟨n, a, hfd⟩ := hfd
  have hWA : ∀ B1 B2 B3 : Bool, (lookK ks store).isSome = B1 → (ctKind (nameK ks store)).isSome = B2 → (ctFind (kindZ (nameK ks store)) meth).isSome = B3 → callW ks store meth w = if w ≠ 0 then w else if B1 = false then 16 else if B2 = false then 2 else if B3 = false then 14 else w := fun B1 B2 B3 h1 h2 h3 => by
    unfold callW; rw [h1, h2, h3]
  have hW := hWA _ _ _ rfl rfl rfl
  clear hWA
  generalize (lookK ks store).isSome = B1 at *
  generalize (ctKind (nameK ks store)).isSome = B2 at *
  generalize (ctFind (kindZ (nameK ks store)) meth).isSome = B3 at *
  obtain ⟨W, hWW⟩ : ∃ W, callW ks store meth w = W := ⟨_, rfl⟩
  rw [hWW] at hW ⊢
  unfold EfR callE
  generalize writesK ks store meth = B4 at *
  refine fn_of_run en60 fn60 rfl rfl rfl ?_
  repeat (first | refine zck ?_ | refine zcl ?_ | refine zcm ?_ | refine zcn ?_)
  first | refine zcp (by kernel_rfl) ?_ | refine zcq PP_mixed (by kernel_rfl) (by kernel_rfl) ?_
  repeat' (refine zap rfl ?_; first | refine zar (fun nb => ?_))
  all_goals refine zch ?_
  all_goals repeat (first | refine zck ?_ | refine zcl ?_ | refine zcm ?_ | refine zcn ?_)
  obtain ⟨b6, hb6⟩ : ∃ b, b = nb := ⟨_, rfl⟩
  subst hb6
  repeat (first | refine zck ?_ | refine zcl ?_ | refine zcm ?_ | refine zcn ?_)
  first | refine zcp (by kernel_rfl) ?_ | refine zcq PP_mixed (by kernel_rfl) (by kernel_rfl) ?_
  repeat' (refine zap rfl ?_; first | refine reg_lookupR hR rfl rfl hlk ?_ | refine zan rfl ?_ | refine zan rfl ?_ | refine zab 0 rfl rfl rfl ?_ | refine zao rfl ?_ | refine zan rfl ?_ | refine zan rfl ?_)
  all_goals refine zch ?_
  all_goals repeat (first | refine zck ?_ | refine zcl ?_ | refine zcm ?_ | refine zcn ?_)
  repeat (first | refine zck ?_ | refine zcl ?_ | refine zcm ?_ | refine zcn ?_)
  first | refine zcp (by kernel_rfl) ?_ | refine zcq PP_mixed (by kernel_rfl) (by kernel_rfl) ?_
  repeat' (refine zap rfl ?_; first | refine zan rfl ?_ | refine zan rfl ?_ | refine zah [] hkd rfl rfl rfl sub_nil rfl ?_ | refine zan rfl ?_)
  all_goals refine zch ?_
  all_goals repeat (first | refine zck ?_ | refine zcl ?_ | refine zcm ?_ | refine zcn ?_)
  repeat (first | refine zck ?_ | refine zcl ?_ | refine zcm ?_ | refine zcn ?_)
  first | refine zcp (by kernel_rfl) ?_ | refine zcq PP_mixed (by kernel_rfl) (by kernel_rfl) ?_
  repeat' (refine zap rfl ?_; first | refine zan rfl ?_ | refine zan rfl ?_ | refine zah [] hfd rfl rfl rfl sub_nil rfl ?_ | refine zan rfl ?_ | refine zae 2 rfl rfl rfl rfl rfl rfl rfl ?_ | refine zar (fun nb => ?_))
  all_goals refine zch ?_
  all_goals repeat (refine zck ?_)
  obtain ⟨b11, hb11⟩ : ∃ b, b = nb := ⟨_, rfl⟩
  subst hb11
  refine run_bind_eq (l' := [(1, .string store), (6, .pointer (some ⟨b6, 0, none⟩)), (11, .pointer (some ⟨b11, 0, none⟩))])
    (Γ' := [pt fb (.cells (List.toArray (fC m W)) 64 (0, 0)), pt b6 (.cells (List.toArray (efC none 0 0 none 0 0 none 0 0 0)) 30 (0, 0)), pt b11 (.cells (List.toArray [.string n, .int .i64 a, .bool (decide (B4 = true))]) 86 (0, 0))]) ?_ ?_
  · repeat' (first | refine zck ?_ | refine zcp (by kernel_rfl) ?_ | refine zcm ?_ | refine zcl ?_ | refine zcn ?_ | (refine zap rfl ?_; first | refine zan rfl ?_ | refine zan rfl ?_ | refine zab 0 rfl rfl rfl ?_ | refine zao rfl ?_ | refine zbp rfl rfl ?_ | refine zby rfl ?_ | refine zae 0 rfl rfl rfl rfl rfl rfl rfl ?_ | refine zan rfl ?_) | refine zch ?_ | refine run_cond rfl (fun _ => ?_) (fun _ => ?_))
    all_goals refine cut_end ⟨rfl, ⟨rfl, rfl, rfl, trivial⟩, ?_⟩
    all_goals have hWv := hW
    all_goals clear hW hfd hkd hlk hR hWW
    all_goals cases B1
    all_goals cases B2
    all_goals cases B3
    all_goals first | (exfalso; simp_all; done) | (have e : W = w := (by simp_all); rw [e]; rfl) | (have e : W = 16 := (by simp_all); rw [e]; rfl) | (have e : W = 2 := (by simp_all); rw [e]; rfl) | (have e : W = 14 := (by simp_all); rw [e]; rfl)
  · intro junk
    repeat (first | refine zck ?_ | refine zcl ?_ | refine zcm ?_ | refine zcn ?_)
    first | refine zcp (by kernel_rfl) ?_ | refine zcq PP_mixed (by kernel_rfl) (by kernel_rfl) ?_
    repeat' (refine zap rfl ?_; first | refine reg_buildSlice rfl rfl rfl rfl rfl rfl (fun s1 => ?_) | refine zan rfl ?_ | refine zae 4 rfl rfl rfl rfl rfl rfl rfl ?_ | refine zar (fun nb => ?_) | refine zcb rfl ?_)
    all_goals refine zch ?_
    all_goals repeat (first | refine zck ?_ | refine zcl ?_ | refine zcm ?_ | refine zcn ?_)
    repeat (first | refine zck ?_ | refine zcl ?_ | refine zcm ?_ | refine zcn ?_)
    first | refine zcp (by kernel_rfl) ?_ | refine zcq PP_mixed (by kernel_rfl) (by kernel_rfl) ?_
    repeat' (refine zap rfl ?_; first | refine zab 2 rfl rfl rfl ?_ | refine zao rfl ?_)
    all_goals refine zch ?_
    all_goals repeat (first | refine zck ?_ | refine zcl ?_ | refine zcm ?_ | refine zcn ?_)
    refine run_cond rfl (fun hB => ?_) (fun hB => ?_)
    · subst hB
      repeat' (first | refine zck ?_ | refine zcp (by kernel_rfl) ?_ | (refine zap rfl ?_; first | refine reg_buildSlice rfl rfl rfl rfl rfl rfl (fun s2 => ?_) | refine zan rfl ?_ | refine zab 4 rfl rfl rfl ?_ | refine zao rfl ?_ | refine zae 1 rfl rfl rfl rfl rfl rfl rfl ?_ | refine zae 4 rfl rfl rfl rfl rfl rfl rfl ?_) | refine zch ?_)
      refine run_exch 3 (Rds fun bl => RdSl w0 bl encY 1 (.slice (some ⟨s1, 0, none⟩) 1 1) [store]) rfl (fun g hg => Rds.one g hg) rfl ?_
      refine run_exch 5 (Rds fun bl => RdSl w0 bl encY 1 (.slice (some ⟨s2, 0, none⟩) 1 1) [store]) rfl (fun g hg => Rds.one g hg) rfl ?_
      refine run_joinR [3, 4] (χ := fun bl => RdEfV w0 bl (efA (some ⟨s1, 0, none⟩) 1 1 (some ⟨s2, 0, none⟩) 1 1 none 0 0 1) ⟨[store], [store], [], 1⟩) rfl (fun b1 b2 h1 h2 => ⟨_, rfl, _, _, _, rfl, h1.mono fun p hp => List.mem_append_left _ hp, h2.mono fun p hp => List.mem_append_right _ hp, RdSl.nil⟩) ?_
      exact run_ret (leaves_nil (ends_take [0, 0] rfl (ends_one rfl (resOk_pt 2 rfl rfl rfl) ⟨rfl, _, _, _, _, _, _, rfl, rfl⟩)))
    · have hB : B4 = false := by simpa using hB
      subst hB
      repeat' (first | refine zck ?_ | refine zcp (by kernel_rfl) ?_ | refine zcm ?_ | (refine zap rfl ?_; first | refine zab 4 rfl rfl rfl ?_ | refine zae 1 rfl rfl rfl rfl rfl rfl rfl ?_) | refine zch ?_)
      refine run_exch 3 (Rds fun bl => RdEfV w0 bl (efA (some ⟨s1, 0, none⟩) 1 1 none 0 0 none 0 0 1) ⟨[store], [], [], 1⟩) rfl (fun g hg => Rds.mono (fun bl h => ⟨_, rfl, _, _, _, rfl, h, RdSl.nil, RdSl.nil⟩) g (Rds.one (w0 := w0) (s := store) g hg)) rfl ?_
      exact run_ret (leaves_nil (ends_take [3, 0] rfl (ends_one rfl (resOk_pt 1 rfl rfl rfl) ⟨rfl, _, _, _, _, _, _, rfl, rfl⟩)))
end Go.Proofs.YtagmagnkigjggaaGreatDoor

namespace Go.Vc
open Sim
abbrev P6 : Type := (Option Addr × Nat) × (Option Addr × Nat) × (Option Addr × Nat)
abbrev efL (p : P6) (e : Ef) : List Value := [.slice p.1.1 e.reads.length p.1.2, .slice p.2.1.1 e.writes.length p.2.1.2, .slice p.2.2.1 e.hosts.length p.2.2.2, .int .i64 e.calls]
abbrev efV (p : P6) (e : Ef) : Value := .agg (List.toArray (efL p e))
abbrev rdV (w0 : World) (v : Value) (e : Ef) : Asn := Rds fun bl => RdEfV w0 bl v e
abbrev p0 : P6 := ((none, 0), (none, 0), (none, 0))
theorem EfR.p {w0 : World} {e : Ef} {L : List Asn} {v : Value} {Γ : List Asn} (h : EfR w0 e L v Γ) : ∃ p : P6, v = efV p e ∧ Γ = rdV w0 (efV p e) e :: L := by
  obtain ⟨x1, y1, x2, y2, x3, y3, h1, h2⟩ := h
  refine ⟨((x1, y1), (x2, y2), (x3, y3)), h1, ?_⟩
  rw [h2, h1]
theorem EfR.of {w0 : World} {e : Ef} {L : List Asn} (p : P6) : EfR w0 e L (efV p e) (rdV w0 (efV p e) e :: L) := ⟨_, _, _, _, _, _, rfl, rfl⟩
end Go.Vc
namespace Go.Proofs.YtagmagnkigjggaaGreatDoor
open Go.Vc Sim
abbrev fPt (fb m : Nat) (w : Int) : Asn := pt fb (.cells (List.toArray (fC m w)) 64 (0, 0))
abbrev ePt (b : Nat) (p : P6) (e : Ef) : Asn := pt b (.cells (List.toArray (efL p e)) 30 (0, 0))
abbrev fpC (fp fb : Nat) : Nat × Obj := (fp, .cells (List.toArray [.pointer (some ⟨fb, 0, none⟩)]) 61 (0, 0))
theorem join_p (w0 : World) (sh : Shared) (p q : P6) (a b : Ef) (sa : a.sm 30000) (sb : b.sm 30000) :
    Vc.Fn PP w0 sh 29 [efV p a, efV q b] [rdV w0 (efV p a) a, rdV w0 (efV q b) b] (fun v Γ => ∃ r : P6, v = efV r (joinE a b) ∧ Γ = [rdV w0 (efV r (joinE a b)) (joinE a b), rdV w0 (efV q b) b, rdV w0 (efV p a) a]) :=
  (join_own w0 sh _ _ a b sa sb).mono fun _ _ h => h.p
def ESpec (w0 : World) (ks : List (ByteArray × ByteArray)) (n : Nat) : Prop := ∀ (sh : Shared) (m fb : Nat) (w : Int) (e : PE) (va vo : Value), e.size ≤ n → RdEl w0 sh va e.args → RdEl w0 sh vo e.or → RdM w0 sh m (kS ks) →
  Vc.Fn PP w0 sh 45 [.pointer (some ⟨fb, 0, none⟩), .agg (List.toArray (peC e.kind e.num e.name e.meth va vo))] [fPt fb m w]
    (fun v Γ => ∃ p : P6, v = efV p (exprE ks e w).1 ∧ Γ = [rdV w0 (efV p (exprE ks e w).1) (exprE ks e w).1, fPt fb m (exprE ks e w).2])
set_option maxHeartbeats 2000000 in
theorem exprs_of (w0 : World) (ks : List (ByteArray × ByteArray)) (n : Nat) (hE : ESpec w0 ks n) (sh : Shared) (m fb fp ob : Nat) (w : Int) (vl : Value) (l : List PE) (p : P6) (out : Ef) (hl : RdEl w0 sh vl l) (hn : ∀ x ∈ l, x.size ≤ n) (hR : RdM w0 sh m (kS ks))
    (N : Nat) (hN : N + PE.sizeL l ≤ 30000) (ho : out.sm N) :
    Vc.Fn PP w0 (fpC fp fb :: sh) 59 [vl, .pointer (some ⟨ob, 0, none⟩), .pointer (some ⟨fp, 0, none⟩)] [ePt ob p out, rdV w0 (efV p out) out, fPt fb m w]
      (fun v Γ => v = .tuple #[] ∧ ∃ q : P6, Γ = [ePt ob q (exprEs ks l out w).1, rdV w0 (efV q (exprEs ks l out w).1) (exprEs ks l out w).1, fPt fb m (exprEs ks l out w).2]) := by
  obtain ⟨a, c, hv, _⟩ := hl.len
  subst hv
  have hlen := PE.sizeL_len l
  refine fn_of_run en59 fn59 rfl rfl rfl ?_
  repeat' (first | refine zck ?_ | refine zcp (by kernel_rfl) ?_ | refine zcl ?_ | (refine zap rfl ?_; first | refine zan rfl ?_ | refine zce rfl ?_) | refine zch ?_)
  refine run_loop (S := Nat × P6 × Ef × Int) (fun s => [(1, .pointer (some ⟨ob, 0, none⟩)), (2, .pointer (some ⟨fp, 0, none⟩)), (6, .slice a l.length c), (7, .int .i64 l.length), (8, .int .i64 s.1)])
    (fun s Γ => Γ = [ePt ob s.2.1 s.2.2.1, rdV w0 (efV s.2.1 s.2.2.1) s.2.2.1, fPt fb m s.2.2.2] ∧ s.1 ≤ l.length ∧ exprEs ks (l.drop s.1) s.2.2.1 s.2.2.2 = exprEs ks l out w ∧ ∃ M, s.2.2.1.sm M ∧ M + PE.sizeL (l.drop s.1) ≤ 30000) (fun s => l.length - s.1) (0, p, out, w)
    ⟨rfl, rfl, rfl, rfl, rfl, trivial⟩ ⟨rfl, Nat.zero_le _, rfl, N, ho, hN⟩ ?_
  rintro ⟨j, q, o, u⟩ Γ junk ⟨rfl, g1, g2, M, g3, g4⟩
  dsimp only at g1 g2 g3 g4 ⊢
  by_cases hj : j < l.length
  · obtain ⟨x, hx⟩ : ∃ x, l[j]? = some x := ⟨_, List.getElem?_eq_getElem hj⟩
    obtain ⟨b, off, cc, T, fr, cs, rfl, e2, e3, e4, _⟩ := hl.at hx
    obtain ⟨va, vo, rfl, r1, r2⟩ := e4.cs
    have hxn := hn x (List.mem_iff_getElem?.2 ⟨_, hx⟩)
    obtain ⟨a3, c3, hv3, _⟩ := id r1.len
    obtain ⟨a4, c4, hv4, _⟩ := id r2.len
    subst hv3
    subst hv4
    have hd : l.drop j = x :: l.drop (j + 1) := by
      rw [List.drop_eq_getElem_cons hj]
      congr 1
      exact (List.getElem?_eq_some_iff.1 hx).2
    rw [hd, PE.sizeL] at g4
    have hsx := exprE_sm ks x u
    have hcall := hE sh m fb u x _ _ hxn r1 r2 hR
    have hjoin := fun q' => join_p w0 [] q q' o (exprE ks x u).1 (g3.mono (by omega)) (hsx.mono (by omega))
    rw [exprEs_drop hx] at g2
    have hnext : (joinE o (exprE ks x u).1).sm (M + x.size) := joinE_sm g3 hsx
    repeat (first | refine zck ?_ | refine zcl ?_ | refine zcm ?_ | refine zcn ?_)
    first | refine zcp (by kernel_rfl) ?_ | refine zcq PP_mixed (by kernel_rfl) (by kernel_rfl) ?_
    repeat' (refine zap rfl ?_; first | refine zbg rfl rfl (by omega) ?_)
    all_goals refine zch ?_
    all_goals repeat (first | refine zck ?_ | refine zcl ?_ | refine zcm ?_ | refine zcn ?_)
    refine zci rfl ?_
    repeat (first | refine zck ?_ | refine zcl ?_ | refine zcm ?_ | refine zcn ?_)
    first | refine zcp (by kernel_rfl) ?_ | refine zcq PP_mixed (by kernel_rfl) (by kernel_rfl) ?_
    repeat' (refine zap rfl ?_; first | refine zad rfl (fun hF Γ w h1 h2 => e2 hF Γ w (fun p hp => h1 p (by simp [hp])) h2) (e3 _ (by omega)) ?_ | refine zae 3 rfl rfl rfl rfl rfl rfl rfl ?_ | refine zas rfl rfl (by omega) ?_ | refine zar (fun nb => ?_))
    all_goals refine zch ?_
    all_goals repeat (first | refine zck ?_ | refine zcl ?_ | refine zcm ?_ | refine zcn ?_)
    refine run_share [3] rfl ?_
    repeat (first | refine zck ?_ | refine zcl ?_ | refine zcm ?_ | refine zcn ?_)
    refine run_drawT [0] [(.quiet, 0), (.quiet, 1), (.quiet, 2), (.loud, 3), (.loud, 4)] [(.loud, 5)] PP_mixed (by kernel_rfl) (by kernel_rfl) rfl ?_
    repeat' (refine zap rfl ?_; first | refine zaa 0 rfl rfl rfl ?_ | refine zaa 1 rfl rfl rfl ?_ | refine zaa 2 rfl rfl rfl ?_ | (refine zai [1] hcall rfl rfl rfl (fun p hp => by simp [hp]) ?_; rintro v Γ ⟨q', rfl, rfl⟩) | (refine zai [2, 0] (hjoin _) rfl rfl rfl sub_nil ?_; rintro v Γ ⟨r, rfl, rfl⟩) | refine zce rfl ?_ | refine reg_addZ rfl rfl (by omega) ?_ | refine zau rfl rfl (by omega) ?_ | refine zbq rfl rfl ?_)
    all_goals refine reg_turn ?_
    all_goals repeat' (refine zap rfl ?_; first | refine zan rfl ?_ | (refine zai [1] hcall rfl rfl rfl (fun p hp => by simp [hp]) ?_; rintro v Γ ⟨q', rfl, rfl⟩) | (refine zai [2, 0] (hjoin _) rfl rfl rfl sub_nil ?_; rintro v Γ ⟨r, rfl, rfl⟩) | refine zce rfl ?_ | refine zae 0 rfl rfl rfl rfl rfl rfl rfl ?_)
    all_goals refine zch ?_
    all_goals repeat (first | refine zck ?_ | refine zcl ?_ | refine zcm ?_ | refine zcn ?_)
    refine run_take [0, 0, 2] rfl ?_
    repeat' (first | refine zcp (by kernel_rfl) ?_ | (refine zap rfl ?_; first | refine zan rfl ?_ | refine zau rfl rfl (by omega) ?_) | refine zch ?_)
    exact cut_end ⟨rfl, (j + 1, r, joinE o (exprE ks x u).1, (exprE ks x u).2), ⟨rfl, rfl, rfl, rfl, int_eq (by dsimp only; omega), trivial⟩, ⟨rfl, by dsimp only; omega, g2, _, hnext, by dsimp only; omega⟩, by dsimp only; omega⟩
  · rw [List.drop_of_length_le (by omega), exprEs] at g2
    repeat' (first | refine zck ?_ | refine zcp (by kernel_rfl) ?_ | (refine zap rfl ?_; first | refine zbh rfl rfl (by omega) ?_) | refine zch ?_ | refine zcj rfl ?_)
    refine cut_exit rfl rfl ?_
    repeat' (first | refine zck ?_ | (refine zap rfl ?_; first | refine zan rfl ?_) | refine zch ?_)
    rw [← g2]
    exact end_tmp0 rfl ⟨rfl, q, rfl⟩
end Go.Proofs.YtagmagnkigjggaaGreatDoor

namespace Go.Proofs.YtagmagnkigjggaaGreatDoor
open Go.Vc Sim
set_option maxHeartbeats 4000000 in
theorem expr_step (w0 : World) (ks : List (ByteArray × ByteArray)) (n : Nat) (hn : n ≤ 10000) (hE : ESpec w0 ks n) : ESpec w0 ks (n + 1) := by
  intro sh m fb w e va vo hs ha ho hR
  have h1 := e.size_eq
  have h2 := fun (x : PE) (h : x ∈ e.args) => PE.size_args h
  have h3 := fun (x : PE) (h : x ∈ e.or) => PE.size_or h
  obtain ⟨a1, c1, hva, _⟩ := id ha.len
  obtain ⟨a2, c2, hvo, _⟩ := id ho.len
  subst hva; subst hvo
  have s1 := exprEs_sm ks e.args zeroE w 0 (zeroE_sm 0)
  have s2 := exprEs_sm ks e.or _ (exprEs ks e.args zeroE w).2 _ s1
  have k1 := fun fp ob => exprs_of w0 ks n hE sh m fb fp ob w _ e.args p0 zeroE ha (fun x h => by have := h2 x h; omega) hR 0 (by omega) (zeroE_sm 0)
  have k2 := fun fp ob q => exprs_of w0 ks n hE sh m fb fp ob (exprEs ks e.args zeroE w).2 _ e.or q (exprEs ks e.args zeroE w).1 ho (fun x h => by have := h3 x h; omega) hR _ (by omega) s1
  have hx := exprE_eq ks e w
  generalize exprEs ks e.args zeroE w = O1 at *
  generalize hO2 : exprEs ks e.or O1.1 O1.2 = O2 at *
  rw [hx]
  dsimp only
  have hsm : O2.1.sm 20000 := s2.mono (by omega)
  refine fn_of_run en45 fn45 rfl rfl rfl ?_
  repeat (first | refine zck ?_ | refine zcl ?_ | refine zcm ?_ | refine zcn ?_)
  first | refine zcp (by kernel_rfl) ?_ | refine zcq PP_mixed (by kernel_rfl) (by kernel_rfl) ?_
  repeat' (refine zap rfl ?_; first | refine zaq (cs := [_]) rfl (fun nb => ?_) | refine zaq (cs := [_, _, _, _, _, _]) rfl (fun nb => ?_) | refine zar (fun nb => ?_))
  all_goals refine zch ?_
  all_goals repeat (first | refine zck ?_ | refine zcl ?_ | refine zcm ?_ | refine zcn ?_)
  refine run_share [1] rfl ?_
  refine run_share [1] rfl ?_
  obtain ⟨b4, hb4⟩ : ∃ b, b = nb := ⟨_, rfl⟩
  subst hb4
  repeat (first | refine zck ?_ | refine zcl ?_ | refine zcm ?_ | refine zcn ?_)
  first | refine zcp (by kernel_rfl) ?_ | refine zcq PP_mixed (by kernel_rfl) (by kernel_rfl) ?_
  repeat' (refine zap rfl ?_; first | refine zar (fun nb => ?_))
  all_goals refine zch ?_
  all_goals repeat (first | refine zck ?_ | refine zcl ?_ | refine zcm ?_ | refine zcn ?_)
  obtain ⟨b5, hb5⟩ : ∃ b, b = nb := ⟨_, rfl⟩
  subst hb5
  refine run_emptyR (fun bl => RdEfV w0 bl (efV p0 zeroE) zeroE) RdEfV.zero ?_
  repeat (first | refine zck ?_ | refine zcl ?_ | refine zcm ?_ | refine zcn ?_)
  first | refine zcp (by kernel_rfl) ?_ | refine zcq PP_mixed (by kernel_rfl) (by kernel_rfl) ?_
  repeat' (refine zap rfl ?_; first | refine zan rfl ?_)
  all_goals refine zch ?_
  all_goals repeat (first | refine zck ?_ | refine zcl ?_ | refine zcm ?_ | refine zcn ?_)
  repeat (first | refine zck ?_ | refine zcl ?_ | refine zcm ?_ | refine zcn ?_)
  first | refine zcp (by kernel_rfl) ?_ | refine zcq PP_mixed (by kernel_rfl) (by kernel_rfl) ?_
  repeat' (refine zap rfl ?_; first | refine zan rfl ?_ | refine zan rfl ?_)
  all_goals refine zch ?_
  all_goals repeat (first | refine zck ?_ | refine zcl ?_ | refine zcm ?_ | refine zcn ?_)
  repeat (first | refine zck ?_ | refine zcl ?_ | refine zcm ?_ | refine zcn ?_)
  first | refine zcp (by kernel_rfl) ?_ | refine zcq PP_mixed (by kernel_rfl) (by kernel_rfl) ?_
  repeat' (refine zap rfl ?_; first | refine zan rfl ?_ | refine zaa 0 rfl rfl rfl ?_ | (refine zai [3, 0, 0] (k1 _ b5) rfl rfl rfl (fun p hp => List.mem_cons_of_mem _ hp) ?_; rintro v Γ ⟨rfl, q1, rfl⟩) | refine zao rfl ?_)
  all_goals refine zch ?_
  all_goals repeat (first | refine zck ?_ | refine zcl ?_ | refine zcm ?_ | refine zcn ?_)
  repeat (first | refine zck ?_ | refine zcl ?_ | refine zcm ?_ | refine zcn ?_)
  first | refine zcp (by kernel_rfl) ?_ | refine zcq PP_mixed (by kernel_rfl) (by kernel_rfl) ?_
  repeat' (refine zap rfl ?_; first | refine zan rfl ?_ | refine zaa 0 rfl rfl rfl ?_ | (refine zai [0, 0, 0] (k2 _ b5 q1) rfl rfl rfl (fun p hp => List.mem_cons_of_mem _ hp) ?_; rintro v Γ ⟨rfl, q2, rfl⟩) | refine zao rfl ?_)
  all_goals refine zch ?_
  all_goals repeat (first | refine zck ?_ | refine zcl ?_ | refine zcm ?_ | refine zcn ?_)
  by_cases h6 : e.kind = 6
  · have hc := call_spec w0 sh fb m ks O2.2 e.name e.meth hR
    have hj := fun q => join_p w0 [] q2 q O2.1 (callE ks e.name e.meth) (hsm.mono (by omega)) ((callE_sm ks e.name e.meth).mono (by omega))
    unfold nodeE nodeW
    rw [if_pos h6, if_pos h6]
    repeat (first | refine zck ?_ | refine zcl ?_ | refine zcm ?_ | refine zcn ?_)
    first | refine zcp (by kernel_rfl) ?_ | refine zcq PP_mixed (by kernel_rfl) (by kernel_rfl) ?_
    repeat' (refine zap rfl ?_; first | refine zaa 0 rfl rfl rfl ?_ | refine zao rfl ?_)
    all_goals refine zch ?_
    all_goals repeat (first | refine zck ?_ | refine zcl ?_ | refine zcm ?_ | refine zcn ?_)
    repeat (first | refine zck ?_ | refine zcl ?_ | refine zcm ?_ | refine zcn ?_)
    first | refine zcp (by kernel_rfl) ?_ | refine zcq PP_mixed (by kernel_rfl) (by kernel_rfl) ?_
    repeat' (refine zap rfl ?_; first | refine zan rfl ?_ | refine zbc rfl rfl (by omega) ?_)
    all_goals refine zch ?_
    all_goals repeat (first | refine zck ?_ | refine zcl ?_ | refine zcm ?_ | refine zcn ?_)
    refine zci rfl ?_
    repeat (first | refine zck ?_ | refine zcl ?_ | refine zcm ?_ | refine zcn ?_)
    refine run_drawT [0] [(.quiet, 0), (.quiet, 1), (.quiet, 2), (.quiet, 3), (.quiet, 4), (.quiet, 5), (.loud, 6), (.loud, 7)] [(.loud, 8)] PP_mixed (by kernel_rfl) (by kernel_rfl) rfl ?_
    repeat' (refine zap rfl ?_; first | refine zaa 0 rfl rfl rfl ?_ | refine zaa 1 rfl rfl rfl ?_ | refine zaa 2 rfl rfl rfl ?_ | (refine zai [1] hc rfl rfl rfl (fun p hp => by simp [hp]) ?_; rintro v Γ hh; obtain ⟨q3, rfl, rfl⟩ := hh.p) | (refine zai [2, 0] (hj _) rfl rfl rfl sub_nil ?_; rintro v Γ ⟨r, rfl, rfl⟩) | refine zao rfl ?_)
    all_goals refine reg_turn ?_
    all_goals repeat' (refine zap rfl ?_; first | refine zan rfl ?_ | (refine zai [1] hc rfl rfl rfl (fun p hp => by simp [hp]) ?_; rintro v Γ hh; obtain ⟨q3, rfl, rfl⟩ := hh.p) | (refine zai [2, 0] (hj _) rfl rfl rfl sub_nil ?_; rintro v Γ ⟨r, rfl, rfl⟩) | refine zae 5 rfl rfl rfl rfl rfl rfl rfl ?_)
    all_goals refine zch ?_
    all_goals repeat (first | refine zck ?_ | refine zcl ?_ | refine zcm ?_ | refine zcn ?_)
    exact run_ret (leaves_nil (ends_take [1, 3] rfl (ends_one rfl (resOk_pt 5 rfl rfl rfl) ⟨rfl, r, rfl, rfl⟩)))
  by_cases h7 : e.kind = 7
  · have hj := fun (s : Nat) (sh1 : Shared) (h : RdEfV w0 sh1 (efV q2 O2.1) O2.1) => (join_form w0 ((s, Obj.cells (List.toArray [Value.string e.name]) 9 (0, 0)) :: sh1) (efV q2 O2.1) (efA none 0 0 none 0 0 (some ⟨s, 0, none⟩) 1 1 0) O2.1 ⟨[], [], [e.name], 0⟩ (h.mono fun p hp => List.mem_cons_of_mem _ hp)
      ⟨_, rfl, _, _, _, rfl, RdSl.nil, RdSl.nil, RdSl.flat (encE := encY) (q := 1) (w0 := w0) (b := s) (l := [e.name]) (fun _ _ => rfl) (.head _)⟩ (hsm.mono (by omega)) ⟨Nat.zero_le _, Nat.zero_le _, by simp⟩).owned
    have hj2 := fun s => Fn.lendR (sh := []) (φ := fun bl => RdEfV w0 bl (efV q2 O2.1) O2.1) en29 (fun sh1 bl h1 h2 h3 => hj s sh1 (h3.mono h2))
    unfold nodeE nodeW
    rw [if_neg h6, if_neg h6, if_pos h7]
    repeat' (first | refine zck ?_ | refine zcp (by kernel_rfl) ?_ | refine zcl ?_ | (refine zap rfl ?_; first | refine reg_buildSlice rfl rfl rfl rfl rfl rfl (fun s1 => ?_) | refine zan rfl ?_ | refine zaa 0 rfl rfl rfl ?_ | refine zab 0 rfl rfl rfl ?_ | (refine zai [1, 3] (hj2 _) rfl rfl rfl sub_nil ?_; rintro v Γ ⟨_, ⟨_, ⟨x1, y1, x2, y2, x3, y3, rfl, rfl⟩, rfl⟩, rfl⟩) | refine zao rfl ?_ | refine zbc rfl rfl (by omega) ?_ | refine zbd rfl rfl (by omega) ?_ | refine zae 5 rfl rfl rfl rfl rfl rfl rfl ?_ | refine zcb rfl ?_) | refine zch ?_ | refine zci rfl ?_ | refine zcj rfl ?_)
    exact run_ret (leaves_nil (ends_take [0, 3] rfl (ends_one rfl (resOk_pt 5 rfl rfl rfl) ⟨rfl, ((x1, y1), (x2, y2), (x3, y3)), rfl, rfl⟩)))
  · unfold nodeE nodeW
    rw [if_neg h6, if_neg h6, if_neg h7]
    repeat' (first | refine zck ?_ | refine zcp (by kernel_rfl) ?_ | refine zcm ?_ | refine zcl ?_ | refine zcn ?_ | (refine zap rfl ?_; first | refine zan rfl ?_ | refine zaa 0 rfl rfl rfl ?_ | refine zab 0 rfl rfl rfl ?_ | refine zao rfl ?_ | refine zbd rfl rfl (by omega) ?_ | refine zae 3 rfl rfl rfl rfl rfl rfl rfl ?_) | refine zch ?_ | refine zcj rfl ?_)
    exact run_ret (leaves_nil (ends_take [1, 1] rfl (ends_one rfl (resOk_pt 3 rfl rfl rfl) ⟨rfl, q2, rfl, rfl⟩)))
theorem expr_spec (w0 : World) (ks : List (ByteArray × ByteArray)) : ∀ n, n ≤ 10000 → ESpec w0 ks n
  | 0, _ => fun sh m fb w e va vo h => by have := e.size_pos; omega
  | n + 1, hn => expr_step w0 ks n (by omega) (expr_spec w0 ks n (by omega))
end Go.Proofs.YtagmagnkigjggaaGreatDoor

namespace Sim
theorem wrongS_zero {s : PS} {d : Int} (h : wrongS s d = 0) : wrongS0 s d = 0 ∧ wrongSs s.body (d + 1) = 0 ∧ wrongSs s.els (d + 1) = 0 := by
  rw [wrongS_eq] at h
  by_cases h1 : wrongS0 s d = 0
  · rw [if_neg (by omega)] at h
    by_cases h2 : wrongSs s.body (d + 1) = 0
    · rw [if_neg (by omega)] at h; exact ⟨h1, h2, h⟩
    · rw [if_pos h2] at h; exact absurd h h2
  · rw [if_pos h1] at h; exact absurd h h1
theorem wrongS0_num {s : PS} {d : Int} (h : wrongS0 s d = 0) (hk : s.kind = 4) : 0 ≤ s.num ∧ s.num ≤ 64 := by
  unfold wrongS0 at h
  by_cases h1 : 12 < d
  · rw [if_pos h1] at h; omega
  rw [if_neg h1, if_neg (by omega)] at h
  by_cases h2 : formS s = false
  · rw [if_pos h2] at h; omega
  rw [if_neg h2] at h
  split at h
  · omega
  · split at h
    · omega
    · rename_i h3
      simp [hk] at h3
      omega
theorem wrongSs_mem {d : Int} : ∀ {l : List PS}, wrongSs l d = 0 → ∀ x ∈ l, wrongS x d = 0
  | [], _, x, hx => by simp at hx
  | s :: l, h, x, hx => by
    rw [wrongSs] at h
    by_cases h1 : wrongS s d = 0
    · rw [if_neg (by omega)] at h
      rcases List.mem_cons.1 hx with rfl | hx
      · exact h1
      · exact wrongSs_mem h x hx
    · rw [if_pos h1] at h; exact absurd h h1
end Sim
namespace Go.Proofs.YtagmagnkigjggaaGreatDoor
open Go.Vc Sim
theorem times_p (w0 : World) (sh : Shared) (p : P6) (a : Ef) (n : Int) (sa : a.sm 30000) (hn : n ≤ 9223372036854775807) :
    Vc.Fn PP w0 sh 46 [efV p a, .int .i64 n] [rdV w0 (efV p a) a] (fun v Γ => ∃ r : P6, v = efV r (timesE a n) ∧ Γ = [rdV w0 (efV r (timesE a n)) (timesE a n), rdV w0 (efV p a) a]) := by
  refine (Fn.lendR (φ := fun bl => RdEfV w0 bl (efV p a) a) en46 (fun sh1 bl1 h1 h2 h3 => times_spec w0 sh1 (efV p a) a n (h3.mono h2) sa hn)).know ?_
  rintro v Γ ⟨_, rfl, rfl⟩ hst
  obtain ⟨bl, hbl⟩ := Rds.st hst
  obtain ⟨x1, y1, x2, y2, x3, y3, h⟩ := hbl.form
  refine ⟨((x1, y1), (x2, y2), (x3, y3)), h, ?_⟩
  rw [h]; rfl
def TSpec (w0 : World) (ks : List (ByteArray × ByteArray)) (n : Nat) : Prop := ∀ (sh : Shared) (m fb : Nat) (w : Int) (s : PS) (va vo vb ve : Value) (d : Int), s.size ≤ n → RdSp w0 sh s va vo vb ve → RdM w0 sh m (kS ks) → wrongS s d = 0 →
  Vc.Fn PP w0 sh 30 [.pointer (some ⟨fb, 0, none⟩), .agg (List.toArray (psC s va vo vb ve))] [fPt fb m w]
    (fun v Γ => ∃ p : P6, v = efV p (stmtE ks s w).1 ∧ Γ = [rdV w0 (efV p (stmtE ks s w).1) (stmtE ks s w).1, fPt fb m (stmtE ks s w).2])
def ASpec (w0 : World) (ks : List (ByteArray × ByteArray)) (n : Nat) : Prop := ∀ (sh : Shared) (m fb : Nat) (w : Int) (v : Value) (l : List PS) (d : Int), PS.sizeL l ≤ n → RdSt w0 sh v l → RdM w0 sh m (kS ks) → wrongSs l d = 0 →
  Vc.Fn PP w0 sh 15 [.pointer (some ⟨fb, 0, none⟩), v] [fPt fb m w]
    (fun v Γ => ∃ p : P6, v = efV p (stmtEs ks l zeroE w).1 ∧ Γ = [rdV w0 (efV p (stmtEs ks l zeroE w).1) (stmtEs ks l zeroE w).1, fPt fb m (stmtEs ks l zeroE w).2])
set_option maxHeartbeats 2000000 in
theorem all_of (w0 : World) (ks : List (ByteArray × ByteArray)) (n : Nat) (hn : n ≤ 10000) (hT : TSpec w0 ks n) : ASpec w0 ks n := by
  intro sh m fb w v l d hl hr hR hwd
  obtain ⟨a, c, hv, _⟩ := hr.len
  subst hv
  have hlen := PS.sizeL_len l
  refine fn_of_run en15 fn15 rfl rfl rfl ?_
  repeat (first | refine zck ?_ | refine zcl ?_ | refine zcm ?_ | refine zcn ?_)
  first | refine zcp (by kernel_rfl) ?_ | refine zcq PP_mixed (by kernel_rfl) (by kernel_rfl) ?_
  repeat' (refine zap rfl ?_; first | refine zar (fun nb => ?_))
  all_goals refine zch ?_
  all_goals repeat (first | refine zck ?_ | refine zcl ?_ | refine zcm ?_ | refine zcn ?_)
  obtain ⟨b4, hb4⟩ : ∃ b, b = nb := ⟨_, rfl⟩
  subst hb4
  repeat (first | refine zck ?_ | refine zcl ?_ | refine zcm ?_ | refine zcn ?_)
  first | refine zcp (by kernel_rfl) ?_ | refine zcq PP_mixed (by kernel_rfl) (by kernel_rfl) ?_
  repeat' (refine zap rfl ?_; first | refine zar (fun nb => ?_))
  all_goals refine zch ?_
  all_goals repeat (first | refine zck ?_ | refine zcl ?_ | refine zcm ?_ | refine zcn ?_)
  obtain ⟨ob, hob⟩ : ∃ b, b = nb := ⟨_, rfl⟩
  subst hob
  refine run_emptyR (fun bl => RdEfV w0 bl (efV p0 zeroE) zeroE) RdEfV.zero ?_
  refine run_take [3, 0, 0, 0] rfl ?_
  repeat' (first | refine zcp (by kernel_rfl) ?_ | refine zcl ?_ | (refine zap rfl ?_; first | refine zan rfl ?_ | refine zce rfl ?_) | refine zch ?_)
  refine run_loop (S := Nat × P6 × Ef × Int) (fun s => [(0, .pointer (some ⟨fb, 0, none⟩)), (4, .pointer (some ⟨b4, 0, none⟩)), (5, .pointer (some ⟨ob, 0, none⟩)), (8, .slice a l.length c), (9, .int .i64 l.length), (10, .int .i64 s.1)])
    (fun s Γ => Γ = [ePt ob s.2.1 s.2.2.1, rdV w0 (efV s.2.1 s.2.2.1) s.2.2.1, fPt fb m s.2.2.2, ePt b4 p0 zeroE] ∧ s.1 ≤ l.length ∧ stmtEs ks (l.drop s.1) s.2.2.1 s.2.2.2 = stmtEs ks l zeroE w ∧ ∃ M, s.2.2.1.sm M ∧ M + PS.sizeL (l.drop s.1) ≤ 20000) (fun s => l.length - s.1) (0, p0, zeroE, w)
    ⟨rfl, rfl, rfl, rfl, rfl, rfl, trivial⟩ ⟨rfl, Nat.zero_le _, rfl, 0, zeroE_sm 0, by rw [List.drop_zero]; omega⟩ ?_
  rintro ⟨j, q, o, u⟩ Γ junk ⟨rfl, g1, g2, M, g3, g4⟩
  dsimp only at g1 g2 g3 g4 ⊢
  by_cases hj : j < l.length
  · obtain ⟨x, hx⟩ : ∃ x, l[j]? = some x := ⟨_, List.getElem?_eq_getElem hj⟩
    obtain ⟨b, off, cc, T, fr, cs, rfl, e2, e3, e4, _⟩ := hr.at hx
    obtain ⟨va, vo, vb, ve, rfl, hsp⟩ := e4.sp
    have hxm := List.mem_iff_getElem?.2 ⟨_, hx⟩
    have hxn := PS.sizeL_mem hxm
    obtain ⟨a1, c1, hva, _⟩ := hsp.a.len
    obtain ⟨a2, c2, hvo, _⟩ := hsp.o.len
    obtain ⟨a3, c3, hvb, _⟩ := hsp.b.len
    obtain ⟨a4, c4, hve, _⟩ := hsp.e.len
    subst hva; subst hvo; subst hvb; subst hve
    have hd : l.drop j = x :: l.drop (j + 1) := by
      rw [List.drop_eq_getElem_cons hj]
      congr 1
      exact (List.getElem?_eq_some_iff.1 hx).2
    rw [hd, PS.sizeL] at g4
    have hsx := stmtE_sm ks x u
    have hcall := hT sh m fb u x _ _ _ _ d (by omega) hsp hR (wrongSs_mem hwd x hxm)
    have hjoin := fun q' => join_p w0 [] q q' o (stmtE ks x u).1 (g3.mono (by omega)) (hsx.mono (by omega))
    rw [stmtEs_drop hx] at g2
    have hnext : (joinE o (stmtE ks x u).1).sm (M + x.size) := joinE_sm g3 hsx
    repeat (first | refine zck ?_ | refine zcl ?_ | refine zcm ?_ | refine zcn ?_)
    first | refine zcp (by kernel_rfl) ?_ | refine zcq PP_mixed (by kernel_rfl) (by kernel_rfl) ?_
    repeat' (refine zap rfl ?_; first | refine zbg rfl rfl (by omega) ?_)
    all_goals refine zch ?_
    all_goals repeat (first | refine zck ?_ | refine zcl ?_ | refine zcm ?_ | refine zcn ?_)
    refine zci rfl ?_
    repeat (first | refine zck ?_ | refine zcl ?_ | refine zcm ?_ | refine zcn ?_)
    first | refine zcp (by kernel_rfl) ?_ | refine zcq PP_mixed (by kernel_rfl) (by kernel_rfl) ?_
    repeat' (refine zap rfl ?_; first | refine zad rfl e2 (e3 _ (by omega)) ?_ | refine zae 4 rfl rfl rfl rfl rfl rfl rfl ?_ | refine zas rfl rfl (by omega) ?_ | refine zar (fun nb => ?_))
    all_goals refine zch ?_
    all_goals repeat (first | refine zck ?_ | refine zcl ?_ | refine zcm ?_ | refine zcn ?_)
    refine run_share [4] rfl ?_
    repeat (first | refine zck ?_ | refine zcl ?_ | refine zcm ?_ | refine zcn ?_)
    refine run_drawT [0] [(.quiet, 0), (.quiet, 1), (.quiet, 2), (.loud, 3), (.loud, 4)] [(.loud, 5)] PP_mixed (by kernel_rfl) (by kernel_rfl) rfl ?_
    repeat' (refine zap rfl ?_; first | refine zan rfl ?_ | refine zaa 0 rfl rfl rfl ?_ | refine zaa 1 rfl rfl rfl ?_ | (refine zai [1] hcall rfl rfl rfl (fun p hp => by simp [hp]) ?_; rintro v Γ ⟨q', rfl, rfl⟩) | (refine zai [2, 0] (hjoin _) rfl rfl rfl sub_nil ?_; rintro v Γ ⟨r, rfl, rfl⟩) | refine zce rfl ?_ | refine reg_addZ rfl rfl (by omega) ?_ | refine zau rfl rfl (by omega) ?_ | refine zbq rfl rfl ?_)
    all_goals refine reg_turn ?_
    all_goals repeat' (refine zap rfl ?_; first | refine zan rfl ?_ | (refine zai [1] hcall rfl rfl rfl (fun p hp => by simp [hp]) ?_; rintro v Γ ⟨q', rfl, rfl⟩) | (refine zai [2, 0] (hjoin _) rfl rfl rfl sub_nil ?_; rintro v Γ ⟨r, rfl, rfl⟩) | refine zce rfl ?_ | refine zae 0 rfl rfl rfl rfl rfl rfl rfl ?_)
    all_goals refine zch ?_
    all_goals repeat (first | refine zck ?_ | refine zcl ?_ | refine zcm ?_ | refine zcn ?_)
    refine run_take [0, 0, 2, 2] rfl ?_
    repeat' (first | refine zcp (by kernel_rfl) ?_ | (refine zap rfl ?_; first | refine zan rfl ?_ | refine zau rfl rfl (by omega) ?_) | refine zch ?_)
    exact cut_end ⟨rfl, (j + 1, r, joinE o (stmtE ks x u).1, (stmtE ks x u).2), ⟨rfl, rfl, rfl, rfl, rfl, int_eq (by dsimp only; omega), trivial⟩, ⟨rfl, by dsimp only; omega, g2, _, hnext, by dsimp only; omega⟩, by dsimp only; omega⟩
  · rw [List.drop_of_length_le (by omega), stmtEs] at g2
    repeat' (first | refine zck ?_ | refine zcp (by kernel_rfl) ?_ | (refine zap rfl ?_; first | refine zbh rfl rfl (by omega) ?_) | refine zch ?_ | refine zcj rfl ?_)
    refine cut_exit rfl rfl ?_
    rw [← g2]
    repeat' (first | refine zck ?_ | refine zcp (by kernel_rfl) ?_ | (refine zap rfl ?_; first | refine zab 0 rfl rfl rfl ?_ | refine zae 3 rfl rfl rfl rfl rfl rfl rfl ?_) | refine zch ?_)
    exact run_ret (leaves_nil (ends_take [1, 1] rfl (ends_one rfl (resOk_pt 3 rfl rfl rfl) ⟨rfl, q, rfl, rfl⟩)))
end Go.Proofs.YtagmagnkigjggaaGreatDoor

namespace Go.Proofs.YtagmagnkigjggaaGreatDoor
open Go.Vc Sim
set_option maxHeartbeats 4000000 in
theorem stmt_step (w0 : World) (ks : List (ByteArray × ByteArray)) (n : Nat) (hn : n + 1 ≤ 10000) (hA : ASpec w0 ks n) : TSpec w0 ks (n + 1) := by
  intro sh m fb w s va vo vb ve d hs hsp hR hwd
  obtain ⟨a1, c1, hva, _⟩ := hsp.a.len
  obtain ⟨a2, c2, hvo, _⟩ := hsp.o.len
  obtain ⟨a3, c3, hvb, _⟩ := hsp.b.len
  obtain ⟨a4, c4, hve, _⟩ := hsp.e.len
  subst hva; subst hvo; subst hvb; subst hve
  obtain ⟨w1, w2, w3⟩ := wrongS_zero hwd
  have n1 := s.size_expr
  have n2 := s.size_body
  have n3 := s.size_els
  have k1 := expr_spec w0 ks 10000 (by omega) sh m fb w s.expr _ _ (by omega) hsp.a hsp.o hR
  have k2 := hA sh m fb (exprE ks s.expr w).2 _ s.body (d + 1) (by omega) hsp.b hR w2
  have k3 := hA sh m fb (stmtEs ks s.body zeroE (exprE ks s.expr w).2).2 _ s.els (d + 1) (by omega) hsp.e hR w3
  have s1 := exprE_sm ks s.expr w
  have s2 := stmtEs_sm ks s.body zeroE (exprE ks s.expr w).2 0 (zeroE_sm 0)
  have s3 := stmtEs_sm ks s.els zeroE (stmtEs ks s.body zeroE (exprE ks s.expr w).2).2 0 (zeroE_sm 0)
  rw [stmtE_eq]
  dsimp only
  generalize exprE ks s.expr w = O1 at *
  generalize stmtEs ks s.body zeroE O1.2 = O2 at *
  generalize stmtEs ks s.els zeroE O2.2 = O3 at *
  obtain ⟨e1, u1⟩ := O1
  obtain ⟨e2, u2⟩ := O2
  obtain ⟨e3, u3⟩ := O3
  dsimp only at *
  refine fn_of_run en30 fn30 rfl rfl rfl ?_
  repeat (first | refine zck ?_ | refine zcl ?_ | refine zcm ?_ | refine zcn ?_)
  first | refine zcp (by kernel_rfl) ?_ | refine zcq PP_mixed (by kernel_rfl) (by kernel_rfl) ?_
  repeat' (refine zap rfl ?_; first | refine zaq (cs := [_, _, _, _, _, _, _, _, _, _, _]) rfl (fun nb => ?_) | refine zar (fun nb => ?_))
  all_goals refine zch ?_
  all_goals repeat (first | refine zck ?_ | refine zcl ?_ | refine zcm ?_ | refine zcn ?_)
  refine run_share [1] rfl ?_
  obtain ⟨b4, hb4⟩ : ∃ b, b = nb := ⟨_, rfl⟩
  subst hb4
  repeat (first | refine zck ?_ | refine zcl ?_ | refine zcm ?_ | refine zcn ?_)
  first | refine zcp (by kernel_rfl) ?_ | refine zcq PP_mixed (by kernel_rfl) (by kernel_rfl) ?_
  repeat' (refine zap rfl ?_; first | refine zar (fun nb5 => ?_) | refine zae 5 rfl rfl rfl rfl rfl rfl rfl ?_ | refine zae 6 rfl rfl rfl rfl rfl rfl rfl ?_ | refine zae 7 rfl rfl rfl rfl rfl rfl rfl ?_ | refine zan rfl ?_ | refine zaa 0 rfl rfl rfl ?_ | (refine zai [0] k1 rfl rfl rfl (fun p hp => by simp [hp]) ?_; rintro v Γ ⟨q1, rfl, rfl⟩) | (refine zai [1] k2 rfl rfl rfl (fun p hp => by simp [hp]) ?_; rintro v Γ ⟨q2, rfl, rfl⟩) | (refine zai [1] k3 rfl rfl rfl (fun p hp => by simp [hp]) ?_; rintro v Γ ⟨q3, rfl, rfl⟩) | refine zcf rfl rfl ?_ | refine zao rfl ?_)
  all_goals refine zch ?_
  all_goals repeat (first | refine zck ?_ | refine zcl ?_ | refine zcm ?_ | refine zcn ?_)
  refine run_share [5] rfl ?_
  refine run_share [5] rfl ?_
  refine run_share [5] rfl ?_
  unfold partE
  by_cases h4 : s.kind = 4
  · have hnum := wrongS0_num w1 h4
    have ht := times_p w0 [] q2 e2 s.num (s2.mono (by omega)) (by omega)
    rw [if_pos h4]
    repeat' (first | refine zck ?_ | refine zcp (by kernel_rfl) ?_ | (refine zap rfl ?_; first | refine zaa 1 rfl rfl rfl ?_ | refine zaa 3 rfl rfl rfl ?_ | (refine zai [2] ht rfl rfl rfl sub_nil ?_; rintro v Γ ⟨r, rfl, rfl⟩) | refine zao rfl ?_ | refine zbc rfl rfl (by omega) ?_ | refine zae 5 rfl rfl rfl rfl rfl rfl rfl ?_) | refine zch ?_ | refine zci rfl ?_)
    exact run_ret (leaves_nil (ends_take [0, 2] rfl (ends_one rfl (resOk_pt 5 rfl rfl rfl) ⟨rfl, r, rfl, rfl⟩)))
  · have hj := join_p w0 [] q2 q3 e2 e3 (s2.mono (by omega)) (s3.mono (by omega))
    have sJ : (joinE e2 e3).sm 20000 := (joinE_sm s2 s3).mono (by omega)
    have hj2 := fun r => join_p w0 [] q1 r e1 { joinE e2 e3 with calls := maxC e2.calls e3.calls } (s1.mono (by omega)) (Ef.sm.mono (e := { joinE e2 e3 with calls := maxC e2.calls e3.calls }) sJ (by omega))
    rw [if_neg h4]
    repeat (first | refine zck ?_ | refine zcl ?_ | refine zcm ?_ | refine zcn ?_)
    first | refine zcp (by kernel_rfl) ?_ | refine zcq PP_mixed (by kernel_rfl) (by kernel_rfl) ?_
    repeat' (refine zap rfl ?_; first | refine zaa 3 rfl rfl rfl ?_ | refine zao rfl ?_ | refine zbd rfl rfl (by omega) ?_)
    all_goals refine zch ?_
    all_goals repeat (first | refine zck ?_ | refine zcl ?_ | refine zcm ?_ | refine zcn ?_)
    refine zcj rfl ?_
    repeat (first | refine zck ?_ | refine zcl ?_ | refine zcm ?_ | refine zcn ?_)
    first | refine zcp (by kernel_rfl) ?_ | refine zcq PP_mixed (by kernel_rfl) (by kernel_rfl) ?_
    repeat' (refine zap rfl ?_; first | refine zan rfl ?_ | refine zaa 0 rfl rfl rfl ?_ | refine zaa 1 rfl rfl rfl ?_ | refine zcf rfl rfl ?_ | refine zao rfl ?_)
    all_goals refine zch ?_
    all_goals repeat (first | refine zck ?_ | refine zcl ?_ | refine zcm ?_ | refine zcn ?_)
    repeat (first | refine zck ?_ | refine zcl ?_ | refine zcm ?_ | refine zcn ?_)
    first | refine zcp (by kernel_rfl) ?_ | refine zcq PP_mixed (by kernel_rfl) (by kernel_rfl) ?_
    repeat' (refine zap rfl ?_; first | refine zae 6 rfl rfl rfl rfl rfl rfl rfl ?_ | refine zaa 0 rfl rfl rfl ?_ | refine zaa 1 rfl rfl rfl ?_ | (refine zai [2, 0] hj rfl rfl rfl sub_nil ?_; rintro v Γ ⟨r, rfl, rfl⟩) | refine zar (fun nb => ?_))
    all_goals refine zch ?_
    all_goals repeat (first | refine zck ?_ | refine zcl ?_ | refine zcm ?_ | refine zcn ?_)
    repeat (first | refine zck ?_ | refine zcl ?_ | refine zcm ?_ | refine zcn ?_)
    first | refine zcp (by kernel_rfl) ?_ | refine zcq PP_mixed (by kernel_rfl) (by kernel_rfl) ?_
    repeat' (refine zap rfl ?_; first | refine zae 6 rfl rfl rfl rfl rfl rfl rfl ?_ | refine zan rfl ?_ | refine zao rfl ?_)
    all_goals refine zch ?_
    all_goals repeat (first | refine zck ?_ | refine zcl ?_ | refine zcm ?_ | refine zcn ?_)
    refine run_exch 0 (rdV w0 (efV r { joinE e2 e3 with calls := maxC e2.calls e3.calls }) { joinE e2 e3 with calls := maxC e2.calls e3.calls }) rfl (fun g hg => Rds.mono (fun bl h => RdEfV.calls h _) g hg) rfl ?_
    repeat' (first | refine zcp (by kernel_rfl) ?_ | (refine zap rfl ?_; first | refine zab 6 rfl rfl rfl ?_ | refine zae 6 rfl rfl rfl rfl rfl rfl rfl ?_ | refine zaa 2 rfl rfl rfl ?_ | (refine zai [4, 0] (hj2 r) rfl rfl rfl sub_nil ?_; rintro v Γ ⟨r2, rfl, rfl⟩)) | refine zch ?_)
    exact run_ret (leaves_nil (ends_take [0, 4] rfl (ends_one rfl (resOk_pt 6 rfl rfl rfl) ⟨rfl, r2, rfl, rfl⟩)))
theorem stmt_spec (w0 : World) (ks : List (ByteArray × ByteArray)) : ∀ n, n ≤ 10000 → TSpec w0 ks n
  | 0, _ => fun sh m fb w s va vo vb ve d h => by have := s.size_pos; omega
  | n + 1, hn => stmt_step w0 ks n hn (all_of w0 ks n (by omega) (stmt_spec w0 ks n (by omega)))
theorem all_spec (w0 : World) (ks : List (ByteArray × ByteArray)) : ASpec w0 ks 10000 := all_of w0 ks 10000 (by omega) (stmt_spec w0 ks 10000 (by omega))
end Go.Proofs.YtagmagnkigjggaaGreatDoor

