import Derived.Test.YtfnjeldpfilplaaGreatDoorPart5
/- Lemmas and walks for the claims of this seat (own work): Fi1 Fi2 Fi3 Fi4 Fi5 Fi6 Ty3. -/
namespace Go.Vc
open Sim
abbrev fC (m : Nat) (w : Int) : List Value := [.map (some m), .int .i64 w]
def efC (x1 : Option Addr) (n1 y1 : Nat) (x2 : Option Addr) (n2 y2 : Nat) (x3 : Option Addr) (n3 y3 : Nat) (c : Int) : List Value := [.slice x1 n1 y1, .slice x2 n2 y2, .slice x3 n3 y3, .int .i64 c]
theorem Rds.one {w0 : World} {b : Nat} {s : ByteArray} {T : TypeId} (g : Heap) (hg : pt b (.cells (List.toArray [.string s]) T (0, 0)) g) : Rds (fun bl => RdSl w0 bl encY 1 (.slice (some ⟨b, 0, none⟩) 1 1) [s]) g :=
  Rds.mono (fun _ hb => RdSl.flat (encE := encY) (q := 1) (w0 := w0) (b := b) (l := [s]) (fun _ _ => rfl) hb) g (Rds.of_pt g hg)
def EfR (w0 : World) (e : Ef) (L : List Asn) (v : Value) (Γ : List Asn) : Prop := ∃ x1 y1 x2 y2 x3 y3, v = efA x1 e.reads.length y1 x2 e.writes.length y2 x3 e.hosts.length y3 e.calls ∧ Γ = Rds (fun bl => RdEfV w0 bl v e) :: L
end Go.Vc
namespace Go.Proofs.YtfnjeldpfilplaaGreatDoor
open Go.Vc Sim
theorem join_own (w0 : World) (sh : Shared) (va vb : Value) (a b : Ef) (sa : a.sm 30000) (sb : b.sm 30000) :
    Vc.Fn PP w0 sh 43 [va, vb] [Rds fun bl => RdEfV w0 bl va a, Rds fun bl => RdEfV w0 bl vb b] (EfR w0 (joinE a b) [Rds fun bl => RdEfV w0 bl vb b, Rds fun bl => RdEfV w0 bl va a]) := by
  refine (Fn.lendR en43 (fun sh1 bl1 h1 h2 h3 => Fn.lendR en43 (fun sh2 bl2 g1 g2 g3 => join_form w0 sh2 va vb a b (h3.mono fun p hp => g1 p (h2 p hp)) (g3.mono g2) sa sb))).mono ?_
  rintro v Γ ⟨_, ⟨_, ⟨x1, y1, x2, y2, x3, y3, rfl, rfl⟩, rfl⟩, rfl⟩
  exact ⟨x1, y1, x2, y2, x3, y3, rfl, rfl⟩
set_option maxHeartbeats 2000000 in
theorem call_spec (w0 : World) (sh : Shared) (fb m : Nat) (ks : List (ByteArray × ByteArray)) (w : Int) (store meth : ByteArray) (hR : RdM w0 sh m (kS ks)) :
    Vc.Fn PP w0 sh 79 [.pointer (some ⟨fb, 0, none⟩), .string store, .string meth] [pt fb (.cells (List.toArray (fC m w)) 85 (0, 0))]
      (EfR w0 (callE ks store meth) [pt fb (.cells (List.toArray (fC m (callW ks store meth w))) 85 (0, 0))]) := by
  have hlk : (if true = true then Value.tuple #[(lookS (kS ks) store).getD (.string ByteArray.empty), .bool (lookS (kS ks) store).isSome] else (lookS (kS ks) store).getD (.string ByteArray.empty)) = .tuple #[.string (nameK ks store), .bool (decide ((lookK ks store).isSome = true))] := by
    rw [if_pos rfl, lookK_S, nameK]
    cases lookK ks store <;> rfl
  have hkd : FnE PP w0 [] 26 [.string (nameK ks store)] [] (.tuple #[.int .i64 (kindZ (nameK ks store)), .bool (decide ((ctKind (nameK ks store)).isSome = true))]) [] := by
    rw [Bool.decide_eq_true]; exact kind_spec w0 (nameK ks store)
  have hfd : ∃ (n : ByteArray) (a : Int), FnE PP w0 [] 93 [.int .i64 (kindZ (nameK ks store)), .string meth] [] (.tuple #[.agg (List.toArray [.string n, .int .i64 a, .bool (decide (writesK ks store meth = true))]), .bool (decide ((ctFind (kindZ (nameK ks store)) meth).isSome = true))]) [] := by
    have h := findC_spec w0 (kindZ (nameK ks store)) meth
    unfold writesK
    cases hq : ctFind (kindZ (nameK ks store)) meth with
    | none => rw [hq] at h; exact ⟨_, _, h⟩
    | some x => rw [hq] at h; exact ⟨x.1, x.2.1, by dsimp only; rw [Bool.decide_eq_true]; exact h⟩
  obtain ⟨n, a, hfd⟩ := hfd
  have hWA : ∀ B1 B2 B3 : Bool, (lookK ks store).isSome = B1 → (ctKind (nameK ks store)).isSome = B2 → (ctFind (kindZ (nameK ks store)) meth).isSome = B3 → callW ks store meth w = if w ≠ 0 then w else if B1 = false then 16 else if B2 = false then 2 else if B3 = false then 14 else w := fun B1 B2 B3 h1 h2 h3 => by
    unfold callW; rw [h1, h2, h3]
  have hW := hWA _ _ _ rfl rfl rfl
  clear hWA
  generalize (lookK ks store).isSome = B1 at *
  generalize (ctKind (nameK ks store)).isSome = B2 at *
  generalize (ctFind (kindZ (nameK ks store)) meth).isSome = B3 at *
  obtain ⟨W, hWW⟩ : ∃ W, callW ks store meth w = W := ⟨_, rfl⟩
  rw [hWW] at hW ⊢
  unfold EfR callE
  generalize writesK ks store meth = B4 at *
  refine fn_of_run en79 fn79 rfl rfl rfl ?_
  repeat (first | refine zck ?_ | refine zcl ?_ | refine zcm ?_ | refine zcn ?_)
  first | refine zcp (by kernel_rfl) ?_ | refine zcq PP_mixed (by kernel_rfl) (by kernel_rfl) ?_
  repeat' (refine zap rfl ?_; first | refine zar (fun nb => ?_))
  all_goals refine zch ?_
  all_goals repeat (first | refine zck ?_ | refine zcl ?_ | refine zcm ?_ | refine zcn ?_)
  obtain ⟨b6, hb6⟩ : ∃ b, b = nb := ⟨_, rfl⟩
  subst hb6
  repeat (first | refine zck ?_ | refine zcl ?_ | refine zcm ?_ | refine zcn ?_)
  first | refine zcp (by kernel_rfl) ?_ | refine zcq PP_mixed (by kernel_rfl) (by kernel_rfl) ?_
  repeat' (refine zap rfl ?_; first | refine reg_lookupR hR rfl rfl hlk ?_ | refine zan rfl ?_ | refine zan rfl ?_ | refine zab 0 rfl rfl rfl ?_ | refine zao rfl ?_ | refine zan rfl ?_ | refine zan rfl ?_)
  all_goals refine zch ?_
  all_goals repeat (first | refine zck ?_ | refine zcl ?_ | refine zcm ?_ | refine zcn ?_)
  repeat (first | refine zck ?_ | refine zcl ?_ | refine zcm ?_ | refine zcn ?_)
  first | refine zcp (by kernel_rfl) ?_ | refine zcq PP_mixed (by kernel_rfl) (by kernel_rfl) ?_
  repeat' (refine zap rfl ?_; first | refine zan rfl ?_ | refine zan rfl ?_ | refine zah [] hkd rfl rfl rfl sub_nil rfl ?_ | refine zan rfl ?_)
  all_goals refine zch ?_
  all_goals repeat (first | refine zck ?_ | refine zcl ?_ | refine zcm ?_ | refine zcn ?_)
  repeat (first | refine zck ?_ | refine zcl ?_ | refine zcm ?_ | refine zcn ?_)
  first | refine zcp (by kernel_rfl) ?_ | refine zcq PP_mixed (by kernel_rfl) (by kernel_rfl) ?_
  repeat' (refine zap rfl ?_; first | refine zan rfl ?_ | refine zan rfl ?_ | refine zah [] hfd rfl rfl rfl sub_nil rfl ?_ | refine zan rfl ?_ | refine zae 2 rfl rfl rfl rfl rfl rfl rfl ?_ | refine zar (fun nb => ?_))
  all_goals refine zch ?_
  all_goals repeat (refine zck ?_)
  obtain ⟨b11, hb11⟩ : ∃ b, b = nb := ⟨_, rfl⟩
  subst hb11
  refine run_bind_eq (l' := [(1, .string store), (6, .pointer (some ⟨b6, 0, none⟩)), (11, .pointer (some ⟨b11, 0, none⟩))])
    (Γ' := [pt fb (.cells (List.toArray (fC m W)) 85 (0, 0)), pt b6 (.cells (List.toArray (efC none 0 0 none 0 0 none 0 0 0)) 47 (0, 0)), pt b11 (.cells (List.toArray [.string n, .int .i64 a, .bool (decide (B4 = true))]) 158 (0, 0))]) ?_ ?_
  · repeat' (first | refine zck ?_ | refine zcp (by kernel_rfl) ?_ | refine zcm ?_ | refine zcl ?_ | refine zcn ?_ | (refine zap rfl ?_; first | refine zan rfl ?_ | refine zan rfl ?_ | refine zab 0 rfl rfl rfl ?_ | refine zao rfl ?_ | refine zbp rfl rfl ?_ | refine zby rfl ?_ | refine zae 0 rfl rfl rfl rfl rfl rfl rfl ?_ | refine zan rfl ?_) | refine zch ?_ | refine run_cond rfl (fun _ => ?_) (fun _ => ?_))
    all_goals refine cut_end ⟨rfl, ⟨rfl, rfl, rfl, trivial⟩, ?_⟩
    all_goals have hWv := hW
    all_goals clear hW hfd hkd hlk hR hWW
    all_goals cases B1
    all_goals cases B2
    all_goals cases B3
    all_goals first | (exfalso; simp_all; done) | (have e : W = w := (by simp_all); rw [e]; rfl) | (have e : W = 16 := (by simp_all); rw [e]; rfl) | (have e : W = 2 := (by simp_all); rw [e]; rfl) | (have e : W = 14 := (by simp_all); rw [e]; rfl)
  · intro junk
    repeat (first | refine zck ?_ | refine zcl ?_ | refine zcm ?_ | refine zcn ?_)
    first | refine zcp (by kernel_rfl) ?_ | refine zcq PP_mixed (by kernel_rfl) (by kernel_rfl) ?_
    repeat' (refine zap rfl ?_; first | refine reg_buildSlice rfl rfl rfl rfl rfl rfl (fun s1 => ?_) | refine zan rfl ?_ | refine zae 4 rfl rfl rfl rfl rfl rfl rfl ?_ | refine zar (fun nb => ?_) | refine zcb rfl ?_)
    all_goals refine zch ?_
    all_goals repeat (first | refine zck ?_ | refine zcl ?_ | refine zcm ?_ | refine zcn ?_)
    repeat (first | refine zck ?_ | refine zcl ?_ | refine zcm ?_ | refine zcn ?_)
    first | refine zcp (by kernel_rfl) ?_ | refine zcq PP_mixed (by kernel_rfl) (by kernel_rfl) ?_
    repeat' (refine zap rfl ?_; first | refine zab 2 rfl rfl rfl ?_ | refine zao rfl ?_)
    all_goals refine zch ?_
    all_goals repeat (first | refine zck ?_ | refine zcl ?_ | refine zcm ?_ | refine zcn ?_)
    refine run_cond rfl (fun hB => ?_) (fun hB => ?_)
    · subst hB
      repeat' (first | refine zck ?_ | refine zcp (by kernel_rfl) ?_ | (refine zap rfl ?_; first | refine reg_buildSlice rfl rfl rfl rfl rfl rfl (fun s2 => ?_) | refine zan rfl ?_ | refine zab 4 rfl rfl rfl ?_ | refine zao rfl ?_ | refine zae 1 rfl rfl rfl rfl rfl rfl rfl ?_ | refine zae 4 rfl rfl rfl rfl rfl rfl rfl ?_) | refine zch ?_)
      refine run_exch 3 (Rds fun bl => RdSl w0 bl encY 1 (.slice (some ⟨s1, 0, none⟩) 1 1) [store]) rfl (fun g hg => Rds.one g hg) rfl ?_
      refine run_exch 5 (Rds fun bl => RdSl w0 bl encY 1 (.slice (some ⟨s2, 0, none⟩) 1 1) [store]) rfl (fun g hg => Rds.one g hg) rfl ?_
      refine run_joinR [3, 4] (χ := fun bl => RdEfV w0 bl (efA (some ⟨s1, 0, none⟩) 1 1 (some ⟨s2, 0, none⟩) 1 1 none 0 0 1) ⟨[store], [store], [], 1⟩) rfl (fun b1 b2 h1 h2 => ⟨_, rfl, _, _, _, rfl, h1.mono fun p hp => List.mem_append_left _ hp, h2.mono fun p hp => List.mem_append_right _ hp, RdSl.nil⟩) ?_
      exact run_ret (leaves_nil (ends_take [0, 0] rfl (ends_one rfl (resOk_pt 2 rfl rfl rfl) ⟨rfl, _, _, _, _, _, _, rfl, rfl⟩)))
    · have hB : B4 = false := by simpa using hB
      subst hB
      repeat' (first | refine zck ?_ | refine zcp (by kernel_rfl) ?_ | refine zcm ?_ | (refine zap rfl ?_; first | refine zab 4 rfl rfl rfl ?_ | refine zae 1 rfl rfl rfl rfl rfl rfl rfl ?_) | refine zch ?_)
      refine run_exch 3 (Rds fun bl => RdEfV w0 bl (efA (some ⟨s1, 0, none⟩) 1 1 none 0 0 none 0 0 1) ⟨[store], [], [], 1⟩) rfl (fun g hg => Rds.mono (fun bl h => ⟨_, rfl, _, _, _, rfl, h, RdSl.nil, RdSl.nil⟩) g (Rds.one (w0 := w0) (s := store) g hg)) rfl ?_
      exact run_ret (leaves_nil (ends_take [3, 0] rfl (ends_one rfl (resOk_pt 1 rfl rfl rfl) ⟨rfl, _, _, _, _, _, _, rfl, rfl⟩)))
end Go.Proofs.YtfnjeldpfilplaaGreatDoor

namespace Go.Vc
open Sim
abbrev P6 : Type := (Option Addr × Nat) × (Option Addr × Nat) × (Option Addr × Nat)
abbrev efL (p : P6) (e : Ef) : List Value := [.slice p.1.1 e.reads.length p.1.2, .slice p.2.1.1 e.writes.length p.2.1.2, .slice p.2.2.1 e.hosts.length p.2.2.2, .int .i64 e.calls]
abbrev efV (p : P6) (e : Ef) : Value := .agg (List.toArray (efL p e))
abbrev rdV (w0 : World) (v : Value) (e : Ef) : Asn := Rds fun bl => RdEfV w0 bl v e
abbrev p0 : P6 := ((none, 0), (none, 0), (none, 0))
theorem EfR.p {w0 : World} {e : Ef} {L : List Asn} {v : Value} {Γ : List Asn} (h : EfR w0 e L v Γ) : ∃ p : P6, v = efV p e ∧ Γ = rdV w0 (efV p e) e :: L := by
  obtain ⟨x1, y1, x2, y2, x3, y3, h1, h2⟩ := h
  refine ⟨((x1, y1), (x2, y2), (x3, y3)), h1, ?_⟩
  rw [h2, h1]
theorem EfR.of {w0 : World} {e : Ef} {L : List Asn} (p : P6) : EfR w0 e L (efV p e) (rdV w0 (efV p e) e :: L) := ⟨_, _, _, _, _, _, rfl, rfl⟩
end Go.Vc
namespace Go.Proofs.YtfnjeldpfilplaaGreatDoor
open Go.Vc Sim
abbrev fPt (fb m : Nat) (w : Int) : Asn := pt fb (.cells (List.toArray (fC m w)) 85 (0, 0))
abbrev ePt (b : Nat) (p : P6) (e : Ef) : Asn := pt b (.cells (List.toArray (efL p e)) 47 (0, 0))
abbrev fpC (fp fb : Nat) : Nat × Obj := (fp, .cells (List.toArray [.pointer (some ⟨fb, 0, none⟩)]) 82 (0, 0))
theorem join_p (w0 : World) (sh : Shared) (p q : P6) (a b : Ef) (sa : a.sm 30000) (sb : b.sm 30000) :
    Vc.Fn PP w0 sh 43 [efV p a, efV q b] [rdV w0 (efV p a) a, rdV w0 (efV q b) b] (fun v Γ => ∃ r : P6, v = efV r (joinE a b) ∧ Γ = [rdV w0 (efV r (joinE a b)) (joinE a b), rdV w0 (efV q b) b, rdV w0 (efV p a) a]) :=
  (join_own w0 sh _ _ a b sa sb).mono fun _ _ h => h.p
def ESpec (w0 : World) (ks : List (ByteArray × ByteArray)) (n : Nat) : Prop := ∀ (sh : Shared) (m fb : Nat) (w : Int) (e : PE) (va vo : Value), e.size ≤ n → RdEl w0 sh va e.args → RdEl w0 sh vo e.or → RdM w0 sh m (kS ks) →
  Vc.Fn PP w0 sh 59 [.pointer (some ⟨fb, 0, none⟩), .agg (List.toArray (peC e.kind e.num e.name e.meth va vo))] [fPt fb m w]
    (fun v Γ => ∃ p : P6, v = efV p (exprE ks e w).1 ∧ Γ = [rdV w0 (efV p (exprE ks e w).1) (exprE ks e w).1, fPt fb m (exprE ks e w).2])
set_option maxHeartbeats 2000000 in
theorem exprs_of (w0 : World) (ks : List (ByteArray × ByteArray)) (n : Nat) (hE : ESpec w0 ks n) (sh : Shared) (m fb fp ob : Nat) (w : Int) (vl : Value) (l : List PE) (p : P6) (out : Ef) (hl : RdEl w0 sh vl l) (hn : ∀ x ∈ l, x.size ≤ n) (hR : RdM w0 sh m (kS ks))
    (N : Nat) (hN : N + PE.sizeL l ≤ 30000) (ho : out.sm N) :
    Vc.Fn PP w0 (fpC fp fb :: sh) 78 [vl, .pointer (some ⟨ob, 0, none⟩), .pointer (some ⟨fp, 0, none⟩)] [ePt ob p out, rdV w0 (efV p out) out, fPt fb m w]
      (fun v Γ => v = .tuple #[] ∧ ∃ q : P6, Γ = [ePt ob q (exprEs ks l out w).1, rdV w0 (efV q (exprEs ks l out w).1) (exprEs ks l out w).1, fPt fb m (exprEs ks l out w).2]) := by
  obtain ⟨a, c, hv, _⟩ := hl.len
  subst hv
  have hlen := PE.sizeL_len l
  refine fn_of_run en78 fn78 rfl rfl rfl ?_
  repeat' (first | refine zck ?_ | refine zcp (by kernel_rfl) ?_ | refine zcl ?_ | (refine zap rfl ?_; first | refine zan rfl ?_ | refine zce rfl ?_) | refine zch ?_)
  refine run_loop (S := Nat × P6 × Ef × Int) (fun s => [(1, .pointer (some ⟨ob, 0, none⟩)), (2, .pointer (some ⟨fp, 0, none⟩)), (6, .slice a l.length c), (7, .int .i64 l.length), (8, .int .i64 s.1)])
    (fun s Γ => Γ = [ePt ob s.2.1 s.2.2.1, rdV w0 (efV s.2.1 s.2.2.1) s.2.2.1, fPt fb m s.2.2.2] ∧ s.1 ≤ l.length ∧ exprEs ks (l.drop s.1) s.2.2.1 s.2.2.2 = exprEs ks l out w ∧ ∃ M, s.2.2.1.sm M ∧ M + PE.sizeL (l.drop s.1) ≤ 30000) (fun s => l.length - s.1) (0, p, out, w)
    ⟨rfl, rfl, rfl, rfl, rfl, trivial⟩ ⟨rfl, Nat.zero_le _, rfl, N, ho, hN⟩ ?_
  rintro ⟨j, q, o, u⟩ Γ junk ⟨rfl, g1, g2, M, g3, g4⟩
  dsimp only at g1 g2 g3 g4 ⊢
  by_cases hj : j < l.length
  · obtain ⟨x, hx⟩ : ∃ x, l[j]? = some x := ⟨_, List.getElem?_eq_getElem hj⟩
    obtain ⟨b, off, cc, T, fr, cs, rfl, e2, e3, e4, _⟩ := hl.at hx
    obtain ⟨va, vo, rfl, r1, r2⟩ := e4.cs
    have hxn := hn x (List.mem_iff_getElem?.2 ⟨_, hx⟩)
    obtain ⟨a3, c3, hv3, _⟩ := id r1.len
    obtain ⟨a4, c4, hv4, _⟩ := id r2.len
    subst hv3
    subst hv4
    have hd : l.drop j = x :: l.drop (j + 1) := by
      rw [List.drop_eq_getElem_cons hj]
      congr 1
      exact (List.getElem?_eq_some_iff.1 hx).2
    rw [hd, PE.sizeL] at g4
    have hsx := exprE_sm ks x u
    have hcall := hE sh m fb u x _ _ hxn r1 r2 hR
    have hjoin := fun q' => join_p w0 [] q q' o (exprE ks x u).1 (g3.mono (by omega)) (hsx.mono (by omega))
    rw [exprEs_drop hx] at g2
    have hnext : (joinE o (exprE ks x u).1).sm (M + x.size) := joinE_sm g3 hsx
    repeat (first | refine zck ?_ | refine zcl ?_ | refine zcm ?_ | refine zcn ?_)
    first | refine zcp (by kernel_rfl) ?_ | refine zcq PP_mixed (by kernel_rfl) (by kernel_rfl) ?_
    repeat' (refine zap rfl ?_; first | refine zbg rfl rfl (by omega) ?_)
    all_goals refine zch ?_
    all_goals repeat (first | refine zck ?_ | refine zcl ?_ | refine zcm ?_ | refine zcn ?_)
    refine zci rfl ?_
    repeat (first | refine zck ?_ | refine zcl ?_ | refine zcm ?_ | refine zcn ?_)
    first | refine zcp (by kernel_rfl) ?_ | refine zcq PP_mixed (by kernel_rfl) (by kernel_rfl) ?_
    repeat' (refine zap rfl ?_; first | refine zad rfl (fun hF Γ w h1 h2 => e2 hF Γ w (fun p hp => h1 p (by simp [hp])) h2) (e3 _ (by omega)) ?_ | refine zae 3 rfl rfl rfl rfl rfl rfl rfl ?_ | refine zas rfl rfl (by omega) ?_ | refine zar (fun nb => ?_))
    all_goals refine zch ?_
    all_goals repeat (first | refine zck ?_ | refine zcl ?_ | refine zcm ?_ | refine zcn ?_)
    refine run_share [3] rfl ?_
    repeat (first | refine zck ?_ | refine zcl ?_ | refine zcm ?_ | refine zcn ?_)
    refine run_drawT [0] [(.quiet, 0), (.quiet, 1), (.quiet, 2), (.loud, 3), (.loud, 4)] [(.loud, 5)] PP_mixed (by kernel_rfl) (by kernel_rfl) rfl ?_
    repeat' (refine zap rfl ?_; first | refine zaa 0 rfl rfl rfl ?_ | refine zaa 1 rfl rfl rfl ?_ | refine zaa 2 rfl rfl rfl ?_ | (refine zai [1] hcall rfl rfl rfl (fun p hp => by simp [hp]) ?_; rintro v Γ ⟨q', rfl, rfl⟩) | (refine zai [2, 0] (hjoin _) rfl rfl rfl sub_nil ?_; rintro v Γ ⟨r, rfl, rfl⟩) | refine zce rfl ?_ | refine reg_addZ rfl rfl (by omega) ?_ | refine zau rfl rfl (by omega) ?_ | refine zbq rfl rfl ?_)
    all_goals refine reg_turn ?_
    all_goals repeat' (refine zap rfl ?_; first | refine zan rfl ?_ | (refine zai [1] hcall rfl rfl rfl (fun p hp => by simp [hp]) ?_; rintro v Γ ⟨q', rfl, rfl⟩) | (refine zai [2, 0] (hjoin _) rfl rfl rfl sub_nil ?_; rintro v Γ ⟨r, rfl, rfl⟩) | refine zce rfl ?_ | refine zae 0 rfl rfl rfl rfl rfl rfl rfl ?_)
    all_goals refine zch ?_
    all_goals repeat (first | refine zck ?_ | refine zcl ?_ | refine zcm ?_ | refine zcn ?_)
    refine run_take [0, 0, 2] rfl ?_
    repeat' (first | refine zcp (by kernel_rfl) ?_ | (refine zap rfl ?_; first | refine zan rfl ?_ | refine zau rfl rfl (by omega) ?_) | refine zch ?_)
    exact cut_end ⟨rfl, (j + 1, r, joinE o (exprE ks x u).1, (exprE ks x u).2), ⟨rfl, rfl, rfl, rfl, int_eq (by dsimp only; omega), trivial⟩, ⟨rfl, by dsimp only; omega, g2, _, hnext, by dsimp only; omega⟩, by dsimp only; omega⟩
  · rw [List.drop_of_length_le (by omega), exprEs] at g2
    repeat' (first | refine zck ?_ | refine zcp (by kernel_rfl) ?_ | (refine zap rfl ?_; first | refine zbh rfl rfl (by omega) ?_) | refine zch ?_ | refine zcj rfl ?_)
    refine cut_exit rfl rfl ?_
    repeat' (first | refine zck ?_ | (refine zap rfl ?_; first | refine zan rfl ?_) | refine zch ?_)
    rw [← g2]
    exact end_tmp0 rfl ⟨rfl, q, rfl⟩
end Go.Proofs.YtfnjeldpfilplaaGreatDoor

namespace Go.Proofs.YtfnjeldpfilplaaGreatDoor
open Go.Vc Sim
set_option maxHeartbeats 4000000 in
theorem expr_step (w0 : World) (ks : List (ByteArray × ByteArray)) (n : Nat) (hn : n ≤ 10000) (hE : ESpec w0 ks n) : ESpec w0 ks (n + 1) := by
  intro sh m fb w e va vo hs ha ho hR
  have h1 := e.size_eq
  have h2 := fun (x : PE) (h : x ∈ e.args) => PE.size_args h
  have h3 := fun (x : PE) (h : x ∈ e.or) => PE.size_or h
  obtain ⟨a1, c1, hva, _⟩ := id ha.len
  obtain ⟨a2, c2, hvo, _⟩ := id ho.len
  subst hva; subst hvo
  have s1 := exprEs_sm ks e.args zeroE w 0 (zeroE_sm 0)
  have s2 := exprEs_sm ks e.or _ (exprEs ks e.args zeroE w).2 _ s1
  have k1 := fun fp ob => exprs_of w0 ks n hE sh m fb fp ob w _ e.args p0 zeroE ha (fun x h => by have := h2 x h; omega) hR 0 (by omega) (zeroE_sm 0)
  have k2 := fun fp ob q => exprs_of w0 ks n hE sh m fb fp ob (exprEs ks e.args zeroE w).2 _ e.or q (exprEs ks e.args zeroE w).1 ho (fun x h => by have := h3 x h; omega) hR _ (by omega) s1
  have hx := exprE_eq ks e w
  generalize exprEs ks e.args zeroE w = O1 at *
  generalize hO2 : exprEs ks e.or O1.1 O1.2 = O2 at *
  rw [hx]
  dsimp only
  have hsm : O2.1.sm 20000 := s2.mono (by omega)
  refine fn_of_run en59 fn59 rfl rfl rfl ?_
  repeat (first | refine zck ?_ | refine zcl ?_ | refine zcm ?_ | refine zcn ?_)
  first | refine zcp (by kernel_rfl) ?_ | refine zcq PP_mixed (by kernel_rfl) (by kernel_rfl) ?_
  repeat' (refine zap rfl ?_; first | refine zaq (cs := [_]) rfl (fun nb => ?_) | refine zaq (cs := [_, _, _, _, _, _]) rfl (fun nb => ?_) | refine zar (fun nb => ?_))
  all_goals refine zch ?_
  all_goals repeat (first | refine zck ?_ | refine zcl ?_ | refine zcm ?_ | refine zcn ?_)
  refine run_share [1] rfl ?_
  refine run_share [1] rfl ?_
  obtain ⟨b4, hb4⟩ : ∃ b, b = nb := ⟨_, rfl⟩
  subst hb4
  repeat (first | refine zck ?_ | refine zcl ?_ | refine zcm ?_ | refine zcn ?_)
  first | refine zcp (by kernel_rfl) ?_ | refine zcq PP_mixed (by kernel_rfl) (by kernel_rfl) ?_
  repeat' (refine zap rfl ?_; first | refine zar (fun nb => ?_))
  all_goals refine zch ?_
  all_goals repeat (first | refine zck ?_ | refine zcl ?_ | refine zcm ?_ | refine zcn ?_)
  obtain ⟨b5, hb5⟩ : ∃ b, b = nb := ⟨_, rfl⟩
  subst hb5
  refine run_emptyR (fun bl => RdEfV w0 bl (efV p0 zeroE) zeroE) RdEfV.zero ?_
  repeat (first | refine zck ?_ | refine zcl ?_ | refine zcm ?_ | refine zcn ?_)
  first | refine zcp (by kernel_rfl) ?_ | refine zcq PP_mixed (by kernel_rfl) (by kernel_rfl) ?_
  repeat' (refine zap rfl ?_; first | refine zan rfl ?_)
  all_goals refine zch ?_
  all_goals repeat (first | refine zck ?_ | refine zcl ?_ | refine zcm ?_ | refine zcn ?_)
  repeat (first | refine zck ?_ | refine zcl ?_ | refine zcm ?_ | refine zcn ?_)
  first | refine zcp (by kernel_rfl) ?_ | refine zcq PP_mixed (by kernel_rfl) (by kernel_rfl) ?_
  repeat' (refine zap rfl ?_; first | refine zan rfl ?_ | refine zan rfl ?_)
  all_goals refine zch ?_
  all_goals repeat (first | refine zck ?_ | refine zcl ?_ | refine zcm ?_ | refine zcn ?_)
  repeat (first | refine zck ?_ | refine zcl ?_ | refine zcm ?_ | refine zcn ?_)
  first | refine zcp (by kernel_rfl) ?_ | refine zcq PP_mixed (by kernel_rfl) (by kernel_rfl) ?_
  repeat' (refine zap rfl ?_; first | refine zan rfl ?_ | refine zaa 0 rfl rfl rfl ?_ | (refine zai [3, 0, 0] (k1 _ b5) rfl rfl rfl (fun p hp => List.mem_cons_of_mem _ hp) ?_; rintro v Γ ⟨rfl, q1, rfl⟩) | refine zao rfl ?_)
  all_goals refine zch ?_
  all_goals repeat (first | refine zck ?_ | refine zcl ?_ | refine zcm ?_ | refine zcn ?_)
  repeat (first | refine zck ?_ | refine zcl ?_ | refine zcm ?_ | refine zcn ?_)
  first | refine zcp (by kernel_rfl) ?_ | refine zcq PP_mixed (by kernel_rfl) (by kernel_rfl) ?_
  repeat' (refine zap rfl ?_; first | refine zan rfl ?_ | refine zaa 0 rfl rfl rfl ?_ | (refine zai [0, 0, 0] (k2 _ b5 q1) rfl rfl rfl (fun p hp => List.mem_cons_of_mem _ hp) ?_; rintro v Γ ⟨rfl, q2, rfl⟩) | refine zao rfl ?_)
  all_goals refine zch ?_
  all_goals repeat (first | refine zck ?_ | refine zcl ?_ | refine zcm ?_ | refine zcn ?_)
  by_cases h6 : e.kind = 6
  · have hc := call_spec w0 sh fb m ks O2.2 e.name e.meth hR
    have hj := fun q => join_p w0 [] q2 q O2.1 (callE ks e.name e.meth) (hsm.mono (by omega)) ((callE_sm ks e.name e.meth).mono (by omega))
    unfold nodeE nodeW
    rw [if_pos h6, if_pos h6]
    repeat (first | refine zck ?_ | refine zcl ?_ | refine zcm ?_ | refine zcn ?_)
    first | refine zcp (by kernel_rfl) ?_ | refine zcq PP_mixed (by kernel_rfl) (by kernel_rfl) ?_
    repeat' (refine zap rfl ?_; first | refine zaa 0 rfl rfl rfl ?_ | refine zao rfl ?_)
    all_goals refine zch ?_
    all_goals repeat (first | refine zck ?_ | refine zcl ?_ | refine zcm ?_ | refine zcn ?_)
    repeat (first | refine zck ?_ | refine zcl ?_ | refine zcm ?_ | refine zcn ?_)
    first | refine zcp (by kernel_rfl) ?_ | refine zcq PP_mixed (by kernel_rfl) (by kernel_rfl) ?_
    repeat' (refine zap rfl ?_; first | refine zan rfl ?_ | refine zbc rfl rfl (by omega) ?_)
    all_goals refine zch ?_
    all_goals repeat (first | refine zck ?_ | refine zcl ?_ | refine zcm ?_ | refine zcn ?_)
    refine zci rfl ?_
    repeat (first | refine zck ?_ | refine zcl ?_ | refine zcm ?_ | refine zcn ?_)
    refine run_drawT [0] [(.quiet, 0), (.quiet, 1), (.quiet, 2), (.quiet, 3), (.quiet, 4), (.quiet, 5), (.loud, 6), (.loud, 7)] [(.loud, 8)] PP_mixed (by kernel_rfl) (by kernel_rfl) rfl ?_
    repeat' (refine zap rfl ?_; first | refine zaa 0 rfl rfl rfl ?_ | refine zaa 1 rfl rfl rfl ?_ | refine zaa 2 rfl rfl rfl ?_ | (refine zai [1] hc rfl rfl rfl (fun p hp => by simp [hp]) ?_; rintro v Γ hh; obtain ⟨q3, rfl, rfl⟩ := hh.p) | (refine zai [2, 0] (hj _) rfl rfl rfl sub_nil ?_; rintro v Γ ⟨r, rfl, rfl⟩) | refine zao rfl ?_)
    all_goals refine reg_turn ?_
    all_goals repeat' (refine zap rfl ?_; first | refine zan rfl ?_ | (refine zai [1] hc rfl rfl rfl (fun p hp => by simp [hp]) ?_; rintro v Γ hh; obtain ⟨q3, rfl, rfl⟩ := hh.p) | (refine zai [2, 0] (hj _) rfl rfl rfl sub_nil ?_; rintro v Γ ⟨r, rfl, rfl⟩) | refine zae 5 rfl rfl rfl rfl rfl rfl rfl ?_)
    all_goals refine zch ?_
    all_goals repeat (first | refine zck ?_ | refine zcl ?_ | refine zcm ?_ | refine zcn ?_)
    exact run_ret (leaves_nil (ends_take [1, 3] rfl (ends_one rfl (resOk_pt 5 rfl rfl rfl) ⟨rfl, r, rfl, rfl⟩)))
  by_cases h7 : e.kind = 7
  · have hj := fun (s : Nat) (sh1 : Shared) (h : RdEfV w0 sh1 (efV q2 O2.1) O2.1) => (join_form w0 ((s, Obj.cells (List.toArray [Value.string e.name]) 9 (0, 0)) :: sh1) (efV q2 O2.1) (efA none 0 0 none 0 0 (some ⟨s, 0, none⟩) 1 1 0) O2.1 ⟨[], [], [e.name], 0⟩ (h.mono fun p hp => List.mem_cons_of_mem _ hp)
      ⟨_, rfl, _, _, _, rfl, RdSl.nil, RdSl.nil, RdSl.flat (encE := encY) (q := 1) (w0 := w0) (b := s) (l := [e.name]) (fun _ _ => rfl) (.head _)⟩ (hsm.mono (by omega)) ⟨Nat.zero_le _, Nat.zero_le _, by simp⟩).owned
    have hj2 := fun s => Fn.lendR (sh := []) (φ := fun bl => RdEfV w0 bl (efV q2 O2.1) O2.1) en43 (fun sh1 bl h1 h2 h3 => hj s sh1 (h3.mono h2))
    unfold nodeE nodeW
    rw [if_neg h6, if_neg h6, if_pos h7]
    repeat' (first | refine zck ?_ | refine zcp (by kernel_rfl) ?_ | refine zcl ?_ | (refine zap rfl ?_; first | refine reg_buildSlice rfl rfl rfl rfl rfl rfl (fun s1 => ?_) | refine zan rfl ?_ | refine zaa 0 rfl rfl rfl ?_ | refine zab 0 rfl rfl rfl ?_ | (refine zai [1, 3] (hj2 _) rfl rfl rfl sub_nil ?_; rintro v Γ ⟨_, ⟨_, ⟨x1, y1, x2, y2, x3, y3, rfl, rfl⟩, rfl⟩, rfl⟩) | refine zao rfl ?_ | refine zbc rfl rfl (by omega) ?_ | refine zbd rfl rfl (by omega) ?_ | refine zae 5 rfl rfl rfl rfl rfl rfl rfl ?_ | refine zcb rfl ?_) | refine zch ?_ | refine zci rfl ?_ | refine zcj rfl ?_)
    exact run_ret (leaves_nil (ends_take [0, 3] rfl (ends_one rfl (resOk_pt 5 rfl rfl rfl) ⟨rfl, ((x1, y1), (x2, y2), (x3, y3)), rfl, rfl⟩)))
  · unfold nodeE nodeW
    rw [if_neg h6, if_neg h6, if_neg h7]
    repeat' (first | refine zck ?_ | refine zcp (by kernel_rfl) ?_ | refine zcm ?_ | refine zcl ?_ | refine zcn ?_ | (refine zap rfl ?_; first | refine zan rfl ?_ | refine zaa 0 rfl rfl rfl ?_ | refine zab 0 rfl rfl rfl ?_ | refine zao rfl ?_ | refine zbd rfl rfl (by omega) ?_ | refine zae 3 rfl rfl rfl rfl rfl rfl rfl ?_) | refine zch ?_ | refine zcj rfl ?_)
    exact run_ret (leaves_nil (ends_take [1, 1] rfl (ends_one rfl (resOk_pt 3 rfl rfl rfl) ⟨rfl, q2, rfl, rfl⟩)))
theorem expr_spec (w0 : World) (ks : List (ByteArray × ByteArray)) : ∀ n, n ≤ 10000 → ESpec w0 ks n
  | 0, _ => fun sh m fb w e va vo h => by have := e.size_pos; omega
  | n + 1, hn => expr_step w0 ks n (by omega) (expr_spec w0 ks n (by omega))
end Go.Proofs.YtfnjeldpfilplaaGreatDoor

namespace Sim
theorem wrongS_zero {s : PS} {d : Int} (h : wrongS s d = 0) : wrongS0 s d = 0 ∧ wrongSs s.body (d + 1) = 0 ∧ wrongSs s.els (d + 1) = 0 := by
  rw [wrongS_eq] at h
  by_cases h1 : wrongS0 s d = 0
  · rw [if_neg (by omega)] at h
    by_cases h2 : wrongSs s.body (d + 1) = 0
    · rw [if_neg (by omega)] at h; exact ⟨h1, h2, h⟩
    · rw [if_pos h2] at h; exact absurd h h2
  · rw [if_pos h1] at h; exact absurd h h1
theorem wrongS0_num {s : PS} {d : Int} (h : wrongS0 s d = 0) (hk : s.kind = 4) : 0 ≤ s.num ∧ s.num ≤ 64 := by
  unfold wrongS0 at h
  by_cases h1 : 12 < d
  · rw [if_pos h1] at h; omega
  rw [if_neg h1, if_neg (by omega)] at h
  by_cases h2 : formS s = false
  · rw [if_pos h2] at h; omega
  rw [if_neg h2] at h
  split at h
  · omega
  · split at h
    · omega
    · rename_i h3
      simp [hk] at h3
      omega
theorem wrongSs_mem {d : Int} : ∀ {l : List PS}, wrongSs l d = 0 → ∀ x ∈ l, wrongS x d = 0
  | [], _, x, hx => by simp at hx
  | s :: l, h, x, hx => by
    rw [wrongSs] at h
    by_cases h1 : wrongS s d = 0
    · rw [if_neg (by omega)] at h
      rcases List.mem_cons.1 hx with rfl | hx
      · exact h1
      · exact wrongSs_mem h x hx
    · rw [if_pos h1] at h; exact absurd h h1
end Sim
namespace Go.Proofs.YtfnjeldpfilplaaGreatDoor
open Go.Vc Sim
theorem times_p (w0 : World) (sh : Shared) (p : P6) (a : Ef) (n : Int) (sa : a.sm 30000) (hn : n ≤ 9223372036854775807) :
    Vc.Fn PP w0 sh 60 [efV p a, .int .i64 n] [rdV w0 (efV p a) a] (fun v Γ => ∃ r : P6, v = efV r (timesE a n) ∧ Γ = [rdV w0 (efV r (timesE a n)) (timesE a n), rdV w0 (efV p a) a]) := by
  refine (Fn.lendR (φ := fun bl => RdEfV w0 bl (efV p a) a) en60 (fun sh1 bl1 h1 h2 h3 => times_spec w0 sh1 (efV p a) a n (h3.mono h2) sa hn)).know ?_
  rintro v Γ ⟨_, rfl, rfl⟩ hst
  obtain ⟨bl, hbl⟩ := Rds.st hst
  obtain ⟨x1, y1, x2, y2, x3, y3, h⟩ := hbl.form
  refine ⟨((x1, y1), (x2, y2), (x3, y3)), h, ?_⟩
  rw [h]; rfl
def TSpec (w0 : World) (ks : List (ByteArray × ByteArray)) (n : Nat) : Prop := ∀ (sh : Shared) (m fb : Nat) (w : Int) (s : PS) (va vo vb ve : Value) (d : Int), s.size ≤ n → RdSp w0 sh s va vo vb ve → RdM w0 sh m (kS ks) → wrongS s d = 0 →
  Vc.Fn PP w0 sh 44 [.pointer (some ⟨fb, 0, none⟩), .agg (List.toArray (psC s va vo vb ve))] [fPt fb m w]
    (fun v Γ => ∃ p : P6, v = efV p (stmtE ks s w).1 ∧ Γ = [rdV w0 (efV p (stmtE ks s w).1) (stmtE ks s w).1, fPt fb m (stmtE ks s w).2])
def ASpec (w0 : World) (ks : List (ByteArray × ByteArray)) (n : Nat) : Prop := ∀ (sh : Shared) (m fb : Nat) (w : Int) (v : Value) (l : List PS) (d : Int), PS.sizeL l ≤ n → RdSt w0 sh v l → RdM w0 sh m (kS ks) → wrongSs l d = 0 →
  Vc.Fn PP w0 sh 29 [.pointer (some ⟨fb, 0, none⟩), v] [fPt fb m w]
    (fun v Γ => ∃ p : P6, v = efV p (stmtEs ks l zeroE w).1 ∧ Γ = [rdV w0 (efV p (stmtEs ks l zeroE w).1) (stmtEs ks l zeroE w).1, fPt fb m (stmtEs ks l zeroE w).2])
set_option maxHeartbeats 2000000 in
theorem all_of (w0 : World) (ks : List (ByteArray × ByteArray)) (n : Nat) (hn : n ≤ 10000) (hT : TSpec w0 ks n) : ASpec w0 ks n := by
  intro sh m fb w v l d hl hr hR hwd
  obtain ⟨a, c, hv, _⟩ := hr.len
  subst hv
  have hlen := PS.sizeL_len l
  refine fn_of_run en29 fn29 rfl rfl rfl ?_
  repeat (first | refine zck ?_ | refine zcl ?_ | refine zcm ?_ | refine zcn ?_)
  first | refine zcp (by kernel_rfl) ?_ | refine zcq PP_mixed (by kernel_rfl) (by kernel_rfl) ?_
  repeat' (refine zap rfl ?_; first | refine zar (fun nb => ?_))
  all_goals refine zch ?_
  all_goals repeat (first | refine zck ?_ | refine zcl ?_ | refine zcm ?_ | refine zcn ?_)
  obtain ⟨b4, hb4⟩ : ∃ b, b = nb := ⟨_, rfl⟩
  subst hb4
  repeat (first | refine zck ?_ | refine zcl ?_ | refine zcm ?_ | refine zcn ?_)
  first | refine zcp (by kernel_rfl) ?_ | refine zcq PP_mixed (by kernel_rfl) (by kernel_rfl) ?_
  repeat' (refine zap rfl ?_; first | refine zar (fun nb => ?_))
  all_goals refine zch ?_
  all_goals repeat (first | refine zck ?_ | refine zcl ?_ | refine zcm ?_ | refine zcn ?_)
  obtain ⟨ob, hob⟩ : ∃ b, b = nb := ⟨_, rfl⟩
  subst hob
  refine run_emptyR (fun bl => RdEfV w0 bl (efV p0 zeroE) zeroE) RdEfV.zero ?_
  refine run_take [3, 0, 0, 0] rfl ?_
  repeat' (first | refine zcp (by kernel_rfl) ?_ | refine zcl ?_ | (refine zap rfl ?_; first | refine zan rfl ?_ | refine zce rfl ?_) | refine zch ?_)
  refine run_loop (S := Nat × P6 × Ef × Int) (fun s => [(0, .pointer (some ⟨fb, 0, none⟩)), (4, .pointer (some ⟨b4, 0, none⟩)), (5, .pointer (some ⟨ob, 0, none⟩)), (8, .slice a l.length c), (9, .int .i64 l.length), (10, .int .i64 s.1)])
    (fun s Γ => Γ = [ePt ob s.2.1 s.2.2.1, rdV w0 (efV s.2.1 s.2.2.1) s.2.2.1, fPt fb m s.2.2.2, ePt b4 p0 zeroE] ∧ s.1 ≤ l.length ∧ stmtEs ks (l.drop s.1) s.2.2.1 s.2.2.2 = stmtEs ks l zeroE w ∧ ∃ M, s.2.2.1.sm M ∧ M + PS.sizeL (l.drop s.1) ≤ 20000) (fun s => l.length - s.1) (0, p0, zeroE, w)
    ⟨rfl, rfl, rfl, rfl, rfl, rfl, trivial⟩ ⟨rfl, Nat.zero_le _, rfl, 0, zeroE_sm 0, by rw [List.drop_zero]; omega⟩ ?_
  rintro ⟨j, q, o, u⟩ Γ junk ⟨rfl, g1, g2, M, g3, g4⟩
  dsimp only at g1 g2 g3 g4 ⊢
  by_cases hj : j < l.length
  · obtain ⟨x, hx⟩ : ∃ x, l[j]? = some x := ⟨_, List.getElem?_eq_getElem hj⟩
    obtain ⟨b, off, cc, T, fr, cs, rfl, e2, e3, e4, _⟩ := hr.at hx
    obtain ⟨va, vo, vb, ve, rfl, hsp⟩ := e4.sp
    have hxm := List.mem_iff_getElem?.2 ⟨_, hx⟩
    have hxn := PS.sizeL_mem hxm
    obtain ⟨a1, c1, hva, _⟩ := hsp.a.len
    obtain ⟨a2, c2, hvo, _⟩ := hsp.o.len
    obtain ⟨a3, c3, hvb, _⟩ := hsp.b.len
    obtain ⟨a4, c4, hve, _⟩ := hsp.e.len
    subst hva; subst hvo; subst hvb; subst hve
    have hd : l.drop j = x :: l.drop (j + 1) := by
      rw [List.drop_eq_getElem_cons hj]
      congr 1
      exact (List.getElem?_eq_some_iff.1 hx).2
    rw [hd, PS.sizeL] at g4
    have hsx := stmtE_sm ks x u
    have hcall := hT sh m fb u x _ _ _ _ d (by omega) hsp hR (wrongSs_mem hwd x hxm)
    have hjoin := fun q' => join_p w0 [] q q' o (stmtE ks x u).1 (g3.mono (by omega)) (hsx.mono (by omega))
    rw [stmtEs_drop hx] at g2
    have hnext : (joinE o (stmtE ks x u).1).sm (M + x.size) := joinE_sm g3 hsx
    repeat (first | refine zck ?_ | refine zcl ?_ | refine zcm ?_ | refine zcn ?_)
    first | refine zcp (by kernel_rfl) ?_ | refine zcq PP_mixed (by kernel_rfl) (by kernel_rfl) ?_
    repeat' (refine zap rfl ?_; first | refine zbg rfl rfl (by omega) ?_)
    all_goals refine zch ?_
    all_goals repeat (first | refine zck ?_ | refine zcl ?_ | refine zcm ?_ | refine zcn ?_)
    refine zci rfl ?_
    repeat (first | refine zck ?_ | refine zcl ?_ | refine zcm ?_ | refine zcn ?_)
    first | refine zcp (by kernel_rfl) ?_ | refine zcq PP_mixed (by kernel_rfl) (by kernel_rfl) ?_
    repeat' (refine zap rfl ?_; first | refine zad rfl e2 (e3 _ (by omega)) ?_ | refine zae 4 rfl rfl rfl rfl rfl rfl rfl ?_ | refine zas rfl rfl (by omega) ?_ | refine zar (fun nb => ?_))
    all_goals refine zch ?_
    all_goals repeat (first | refine zck ?_ | refine zcl ?_ | refine zcm ?_ | refine zcn ?_)
    refine run_share [4] rfl ?_
    repeat (first | refine zck ?_ | refine zcl ?_ | refine zcm ?_ | refine zcn ?_)
    refine run_drawT [0] [(.quiet, 0), (.quiet, 1), (.quiet, 2), (.loud, 3), (.loud, 4)] [(.loud, 5)] PP_mixed (by kernel_rfl) (by kernel_rfl) rfl ?_
    repeat' (refine zap rfl ?_; first | refine zan rfl ?_ | refine zaa 0 rfl rfl rfl ?_ | refine zaa 1 rfl rfl rfl ?_ | (refine zai [1] hcall rfl rfl rfl (fun p hp => by simp [hp]) ?_; rintro v Γ ⟨q', rfl, rfl⟩) | (refine zai [2, 0] (hjoin _) rfl rfl rfl sub_nil ?_; rintro v Γ ⟨r, rfl, rfl⟩) | refine zce rfl ?_ | refine reg_addZ rfl rfl (by omega) ?_ | refine zau rfl rfl (by omega) ?_ | refine zbq rfl rfl ?_)
    all_goals refine reg_turn ?_
    all_goals repeat' (refine zap rfl ?_; first | refine zan rfl ?_ | (refine zai [1] hcall rfl rfl rfl (fun p hp => by simp [hp]) ?_; rintro v Γ ⟨q', rfl, rfl⟩) | (refine zai [2, 0] (hjoin _) rfl rfl rfl sub_nil ?_; rintro v Γ ⟨r, rfl, rfl⟩) | refine zce rfl ?_ | refine zae 0 rfl rfl rfl rfl rfl rfl rfl ?_)
    all_goals refine zch ?_
    all_goals repeat (first | refine zck ?_ | refine zcl ?_ | refine zcm ?_ | refine zcn ?_)
    refine run_take [0, 0, 2, 2] rfl ?_
    repeat' (first | refine zcp (by kernel_rfl) ?_ | (refine zap rfl ?_; first | refine zan rfl ?_ | refine zau rfl rfl (by omega) ?_) | refine zch ?_)
    exact cut_end ⟨rfl, (j + 1, r, joinE o (stmtE ks x u).1, (stmtE ks x u).2), ⟨rfl, rfl, rfl, rfl, rfl, int_eq (by dsimp only; omega), trivial⟩, ⟨rfl, by dsimp only; omega, g2, _, hnext, by dsimp only; omega⟩, by dsimp only; omega⟩
  · rw [List.drop_of_length_le (by omega), stmtEs] at g2
    repeat' (first | refine zck ?_ | refine zcp (by kernel_rfl) ?_ | (refine zap rfl ?_; first | refine zbh rfl rfl (by omega) ?_) | refine zch ?_ | refine zcj rfl ?_)
    refine cut_exit rfl rfl ?_
    rw [← g2]
    repeat' (first | refine zck ?_ | refine zcp (by kernel_rfl) ?_ | (refine zap rfl ?_; first | refine zab 0 rfl rfl rfl ?_ | refine zae 3 rfl rfl rfl rfl rfl rfl rfl ?_) | refine zch ?_)
    exact run_ret (leaves_nil (ends_take [1, 1] rfl (ends_one rfl (resOk_pt 3 rfl rfl rfl) ⟨rfl, q, rfl, rfl⟩)))
end Go.Proofs.YtfnjeldpfilplaaGreatDoor

namespace Go.Proofs.YtfnjeldpfilplaaGreatDoor
open Go.Vc Sim
set_option maxHeartbeats 4000000 in
theorem stmt_step (w0 : World) (ks : List (ByteArray × ByteArray)) (n : Nat) (hn : n + 1 ≤ 10000) (hA : ASpec w0 ks n) : TSpec w0 ks (n + 1) := by
  intro sh m fb w s va vo vb ve d hs hsp hR hwd
  obtain ⟨a1, c1, hva, _⟩ := hsp.a.len
  obtain ⟨a2, c2, hvo, _⟩ := hsp.o.len
  obtain ⟨a3, c3, hvb, _⟩ := hsp.b.len
  obtain ⟨a4, c4, hve, _⟩ := hsp.e.len
  subst hva; subst hvo; subst hvb; subst hve
  obtain ⟨w1, w2, w3⟩ := wrongS_zero hwd
  have n1 := s.size_expr
  have n2 := s.size_body
  have n3 := s.size_els
  have k1 := expr_spec w0 ks 10000 (by omega) sh m fb w s.expr _ _ (by omega) hsp.a hsp.o hR
  have k2 := hA sh m fb (exprE ks s.expr w).2 _ s.body (d + 1) (by omega) hsp.b hR w2
  have k3 := hA sh m fb (stmtEs ks s.body zeroE (exprE ks s.expr w).2).2 _ s.els (d + 1) (by omega) hsp.e hR w3
  have s1 := exprE_sm ks s.expr w
  have s2 := stmtEs_sm ks s.body zeroE (exprE ks s.expr w).2 0 (zeroE_sm 0)
  have s3 := stmtEs_sm ks s.els zeroE (stmtEs ks s.body zeroE (exprE ks s.expr w).2).2 0 (zeroE_sm 0)
  rw [stmtE_eq]
  dsimp only
  generalize exprE ks s.expr w = O1 at *
  generalize stmtEs ks s.body zeroE O1.2 = O2 at *
  generalize stmtEs ks s.els zeroE O2.2 = O3 at *
  obtain ⟨e1, u1⟩ := O1
  obtain ⟨e2, u2⟩ := O2
  obtain ⟨e3, u3⟩ := O3
  dsimp only at *
  refine fn_of_run en44 fn44 rfl rfl rfl ?_
  repeat (first | refine zck ?_ | refine zcl ?_ | refine zcm ?_ | refine zcn ?_)
  first | refine zcp (by kernel_rfl) ?_ | refine zcq PP_mixed (by kernel_rfl) (by kernel_rfl) ?_
  repeat' (refine zap rfl ?_; first | refine zaq (cs := [_, _, _, _, _, _, _, _, _, _, _]) rfl (fun nb => ?_) | refine zar (fun nb => ?_))
  all_goals refine zch ?_
  all_goals repeat (first | refine zck ?_ | refine zcl ?_ | refine zcm ?_ | refine zcn ?_)
  refine run_share [1] rfl ?_
  obtain ⟨b4, hb4⟩ : ∃ b, b = nb := ⟨_, rfl⟩
  subst hb4
  repeat (first | refine zck ?_ | refine zcl ?_ | refine zcm ?_ | refine zcn ?_)
  first | refine zcp (by kernel_rfl) ?_ | refine zcq PP_mixed (by kernel_rfl) (by kernel_rfl) ?_
  repeat' (refine zap rfl ?_; first | refine zar (fun nb5 => ?_) | refine zae 5 rfl rfl rfl rfl rfl rfl rfl ?_ | refine zae 6 rfl rfl rfl rfl rfl rfl rfl ?_ | refine zae 7 rfl rfl rfl rfl rfl rfl rfl ?_ | refine zan rfl ?_ | refine zaa 0 rfl rfl rfl ?_ | (refine zai [0] k1 rfl rfl rfl (fun p hp => by simp [hp]) ?_; rintro v Γ ⟨q1, rfl, rfl⟩) | (refine zai [1] k2 rfl rfl rfl (fun p hp => by simp [hp]) ?_; rintro v Γ ⟨q2, rfl, rfl⟩) | (refine zai [1] k3 rfl rfl rfl (fun p hp => by simp [hp]) ?_; rintro v Γ ⟨q3, rfl, rfl⟩) | refine zcf rfl rfl ?_ | refine zao rfl ?_)
  all_goals refine zch ?_
  all_goals repeat (first | refine zck ?_ | refine zcl ?_ | refine zcm ?_ | refine zcn ?_)
  refine run_share [5] rfl ?_
  refine run_share [5] rfl ?_
  refine run_share [5] rfl ?_
  unfold partE
  by_cases h4 : s.kind = 4
  · have hnum := wrongS0_num w1 h4
    have ht := times_p w0 [] q2 e2 s.num (s2.mono (by omega)) (by omega)
    rw [if_pos h4]
    repeat' (first | refine zck ?_ | refine zcp (by kernel_rfl) ?_ | (refine zap rfl ?_; first | refine zaa 1 rfl rfl rfl ?_ | refine zaa 3 rfl rfl rfl ?_ | (refine zai [2] ht rfl rfl rfl sub_nil ?_; rintro v Γ ⟨r, rfl, rfl⟩) | refine zao rfl ?_ | refine zbc rfl rfl (by omega) ?_ | refine zae 5 rfl rfl rfl rfl rfl rfl rfl ?_) | refine zch ?_ | refine zci rfl ?_)
    exact run_ret (leaves_nil (ends_take [0, 2] rfl (ends_one rfl (resOk_pt 5 rfl rfl rfl) ⟨rfl, r, rfl, rfl⟩)))
  · have hj := join_p w0 [] q2 q3 e2 e3 (s2.mono (by omega)) (s3.mono (by omega))
    have sJ : (joinE e2 e3).sm 20000 := (joinE_sm s2 s3).mono (by omega)
    have hj2 := fun r => join_p w0 [] q1 r e1 { joinE e2 e3 with calls := maxC e2.calls e3.calls } (s1.mono (by omega)) (Ef.sm.mono (e := { joinE e2 e3 with calls := maxC e2.calls e3.calls }) sJ (by omega))
    rw [if_neg h4]
    repeat (first | refine zck ?_ | refine zcl ?_ | refine zcm ?_ | refine zcn ?_)
    first | refine zcp (by kernel_rfl) ?_ | refine zcq PP_mixed (by kernel_rfl) (by kernel_rfl) ?_
    repeat' (refine zap rfl ?_; first | refine zaa 3 rfl rfl rfl ?_ | refine zao rfl ?_ | refine zbd rfl rfl (by omega) ?_)
    all_goals refine zch ?_
    all_goals repeat (first | refine zck ?_ | refine zcl ?_ | refine zcm ?_ | refine zcn ?_)
    refine zcj rfl ?_
    repeat (first | refine zck ?_ | refine zcl ?_ | refine zcm ?_ | refine zcn ?_)
    first | refine zcp (by kernel_rfl) ?_ | refine zcq PP_mixed (by kernel_rfl) (by kernel_rfl) ?_
    repeat' (refine zap rfl ?_; first | refine zan rfl ?_ | refine zaa 0 rfl rfl rfl ?_ | refine zaa 1 rfl rfl rfl ?_ | refine zcf rfl rfl ?_ | refine zao rfl ?_)
    all_goals refine zch ?_
    all_goals repeat (first | refine zck ?_ | refine zcl ?_ | refine zcm ?_ | refine zcn ?_)
    repeat (first | refine zck ?_ | refine zcl ?_ | refine zcm ?_ | refine zcn ?_)
    first | refine zcp (by kernel_rfl) ?_ | refine zcq PP_mixed (by kernel_rfl) (by kernel_rfl) ?_
    repeat' (refine zap rfl ?_; first | refine zae 6 rfl rfl rfl rfl rfl rfl rfl ?_ | refine zaa 0 rfl rfl rfl ?_ | refine zaa 1 rfl rfl rfl ?_ | (refine zai [2, 0] hj rfl rfl rfl sub_nil ?_; rintro v Γ ⟨r, rfl, rfl⟩) | refine zar (fun nb => ?_))
    all_goals refine zch ?_
    all_goals repeat (first | refine zck ?_ | refine zcl ?_ | refine zcm ?_ | refine zcn ?_)
    repeat (first | refine zck ?_ | refine zcl ?_ | refine zcm ?_ | refine zcn ?_)
    first | refine zcp (by kernel_rfl) ?_ | refine zcq PP_mixed (by kernel_rfl) (by kernel_rfl) ?_
    repeat' (refine zap rfl ?_; first | refine zae 6 rfl rfl rfl rfl rfl rfl rfl ?_ | refine zan rfl ?_ | refine zao rfl ?_)
    all_goals refine zch ?_
    all_goals repeat (first | refine zck ?_ | refine zcl ?_ | refine zcm ?_ | refine zcn ?_)
    refine run_exch 0 (rdV w0 (efV r { joinE e2 e3 with calls := maxC e2.calls e3.calls }) { joinE e2 e3 with calls := maxC e2.calls e3.calls }) rfl (fun g hg => Rds.mono (fun bl h => RdEfV.calls h _) g hg) rfl ?_
    repeat' (first | refine zcp (by kernel_rfl) ?_ | (refine zap rfl ?_; first | refine zab 6 rfl rfl rfl ?_ | refine zae 6 rfl rfl rfl rfl rfl rfl rfl ?_ | refine zaa 2 rfl rfl rfl ?_ | (refine zai [4, 0] (hj2 r) rfl rfl rfl sub_nil ?_; rintro v Γ ⟨r2, rfl, rfl⟩)) | refine zch ?_)
    exact run_ret (leaves_nil (ends_take [0, 4] rfl (ends_one rfl (resOk_pt 6 rfl rfl rfl) ⟨rfl, r2, rfl, rfl⟩)))
theorem stmt_spec (w0 : World) (ks : List (ByteArray × ByteArray)) : ∀ n, n ≤ 10000 → TSpec w0 ks n
  | 0, _ => fun sh m fb w s va vo vb ve d h => by have := s.size_pos; omega
  | n + 1, hn => stmt_step w0 ks n hn (all_of w0 ks n (by omega) (stmt_spec w0 ks n (by omega)))
theorem all_spec (w0 : World) (ks : List (ByteArray × ByteArray)) : ASpec w0 ks 10000 := all_of w0 ks 10000 (by omega) (stmt_spec w0 ks 10000 (by omega))
end Go.Proofs.YtfnjeldpfilplaaGreatDoor

namespace Sim
open Go Go.Vc
theorem lookK_none {s : ByteArray} : ∀ {l : List (ByteArray × ByteArray)}, inS (l.map (·.1)) s = false → lookK l s = none
  | [], _ => rfl
  | d :: l, h => by
    simp only [inS, List.map_cons, List.any_cons, Bool.or_eq_false_iff] at h
    rw [lookK, if_neg (by simpa using h.1)]
    exact lookK_none h.2
theorem freshN_in {met more : List ByteArray} {s : ByteArray} (h : freshN met s more = 0) : inS met s = false := by
  unfold freshN at h
  split at h
  · omega
  · split at h
    · omega
    · rename_i h2; simpa using h2
theorem wrongD_fresh {l : List (ByteArray × ByteArray)} (h : wrongD [] l = 0) : ∀ (j : Nat), j ≤ l.length → wrongD ((l.take j).map (·.1)) (l.drop j) = 0
  | 0, _ => h
  | j + 1, hj => by
    have ih := wrongD_fresh h j (by omega)
    obtain ⟨x, hx⟩ : ∃ x, l[j]? = some x := ⟨_, List.getElem?_eq_getElem (by omega)⟩
    rw [wrongD_drop hx] at ih
    by_cases h0 : freshN ((l.take j).map (·.1)) x.1 [x.2] = 0
    · rw [if_neg (by omega)] at ih
      rw [take_snoc hx, List.map_append]
      exact ih
    · rw [if_pos h0] at ih; exact absurd ih h0
theorem kS_next {l : List (ByteArray × ByteArray)} {j : Nat} {x : ByteArray × ByteArray} (h : wrongD [] l = 0) (hx : l[j]? = some x) : insS (kS (l.take j)) x.1 (.string x.2) = kS (l.take (j + 1)) := by
  have hj := (List.getElem?_eq_some_iff.1 hx).1
  have h1 := wrongD_fresh h j (by omega)
  rw [wrongD_drop hx] at h1
  have h0 : freshN ((l.take j).map (·.1)) x.1 [x.2] = 0 := by
    by_cases h0 : freshN ((l.take j).map (·.1)) x.1 [x.2] = 0
    · exact h0
    · rw [if_pos h0] at h1; exact absurd h1 h0
  rw [insS_none _ _ _ (by rw [lookK_S, lookK_none (freshN_in h0)]; rfl), take_snoc hx]
  simp [kS]
theorem wrongO_body {met : List ByteArray} {o : PO} (h : wrongO met o = 0) : wrongSs o.body 1 = 0 := by
  unfold wrongO at h
  split at h
  · rename_i h1; exact absurd h h1
  · split at h
    · omega
    · split at h
      · rename_i h1; exact absurd h h1
      · exact h
theorem wrongOs_mem : ∀ {l : List PO} {met : List ByteArray}, wrongOs met l = 0 → ∀ o ∈ l, wrongSs o.body 1 = 0
  | [], _, _, o, ho => by simp at ho
  | x :: l, met, h, o, ho => by
    rw [wrongOs] at h
    by_cases h1 : wrongO met x = 0
    · rw [if_neg (by omega)] at h
      rcases List.mem_cons.1 ho with rfl | ho
      · exact wrongO_body h1
      · exact wrongOs_mem h o ho
    · rw [if_pos h1] at h; exact absurd h h1
theorem checkP_zero {p : PP'} (h : checkP p = 0) : p.stores.length ≤ 12 ∧ p.opers.length ≤ 32 ∧ wrongD [] p.stores = 0 ∧ wrongOs [] p.opers = 0 := by
  unfold checkP at h
  split at h
  · omega
  · split at h
    · rename_i h1; exact absurd h h1
    · rename_i h1 h2; exact ⟨by omega, by omega, by simpa using h2, h⟩
end Sim
namespace Go.Proofs.YtfnjeldpfilplaaGreatDoor
open Go.Vc Sim
def OSpec (w0 : World) (sh : Shared) (v : Value) (oper : ByteArray) (r : Ef × Int) : Prop :=
  Vc.Fn PP w0 sh 14 [v, .string oper] [] (fun x Γ => ∃ q : P6, x = .tuple #[efV q r.1, .int .i64 r.2] ∧ Γ = [rdV w0 (efV q r.1) r.1])
set_option maxHeartbeats 4000000 in
theorem of_spec (w0 : World) (hk : KwOk w0) (sh : Shared) (v : Value) (p : PP') (oper : ByteArray) (hp : RdP w0 sh v p) (hs : PP'.small p) (hb : ∀ o ∈ p.opers, PS.sizeL o.body ≤ 10000) : OSpec w0 sh v oper (ofP p oper) := by
  have hck := check_spec w0 hk sh v p hp hs
  have hfd := find_spec w0 sh v p oper hp hs.2.1
  unfold OSpec
  obtain ⟨vs, vo, hv, h1, h2⟩ := hp
  subst hv
  obtain ⟨a1, c1, hvs, hc1, _⟩ := id h1
  obtain ⟨a2, c2, hvo, hc2⟩ := h2.len
  subst hvs; subst hvo
  by_cases hC : checkP p = 0
  · obtain ⟨z1, z2, z3, z4⟩ := checkP_zero hC
    rw [hC] at hck
    cases hF : findP p oper with
    | none =>
      have ho : ofP p oper = (zeroE, 10) := by unfold ofP; rw [if_neg (by omega), hF]
      rw [ho]
      rw [hF] at hfd
      dsimp only at hfd ⊢
      refine fn_of_run en14 fn14 rfl rfl rfl ?_
      repeat (first | refine zck ?_ | refine zcl ?_ | refine zcm ?_ | refine zcn ?_)
      first | refine zcp (by kernel_rfl) ?_ | refine zcq PP_mixed (by kernel_rfl) (by kernel_rfl) ?_
      repeat' (refine zap rfl ?_; first | refine zan rfl ?_ | refine zaq (cs := [_, _]) rfl (fun nb => ?_) | refine zar (fun nb => ?_))
      all_goals refine zch ?_
      all_goals repeat (first | refine zck ?_ | refine zcl ?_ | refine zcm ?_ | refine zcn ?_)
      refine run_share [0] rfl ?_
      repeat' (first | refine zck ?_ | refine zcp (by kernel_rfl) ?_ | refine zcm ?_ | (refine zap rfl ?_; first | refine zan rfl ?_ | refine zan rfl ?_ | refine zaa 0 rfl rfl rfl ?_ | refine zah [] hck rfl rfl rfl (fun p hp => by simp [hp]) rfl ?_ | (refine zai [] hfd rfl rfl rfl (fun p hp => by simp [hp]) ?_; rintro v Γ ⟨rfl, rfl⟩) | refine zce rfl ?_ | refine zan rfl ?_ | refine zbf rfl rfl (by omega) ?_ | refine zbx rfl ?_ | refine zae 0 rfl rfl rfl rfl rfl rfl rfl ?_ | refine zae 1 rfl rfl rfl rfl rfl rfl rfl ?_ | refine zar (fun nb => ?_) | refine zcb rfl ?_) | refine zch ?_ | refine zci rfl ?_ | refine zcj rfl ?_)
      refine run_emptyR (fun bl => RdEfV w0 bl (efV p0 zeroE) zeroE) RdEfV.zero ?_
      exact run_ret (leaves_nil (ends_take [0] rfl (ends_two rfl (resOk_pt 1 rfl rfl rfl) rfl ⟨rfl, p0, rfl, rfl⟩)))
    | some o =>
      rw [hF] at hfd
      dsimp only at hfd
      have hom : o ∈ p.opers := List.mem_of_find?_eq_some hF
      have hwb := wrongOs_mem z4 o hom
      have hbo := hb o hom
      have ho : ofP p oper = if (stmtEs p.stores o.body zeroE 0).2 ≠ 0 then (zeroE, (stmtEs p.stores o.body zeroE 0).2) else ((stmtEs p.stores o.body zeroE 0).1, 0) := by unfold ofP; rw [if_neg (by omega), hF]
      rw [ho]
      refine fn_of_run en14 fn14 rfl rfl rfl ?_
      repeat (first | refine zck ?_ | refine zcl ?_ | refine zcm ?_ | refine zcn ?_)
      first | refine zcp (by kernel_rfl) ?_ | refine zcq PP_mixed (by kernel_rfl) (by kernel_rfl) ?_
      repeat' (refine zap rfl ?_; first | refine zan rfl ?_ | refine zaq (cs := [_, _]) rfl (fun nb => ?_) | refine zar (fun nb => ?_))
      all_goals refine zch ?_
      all_goals repeat (first | refine zck ?_ | refine zcl ?_ | refine zcm ?_ | refine zcn ?_)
      refine run_share [0] rfl ?_
      obtain ⟨b4, hb4⟩ : ∃ b, b = nb := ⟨_, rfl⟩
      subst hb4
      repeat (first | refine zck ?_ | refine zcl ?_ | refine zcm ?_ | refine zcn ?_)
      first | refine zcp (by kernel_rfl) ?_ | refine zcq PP_mixed (by kernel_rfl) (by kernel_rfl) ?_
      repeat' (refine zap rfl ?_; first | refine zan rfl ?_ | refine zaa 0 rfl rfl rfl ?_ | refine zah [] hck rfl rfl rfl (fun p hp => by simp [hp]) rfl ?_ | refine zce rfl ?_ | refine zao rfl ?_)
      all_goals refine zch ?_
      all_goals repeat (first | refine zck ?_ | refine zcl ?_ | refine zcm ?_ | refine zcn ?_)
      repeat (first | refine zck ?_ | refine zcl ?_ | refine zcm ?_ | refine zcn ?_)
      first | refine zcp (by kernel_rfl) ?_ | refine zcq PP_mixed (by kernel_rfl) (by kernel_rfl) ?_
      repeat' (refine zap rfl ?_; first | refine zan rfl ?_ | refine zbf rfl rfl (by omega) ?_)
      all_goals refine zch ?_
      all_goals repeat (first | refine zck ?_ | refine zcl ?_ | refine zcm ?_ | refine zcn ?_)
      refine zcj rfl ?_
      repeat (first | refine zck ?_ | refine zcl ?_ | refine zcm ?_ | refine zcn ?_)
      first | refine zcp (by kernel_rfl) ?_ | refine zcq PP_mixed (by kernel_rfl) (by kernel_rfl) ?_
      repeat' (refine zap rfl ?_; first | refine zan rfl ?_ | refine zan rfl ?_ | refine zaa 0 rfl rfl rfl ?_ | (refine zai [] hfd rfl rfl rfl (fun p hp => by simp [hp]) ?_; rintro v Γ ⟨rfl, v, rfl, cs, rfl, vp, vb, rfl, r1, r2⟩; obtain ⟨a3, c3, hvp, _⟩ := id r1; obtain ⟨a4, c4, hvb, _⟩ := r2.len; subst hvp; subst hvb) | refine zce rfl ?_ | refine zan rfl ?_ | refine zae 1 rfl rfl rfl rfl rfl rfl rfl ?_ | refine zar (fun nb => ?_))
      all_goals refine zch ?_
      all_goals repeat (first | refine zck ?_ | refine zcl ?_ | refine zcm ?_ | refine zcn ?_)
      obtain ⟨b7, hb7⟩ : ∃ b, b = nb := ⟨_, rfl⟩
      subst hb7
      repeat (first | refine zck ?_ | refine zcl ?_ | refine zcm ?_ | refine zcn ?_)
      first | refine zcp (by kernel_rfl) ?_ | refine zcq PP_mixed (by kernel_rfl) (by kernel_rfl) ?_
      repeat' (refine zap rfl ?_; first | refine zan rfl ?_ | refine zbx rfl ?_)
      all_goals refine zch ?_
      all_goals repeat (first | refine zck ?_ | refine zcl ?_ | refine zcm ?_ | refine zcn ?_)
      refine zcj rfl ?_
      repeat (first | refine zck ?_ | refine zcl ?_ | refine zcm ?_ | refine zcn ?_)
      first | refine zcp (by kernel_rfl) ?_ | refine zcq PP_mixed (by kernel_rfl) (by kernel_rfl) ?_
      repeat' (refine zap rfl ?_; first | refine zcc (fun m => ?_) | refine zan rfl ?_ | refine zaq (cs := [_, _]) rfl (fun nb => ?_) | refine zcb rfl ?_)
      all_goals refine zch ?_
      all_goals repeat (first | refine zck ?_ | refine zcl ?_ | refine zcm ?_ | refine zcn ?_)
      obtain ⟨fb, hfb⟩ : ∃ b, b = nb := ⟨_, rfl⟩
      subst hfb
      refine run_exch 2 (MapS m (kS [])) rfl (mapS_make m) rfl ?_
      repeat (first | refine zck ?_ | refine zcl ?_ | refine zcm ?_ | refine zcn ?_)
      first | refine zcp (by kernel_rfl) ?_ | refine zcq PP_mixed (by kernel_rfl) (by kernel_rfl) ?_
      repeat' (refine zap rfl ?_; first | refine zan rfl ?_ | refine zaa 0 rfl rfl rfl ?_ | refine zce rfl ?_ | refine zao rfl ?_)
      all_goals refine zch ?_
      all_goals repeat (first | refine zck ?_ | refine zcl ?_ | refine zcm ?_ | refine zcn ?_)
      refine run_loop (S := Nat) (fun j => [(4, .pointer (some ⟨b4, 0, none⟩)), (7, .pointer (some ⟨b7, 0, none⟩)), (9, .pointer (some ⟨fb, 0, none⟩)), (32, .slice a1 p.stores.length c1), (33, .int .i64 p.stores.length), (34, .int .i64 j)])
        (fun j Γ => Γ = [ePt b4 p0 zeroE, pt b7 (.cells (List.toArray [.string o.name, .slice a3 o.params.length c3, .slice a4 o.body.length c4]) 45 (0, 0)), MapS m (kS (p.stores.take j)), fPt fb m 0] ∧ j ≤ p.stores.length) (fun j => p.stores.length - j) 0
        ⟨rfl, rfl, rfl, rfl, rfl, rfl, trivial⟩ ⟨rfl, by omega⟩ ?_
      rintro j Γ junk ⟨rfl, q1⟩
      by_cases hj : j < p.stores.length
      · obtain ⟨x, hx⟩ : ∃ x, p.stores[j]? = some x := ⟨_, List.getElem?_eq_getElem hj⟩
        obtain ⟨b, off, cc, T, fr, rfl, e2, e3, _⟩ := h1.cells hx
        have hnx := kS_next z3 hx
        have hput : ∀ A B C D : Asn, putAt 2 (MapS m (insS (kS (p.stores.take j)) x.1 (.string x.2))) [A, B, MapS m (kS (p.stores.take j)), C, D] = some [A, B, MapS m (kS (p.stores.take (j + 1))), C, D] := fun A B C D => by rw [hnx]; rfl
        repeat' (first | refine zck ?_ | refine zcp (by kernel_rfl) ?_ | refine run_drawR PP_mixed (by kernel_rfl) (by kernel_rfl) ?_ | refine zcm ?_ | refine zcl ?_ | refine zcn ?_ | (refine zap rfl ?_; first | refine zad rfl (fun hF Γ w h1 h2 => e2 hF Γ w (fun p hp => h1 p (by simp [hp])) h2) (e3 _ (by omega)) ?_ | refine reg_mapUpdateS 2 (u := .string x.2) rfl rfl rfl rfl (hput _ _ _ _) ?_ | refine zan rfl ?_ | refine zab 3 rfl rfl rfl ?_ | refine zab 4 rfl rfl rfl ?_ | refine zao rfl ?_ | refine zbg rfl rfl (by omega) ?_ | refine zau rfl rfl (by omega) ?_ | refine zae 4 rfl rfl rfl rfl rfl rfl rfl ?_ | refine zan rfl ?_ | refine zas rfl rfl (by omega) ?_ | refine zar (fun nb => ?_)) | refine zch ?_ | refine zci rfl ?_)
        refine run_take [0, 0, 0, 0] rfl ?_
        exact cut_end ⟨rfl, j + 1, ⟨rfl, rfl, rfl, rfl, rfl, int_eq (by omega), trivial⟩, ⟨rfl, by omega⟩, by omega⟩
      · have hjl : j = p.stores.length := by omega
        subst hjl
        rw [List.take_length]
        repeat' (first | refine zck ?_ | refine zcp (by kernel_rfl) ?_ | (refine zap rfl ?_; first | refine zbh rfl rfl (by omega) ?_) | refine zch ?_ | refine zcj rfl ?_)
        refine cut_exit rfl rfl ?_
        refine run_shareM [2] rfl ?_
        intro sh' hsub hR
        have hall := all_spec w0 p.stores sh' m fb 0 _ o.body 1 hbo (r2.mono fun p hp => hsub p (by simp [hp])) hR hwb
        repeat (first | refine zck ?_ | refine zcl ?_ | refine zcm ?_ | refine zcn ?_)
        first | refine zcp (by kernel_rfl) ?_ | refine zcq PP_mixed (by kernel_rfl) (by kernel_rfl) ?_
        repeat' (refine zap rfl ?_; first | refine zan rfl ?_ | refine zab 1 rfl rfl rfl ?_ | (refine zai [2] hall rfl rfl rfl (fun _ h => h) ?_; rintro v Γ ⟨q, rfl, rfl⟩) | refine zao rfl ?_ | refine zae 4 rfl rfl rfl rfl rfl rfl rfl ?_ | refine zar (fun nb => ?_))
        all_goals refine zch ?_
        all_goals repeat (first | refine zck ?_ | refine zcl ?_ | refine zcm ?_ | refine zcn ?_)
        generalize stmtEs p.stores o.body zeroE 0 = O at *
        obtain ⟨E, W⟩ := O
        dsimp only at *
        by_cases hW : W = 0
        · subst hW
          rw [if_neg (by decide)]
          dsimp only
          repeat' (first | refine zck ?_ | refine zcp (by kernel_rfl) ?_ | refine zcm ?_ | (refine zap rfl ?_; first | refine zan rfl ?_ | refine zan rfl ?_ | refine zab 1 rfl rfl rfl ?_ | refine zab 4 rfl rfl rfl ?_ | refine zao rfl ?_ | refine zbf rfl rfl (by omega) ?_ | refine zae 2 rfl rfl rfl rfl rfl rfl rfl ?_ | refine zan rfl ?_) | refine zch ?_ | refine zcj rfl ?_)
          exact run_ret (leaves_nil (ends_take [0] rfl (ends_two rfl (resOk_pt 2 rfl rfl rfl) rfl ⟨rfl, q, rfl, rfl⟩)))
        · rw [if_pos hW]
          dsimp only
          repeat (first | refine zck ?_ | refine zcl ?_ | refine zcm ?_ | refine zcn ?_)
          first | refine zcp (by kernel_rfl) ?_ | refine zcq PP_mixed (by kernel_rfl) (by kernel_rfl) ?_
          repeat' (refine zap rfl ?_; first | refine zan rfl ?_ | refine zab 1 rfl rfl rfl ?_ | refine zao rfl ?_ | refine zbe rfl rfl (by omega) ?_ | refine zan rfl ?_)
          all_goals refine zch ?_
          all_goals repeat (first | refine zck ?_ | refine zcl ?_ | refine zcm ?_ | refine zcn ?_)
          refine zci rfl ?_
          refine run_share [1] rfl ?_
          repeat' (first | refine zck ?_ | refine zcq PP_mixed (by kernel_rfl) (by kernel_rfl) ?_ | (refine zap rfl ?_; first | refine zan rfl ?_ | refine zan rfl ?_ | refine zaa 0 rfl rfl rfl ?_ | refine zao rfl ?_ | refine zae 1 rfl rfl rfl rfl rfl rfl rfl ?_ | refine zan rfl ?_ | refine zcb rfl ?_) | refine zch ?_)
          refine run_emptyR (fun bl => RdEfV w0 bl (efV p0 zeroE) zeroE) RdEfV.zero ?_
          exact run_ret (leaves_nil (ends_take [0] rfl (ends_two rfl (resOk_pt 2 rfl rfl rfl) rfl ⟨rfl, p0, rfl, rfl⟩)))
  · have ho : ofP p oper = (zeroE, checkP p) := by unfold ofP; rw [if_pos hC]
    rw [ho]
    dsimp only
    refine fn_of_run en14 fn14 rfl rfl rfl ?_
    repeat (first | refine zck ?_ | refine zcl ?_ | refine zcm ?_ | refine zcn ?_)
    first | refine zcp (by kernel_rfl) ?_ | refine zcq PP_mixed (by kernel_rfl) (by kernel_rfl) ?_
    repeat' (refine zap rfl ?_; first | refine zan rfl ?_ | refine zaq (cs := [_, _]) rfl (fun nb => ?_) | refine zar (fun nb => ?_))
    all_goals refine zch ?_
    all_goals repeat (first | refine zck ?_ | refine zcl ?_ | refine zcm ?_ | refine zcn ?_)
    refine run_share [0] rfl ?_
    repeat' (first | refine zck ?_ | refine zcp (by kernel_rfl) ?_ | (refine zap rfl ?_; first | refine zan rfl ?_ | refine zan rfl ?_ | refine zaa 0 rfl rfl rfl ?_ | refine zah [] hck rfl rfl rfl (fun p hp => by simp [hp]) rfl ?_ | refine zce rfl ?_ | refine zbe rfl rfl (by omega) ?_ | refine zae 0 rfl rfl rfl rfl rfl rfl rfl ?_ | refine zcb rfl ?_) | refine zch ?_ | refine zci rfl ?_)
    refine run_emptyR (fun bl => RdEfV w0 bl (efV p0 zeroE) zeroE) RdEfV.zero ?_
    exact run_ret (leaves_nil (ends_take [0] rfl (ends_two rfl (resOk_pt 1 rfl rfl rfl) rfl ⟨rfl, p0, rfl, rfl⟩)))
end Go.Proofs.YtfnjeldpfilplaaGreatDoor

namespace Sim
open Go Go.Vc
theorem tyS_mk (K : ByteArray → Option ByteArray) (k : Int) (a : ByteArray) (n : Int) (e : PE) (xs ys : List PS) (all there : TV) : tyS K (.mk k a n e xs ys) all there =
    if (oneT K all there (.mk k a n e xs ys)).2.2 ≠ 0 then oneT K all there (.mk k a n e xs ys) else
    if (tySs K xs (oneT K all there (.mk k a n e xs ys)).1 (oneT K all there (.mk k a n e xs ys)).2.1).2 ≠ 0 then ((tySs K xs (oneT K all there (.mk k a n e xs ys)).1 (oneT K all there (.mk k a n e xs ys)).2.1).1, (oneT K all there (.mk k a n e xs ys)).2.1, (tySs K xs (oneT K all there (.mk k a n e xs ys)).1 (oneT K all there (.mk k a n e xs ys)).2.1).2) else
    ((tySs K ys (tySs K xs (oneT K all there (.mk k a n e xs ys)).1 (oneT K all there (.mk k a n e xs ys)).2.1).1 (oneT K all there (.mk k a n e xs ys)).2.1).1, (oneT K all there (.mk k a n e xs ys)).2.1, (tySs K ys (tySs K xs (oneT K all there (.mk k a n e xs ys)).1 (oneT K all there (.mk k a n e xs ys)).2.1).1 (oneT K all there (.mk k a n e xs ys)).2.1).2) := by rw [tyS]
theorem tyS_eq (K : ByteArray → Option ByteArray) (s : PS) (all there all1 there1 : TV) (c : Int) (h : oneT K all there s = (all1, there1, c)) : tyS K s all there =
    if c ≠ 0 then (all1, there1, c) else
    if (tySs K s.body all1 there1).2 ≠ 0 then ((tySs K s.body all1 there1).1, there1, (tySs K s.body all1 there1).2) else
    ((tySs K s.els (tySs K s.body all1 there1).1 there1).1, there1, (tySs K s.els (tySs K s.body all1 there1).1 there1).2) := by
  obtain ⟨k, a, n, e, xs, ys⟩ := s
  rw [tyS_mk, h]
  rfl
theorem exT_ok {K : ByteArray → Option ByteArray} {there : TV} {s : PS} (h : (exT K there s).2 = 0) (hx : hasEx s.kind = true) : (exT K there s).1 = 1 ∨ (exT K there s).1 = 2 := by
  unfold exT at h ⊢
  rw [if_pos hx] at h ⊢
  rcases typeOf_ok (envT K there) s.expr with h1 | h1
  · exact h1.2
  · exact absurd h h1.1
structure TySt (all there : TV) : Prop where
  okA : okV all
  ndA : (all.map (·.1)).Nodup
  sub : ∀ v ∈ there, v ∈ all
  ndT : (there.map (·.1)).Nodup
theorem TySt.more {all there m : TV} (h : TySt all there) (h2 : okV (all ++ m)) (h3 : ((all ++ m).map (·.1)).Nodup) : TySt (all ++ m) there := ⟨h2, h3, fun v hv => List.mem_append_left _ (h.sub v hv), h.ndT⟩
theorem TySt.add {all there : TV} {n : ByteArray} {t : Int} (h : TySt all there) (ht : t = 1 ∨ t = 2) (hn : typT all n = 0) : TySt (all ++ [(n, t)]) (there ++ [(n, t)]) := by
  have hn := (typT_zero h.okA n).1 hn
  refine ⟨fun v hv => ?_, ?_, fun v hv => ?_, ?_⟩
  · rcases List.mem_append.1 hv with hv | hv
    · exact h.okA v hv
    · rw [List.mem_singleton.1 hv]; exact ht
  · rw [List.map_append, List.nodup_append]
    refine ⟨h.ndA, by simp, fun x hx y hy e => ?_⟩
    rw [List.map_singleton, List.mem_singleton] at hy
    have hy : y = n := hy
    exact hn (by rw [← hy, ← e]; exact hx)
  · rcases List.mem_append.1 hv with hv | hv
    · exact List.mem_append_left _ (h.sub v hv)
    · exact List.mem_append_right _ hv
  · rw [List.map_append, List.nodup_append]
    refine ⟨h.ndT, by simp, fun x hx y hy e => ?_⟩
    rw [List.map_singleton, List.mem_singleton] at hy
    have hy : y = n := hy
    obtain ⟨v, hv, rfl⟩ := List.mem_map.1 hx
    exact hn (by rw [← hy, ← e]; exact List.mem_map_of_mem (h.sub v hv))
theorem oneT_st {K : ByteArray → Option ByteArray} {all there : TV} {s : PS} (h : TySt all there) : ∃ m, (oneT K all there s).1 = all ++ m ∧ (oneT K all there s).2.1 = there ++ m ∧ TySt (all ++ m) (there ++ m) ∧ m.length ≤ 1 := by
  have h0 : ∃ m, all = all ++ m ∧ there = there ++ m ∧ TySt (all ++ m) (there ++ m) ∧ m.length ≤ 1 := ⟨[], (List.append_nil _).symm, (List.append_nil _).symm, by rw [List.append_nil, List.append_nil]; exact h, Nat.zero_le _⟩
  unfold oneT
  by_cases h1 : (exT K there s).2 = 0
  rotate_left
  · rw [if_pos h1]; exact h0
  rw [if_neg (fun q => q h1)]
  by_cases h2 : s.kind = 0
  · rw [if_pos h2]
    by_cases h3 : typT all s.name = 0
    · rw [if_neg (fun q => q h3)]
      exact ⟨_, rfl, rfl, h.add (exT_ok h1 (by rw [h2]; rfl)) h3, Nat.le_refl _⟩
    · rw [if_pos h3]; exact h0
  rw [if_neg h2]
  split
  · exact h0
  split
  · exact h0
  · exact h0
mutual
theorem tyS_st {K : ByteArray → Option ByteArray} : ∀ (s : PS) {all there : TV}, TySt all there → ∃ m m', (tyS K s all there).1 = all ++ m ∧ (tyS K s all there).2.1 = there ++ m' ∧ TySt (all ++ m) (there ++ m')
  | .mk k a n e xs ys, all, there, h => by
    obtain ⟨m, h1, h2, h3, _⟩ := oneT_st (K := K) (s := .mk k a n e xs ys) h
    rw [tyS_mk, h1, h2]
    split
    · exact ⟨m, m, h1, h2, h3⟩
    obtain ⟨m1, i1, i2⟩ := tySs_st xs h3
    rw [i1]
    split
    · exact ⟨m ++ m1, m, by rw [List.append_assoc], rfl, by rw [← List.append_assoc]; exact i2⟩
    obtain ⟨m2, j1, j2⟩ := tySs_st ys i2
    rw [j1]
    exact ⟨m ++ m1 ++ m2, m, by simp only [List.append_assoc], rfl, by simpa only [List.append_assoc] using j2⟩
theorem tySs_st {K : ByteArray → Option ByteArray} : ∀ (l : List PS) {all there : TV}, TySt all there → ∃ m, (tySs K l all there).1 = all ++ m ∧ TySt (all ++ m) there
  | [], all, there, h => ⟨[], by rw [tySs, List.append_nil], by rw [List.append_nil]; exact h⟩
  | s :: l, all, there, h => by
    obtain ⟨m, m', h1, h2, h3⟩ := tyS_st (K := K) s h
    rw [tySs, h1, h2]
    split
    · exact ⟨m, rfl, h3.okA, h3.ndA, fun v hv => List.mem_append_left _ (h.sub v hv), h.ndT⟩
    obtain ⟨m1, i1, i2⟩ := tySs_st l h3
    rw [i1]
    exact ⟨m ++ m1, by rw [List.append_assoc], by rw [← List.append_assoc]; exact ⟨i2.okA, i2.ndA, fun v hv => List.mem_append_left _ (List.mem_append_left _ (h.sub v hv)), h.ndT⟩⟩
end
def goodO (o : PO) : Prop := freshN [] o.name [] = 0 ∧ o.params.length ≤ 4 ∧ freshAll [] o.params = 0 ∧ wrongSs o.body 1 = 0
theorem freshN_met {met more : List ByteArray} {s : ByteArray} : freshN met s more = 0 ↔ freshN [] s more = 0 ∧ inS met s = false := by
  unfold freshN
  split
  · exact ⟨fun h => by omega, fun h => by omega⟩
  · rw [if_neg (show ¬ inS [] s = true by simp [inS])]
    split
    · rename_i h; exact ⟨fun h => by omega, fun h2 => by rw [h2.2] at h; cases h⟩
    · rename_i h; exact ⟨fun _ => ⟨rfl, by simpa using h⟩, fun _ => rfl⟩
theorem wrongO_iff {met : List ByteArray} {o : PO} : wrongO met o = 0 ↔ goodO o ∧ inS met o.name = false := by
  unfold wrongO goodO
  by_cases h1 : freshN met o.name [] = 0
  · rw [if_neg (fun q => q h1)]
    have h1' := freshN_met.1 h1
    by_cases h2 : 4 < o.params.length
    · rw [if_pos h2]; exact ⟨fun h => by omega, fun h => by omega⟩
    rw [if_neg h2]
    by_cases h3 : freshAll [] o.params = 0
    · rw [if_neg (fun q => q h3)]
      exact ⟨fun h => ⟨⟨h1'.1, by omega, h3, h⟩, h1'.2⟩, fun h => h.1.2.2.2⟩
    · rw [if_pos h3]; exact ⟨fun h => absurd h h3, fun h => absurd h.1.2.2.1 h3⟩
  · rw [if_pos h1]; exact ⟨fun h => absurd h h1, fun h => absurd (freshN_met.2 ⟨h.1.1, h.2⟩) h1⟩
theorem inS_mem {l : List ByteArray} {s : ByteArray} : inS l s = false ↔ s ∉ l := by
  unfold inS
  rw [List.any_eq_false]
  exact ⟨fun h hm => h s hm (by simp), fun h x hx e => h (by simp at e; subst e; exact hx)⟩
theorem wrongOs_iff : ∀ {l : List PO} {met : List ByteArray}, wrongOs met l = 0 ↔ (∀ o ∈ l, goodO o) ∧ (l.map (·.name)).Nodup ∧ ∀ o ∈ l, o.name ∉ met
  | [], met => by simp [wrongOs]
  | x :: l, met => by
    rw [wrongOs]
    by_cases h : wrongO met x = 0
    · rw [if_neg (fun q => q h), wrongOs_iff]
      obtain ⟨h1, h2⟩ := wrongO_iff.1 h
      rw [inS_mem] at h2
      rw [List.map_cons, List.nodup_cons]
      constructor
      · rintro ⟨g1, g2, g3⟩
        refine ⟨fun o ho => ?_, ⟨fun hm => ?_, g2⟩, fun o ho => ?_⟩
        · rcases List.mem_cons.1 ho with rfl | ho
          · exact h1
          · exact g1 o ho
        · obtain ⟨o, ho, e⟩ := List.mem_map.1 hm
          exact g3 o ho (by rw [e]; exact List.mem_append_right _ (.head _))
        · rcases List.mem_cons.1 ho with rfl | ho
          · exact h2
          · exact fun hm => g3 o ho (List.mem_append_left _ hm)
      · rintro ⟨g1, ⟨g2, g3⟩, g4⟩
        refine ⟨fun o ho => g1 o (.tail _ ho), g3, fun o ho hm => ?_⟩
        rcases List.mem_append.1 hm with hm | hm
        · exact g4 o (.tail _ ho) hm
        · exact g2 (List.mem_map.2 ⟨o, ho, List.mem_singleton.1 hm⟩)
    · rw [if_pos h]
      refine ⟨fun q => absurd q h, fun ⟨g1, g2, g3⟩ => absurd (wrongO_iff.2 ⟨g1 x (.head _), inS_mem.2 (g3 x (.head _))⟩) h⟩
theorem checkP_iff {p : PP'} : checkP p = 0 ↔ p.stores.length ≤ 12 ∧ p.opers.length ≤ 32 ∧ wrongD [] p.stores = 0 ∧ (∀ o ∈ p.opers, goodO o) ∧ (p.opers.map (·.name)).Nodup := by
  constructor
  · intro h
    obtain ⟨h1, h2, h3, h4⟩ := checkP_zero h
    obtain ⟨g1, g2, _⟩ := wrongOs_iff.1 h4
    exact ⟨h1, h2, h3, g1, g2⟩
  · rintro ⟨h1, h2, h3, h4, h5⟩
    unfold checkP
    rw [if_neg (by omega), if_neg (fun q => q h3)]
    exact wrongOs_iff.2 ⟨h4, h5, fun _ _ h => by simp at h⟩
theorem freshAll_nodup : ∀ {l met : List ByteArray}, freshAll met l = 0 → l.Nodup ∧ ∀ s ∈ l, s ∉ met
  | [], _, _ => ⟨List.nodup_nil, fun _ h => by cases h⟩
  | s :: l, met, h => by
    rw [freshAll] at h
    by_cases h1 : freshN met s [] = 0
    · rw [if_neg (fun q => q h1)] at h
      obtain ⟨i1, i2⟩ := freshAll_nodup h
      have h2 := inS_mem.1 (freshN_met.1 h1).2
      refine ⟨List.nodup_cons.2 ⟨fun hm => i2 s hm (List.mem_append_right _ (.head _)), i1⟩, fun x hx => ?_⟩
      rcases List.mem_cons.1 hx with rfl | hx
      · exact h2
      · exact fun hm => i2 x hx (List.mem_append_left _ hm)
    · rw [if_pos h1] at h; exact absurd h h1
theorem parV_st {o : PO} (h : goodO o) : TySt (parV o) (parV o) := by
  have hn : ((parV o).map (·.1)).Nodup := by
    unfold parV
    rw [List.map_map]
    show (o.params.map fun n => n).Nodup
    rw [List.map_id']
    exact (freshAll_nodup h.2.2.1).1
  refine ⟨fun v hv => ?_, hn, fun v hv => hv, hn⟩
  obtain ⟨n, _, rfl⟩ := List.mem_map.1 hv
  exact .inl rfl
structure WellP (p : PP') : Prop where
  check : checkP p = 0
  kinds : ∀ d ∈ p.stores, ctKind d.2 ≠ none
  opers : ∀ o ∈ p.opers, (tyO p o).2 = 0
theorem wellP_iff {p : PP'} : (tyP p).2 = 0 ↔ WellP p := by
  unfold tyP
  by_cases h : checkP p = 0
  rotate_left
  · rw [if_pos h]; exact ⟨fun q => absurd q h, fun q => absurd q.check h⟩
  rw [if_neg (fun q => q h)]
  cases h1 : badStore p with
  | some d =>
    have h2 := List.find?_some h1
    have h3 := List.mem_of_find?_eq_some h1
    simp only [decide_eq_true_eq] at h2
    exact ⟨fun q => absurd (show (2 : Int) = 0 from q) (by decide), fun q => absurd h2 (q.kinds d h3)⟩
  | none =>
    have h2 : ∀ d ∈ p.stores, ctKind d.2 ≠ none := fun d hd => by
      have := List.find?_eq_none.1 h1 d hd
      simpa using this
    cases h3 : badOper p with
    | some o =>
      have h4 := List.find?_some h3
      have h5 := List.mem_of_find?_eq_some h3
      simp only [decide_eq_true_eq] at h4
      exact ⟨fun q => absurd q h4, fun q => absurd (q.opers o h5) h4⟩
    | none =>
      refine ⟨fun _ => ⟨h, h2, fun o ho => ?_⟩, fun _ => rfl⟩
      have := List.find?_eq_none.1 h3 o ho
      simpa using this
theorem wellP_sub {p : PP'} (h : WellP p) {l : List PO} (hs : ∀ o ∈ l, o ∈ p.opers) (hn : (l.map (·.name)).Nodup) (hl : l.length ≤ 32) : WellP ⟨p.stores, l⟩ := by
  obtain ⟨h1, h2, h3, h4, h5⟩ := checkP_iff.1 h.check
  exact ⟨checkP_iff.2 ⟨h1, hl, h3, fun o ho => h4 o (hs o ho), hn⟩, h.kinds, fun o ho => h.opers o (hs o ho)⟩
theorem findP_mem {p : PP'} (hn : (p.opers.map (·.name)).Nodup) {o : PO} (ho : o ∈ p.opers) : findP p o.name = some o := by
  unfold findP
  revert hn ho
  generalize p.opers = l
  intro hn ho
  induction l with
  | nil => simp at ho
  | cons x l ih =>
    rw [List.map_cons, List.nodup_cons] at hn
    by_cases hx : x.name = o.name
    · rw [List.find?_cons_of_pos (by simpa using hx)]
      rcases List.mem_cons.1 ho with rfl | ho
      · rfl
      · exact absurd (List.mem_map.2 ⟨o, ho, hx.symm⟩) hn.1
    · rw [List.find?_cons_of_neg (by simpa using hx)]
      rcases List.mem_cons.1 ho with rfl | ho
      · exact absurd rfl hx
      · exact ih hn.2 ho
end Sim

