import Derived.Test.YtpcnbaddkblbhaaPart11
/- Lemmas and walks for the claims of this seat (own work): Lw7 Lw8 Lw9 Ck0 Lw10 Lw11 Lw12 Lw13. -/
/- The law's awake. -/
namespace Go.Vc
theorem sub_swap2 {a b : Nat × Obj} {sh : Shared} : ∀ p ∈ [a, b], p ∈ b :: a :: sh := fun p hp => by
  simp only [List.mem_cons, List.not_mem_nil, or_false] at hp ⊢
  rcases hp with h | h
  · exact .inr (.inl h)
  · exact .inl h
theorem flat_at {α : Type} {encE : α → List Value} {q : Nat} : ∀ (l : List α), (∀ x ∈ l, (encE x).length = q) → ∀ (i : Nat) (x : α), l[i]? = some x → ∀ k u, (encE x)[k]? = some u → (l.flatMap encE)[i * q + k]? = some u
  | [], _, i, x, hx, _, _, _ => by simp at hx
  | y :: l, hq, i, x, hx, k, u, hu => by
    have hy := hq y (by simp)
    have hk := (List.getElem?_eq_some_iff.1 hu).1
    rw [List.flatMap_cons]
    cases i with
    | zero =>
      simp only [List.getElem?_cons_zero, Option.some.injEq] at hx
      subst hx
      rw [List.getElem?_append_left (by omega), show 0 * q + k = k by omega]
      exact hu
    | succ i =>
      rw [List.getElem?_cons_succ] at hx
      have e : (i + 1) * q + k = q + (i * q + k) := by rw [Nat.succ_mul]; omega
      rw [List.getElem?_append_right (by omega), e, hy, Nat.add_sub_cancel_left]
      exact flat_at l (fun z hz => hq z (by simp [hz])) i x hx k u hu
/-- A block that was made of elements. -/
theorem RdSl.flat {α : Type} {encE : α → List Value} {q b : Nat} {w0 : World} {sh : Shared} {l : List α} {T : TypeId} {fr : Nat × Nat} (hq : ∀ x ∈ l, (encE x).length = q) (hm : (b, Obj.cells (List.toArray (l.flatMap encE)) T fr) ∈ sh) :
    RdSl w0 sh encE q (.slice (some ⟨b, 0, none⟩) l.length l.length) l := by
  refine ⟨_, _, rfl, Nat.le_refl _, .inr ⟨b, 0, _, T, fr, rfl, fun hF Γ w hsh hst => (hst.frame (hsh _ hm)).2, fun i x hx => ⟨hq x (List.mem_of_getElem? hx), fun k u hu => ?_⟩⟩⟩
  rw [List.getElem?_toArray, Nat.zero_add]
  exact flat_at l hq i x hx k u hu
/-- A contract whose resources, but one, are packed. -/
theorem Fn.packed {P : Program} {w0 : World} {sh : Shared} {f : FuncId} {args : List Value} {A : Asn} {L : List Asn} {R R' : Value → List Asn → Prop} (h : Fn P w0 sh f args (A :: L) R) (hR : ∀ v Γ, R v Γ → ∃ B L', Γ = B :: L' ∧ R' v [B, StarsA L']) :
    Fn P w0 sh f args [A, StarsA L] R' :=
  ⟨h.enters, fun hF w hsh ⟨g, ⟨g1, g2, d1, d2, d3, d4⟩, h2, h3⟩ => (h.calls hF w hsh ⟨g, ⟨g1, g2, d1, d2, d3, Stars.one.1 d4⟩, h2, h3⟩).mono fun e w' ⟨v, Γ', e1, e2, e3⟩ => by
    obtain ⟨B, L', rfl, e4⟩ := hR v Γ' e2
    obtain ⟨g, ⟨g1, g2, d1, d2, d3, d4⟩, g3, g4⟩ := e3
    exact ⟨v, _, e1, e4, g, ⟨g1, g2, d1, d2, d3, Stars.one.2 d4⟩, g3, g4⟩⟩
/-- A contract over a block that may be read, for a block that is owned. -/
theorem Fn.owned {P : Program} {w0 : World} {sh : Shared} {f : FuncId} {args : List Value} {Γ : List Asn} {R : Value → List Asn → Prop} {b : Nat} {o : Obj} (h : Fn P w0 ((b, o) :: sh) f args Γ R) :
    Fn P w0 sh f args (pt b o :: Γ) fun r Γ' => ∃ Γ'', R r Γ'' ∧ Γ' = Γ'' ++ [pt b o] := by
  refine ⟨h.enters, fun hF w hsh hst => ?_⟩
  have h1 : St w0 hF (Γ ++ [pt b o]) w := hst.perm (List.perm_append_comm (l₁ := [_]))
  obtain ⟨g, hg, hdj, hst2⟩ := h1.split
  have hg1 : pt b o g := Stars.one.1 hg
  simp only [pt] at hg1
  subst hg1
  have hsub : ∀ c oc, hF c = some oc → ((Heap.one b o).or hF) c = some oc := fun c oc hc => by
    rcases hdj c with e | e
    · simp [Heap.or, e, hc]
    · rw [e] at hc; cases hc
  refine (h.calls _ w (fun p hp => ?_) hst2).mono ?_
  · rcases List.mem_cons.1 hp with rfl | hp
    · simp [Heap.or, Heap.one]
    · exact hsub _ _ (hsh p hp)
  · rintro e w' ⟨r, Γ', he, h4, h5⟩
    exact ⟨r, _, he, ⟨Γ', h4, rfl⟩, h5.join hg hdj⟩
end Go.Vc
namespace Sim
open Go Go.Vc
def ex5 : List Cl := [⟨0, 0, 0⟩, ⟨0, 0, 0⟩, ⟨0, 0, 0⟩, ⟨2, 2, 3⟩, ⟨2, 1, 3⟩]
def ex6 : List Cl := ex5 ++ [⟨4, 0, 0⟩]
theorem ex5_ok : ∀ x ∈ ex5, x.ok := by
  intro x hx
  simp only [ex5, List.mem_cons, List.not_mem_nil, or_false] at hx
  rcases hx with rfl | rfl | rfl | rfl | rfl <;> exact ⟨by decide, ⟨by decide, by decide⟩, ⟨by decide, by decide⟩⟩
theorem ex6_ok : ∀ x ∈ ex6, x.ok := by
  intro x hx
  simp only [ex6, List.mem_append, List.mem_singleton] at hx
  rcases hx with hx | rfl
  · exact ex5_ok x hx
  · exact ⟨by decide, ⟨by decide, by decide⟩, ⟨by decide, by decide⟩⟩
theorem ex5_pl : plJ 9 ex5 5 = (3, [(1, 2), (3, 2)]) := by decide
theorem ex6_pl : plJ 9 ex6 6 = (3, [(3, 2)]) := by decide
end Sim
namespace Go.Proofs.Ytpcnbaddkblbhaa
open Go.Vc Sim
set_option maxHeartbeats 8000000
abbrev i8B (b : Nat) (x : Int) : Asn := pt b (.cells (List.toArray [.int .i64 x]) 2 (0, 0))
section
variable {K : Int} {m : Int → Int} {k : Nat} {J : Jn} {ad : Nat → Int}
theorem awake1 (w0 : World) (sh : Shared) (p xb rb nb wb : Nat) (hK : 0 ≤ K ∧ K ≤ 38) (r : Rl) (s : Sp) (hC : Cu 368 s s m 0) (h : Mm K m k (nC k) (tC k) J ad) (hk : 3 ≤ k) (hxb : (xb, .cells (List.toArray (stC wb K r k J)) 36 (0, 0)) ∈ sh) :
    Vc.Fn PP w0 sh 38 [spP p, ptr xb, ptr rb, ptr nb] [SpaceA p s, i8B rb 0, i8B nb 0]
      (fun v Γ => ∃ (s' : Sp), v = .tuple #[] ∧ Γ = [SpaceA p s', i8B rb (rep J 3), i8B nb (sz J (rep J 1))] ∧ Cu 368 s s' m 0) := by
  have hmx : ∀ hF Γ w, Sh sh hF → St w0 hF Γ w → w.heap[xb]? = some (.cells (List.toArray (stC wb K r k J)) 36 (0, 0)) := fun hF Γ w h1 h2 => (h2.frame (h1 _ hxb)).2
  refine fn_of_run en38 fn38 rfl rfl rfl ?_
  repeat' (first | refine zck ?_ | refine zcp (by kernel_rfl) ?_ | (refine zap rfl ?_; first | refine zad rfl hmx rfl ?_ | ((with_reducible refine zcu ?_); refine zan rfl ?_) | ((with_reducible refine zcx ?_); first | (refine reg_callO [0] hC ((f0 K).bd_find 3) (find_ok hK h (by decide) (by omega)) (by omega) (foFind w0 p (f0 K) (f0_ok hK) 3 (by decide)) rfl rfl rfl sub_nil ?_; rintro x s1 m1 ⟨rfl, em⟩ hC; rw [em] at hC) | (refine reg_callO [0] hC ((f0 K).bd_sizeOf 1) (size_ok hK h (by decide) (by omega)) (by omega) (foSize w0 p (f0 K) (f0_ok hK) 1 (by decide)) rfl rfl rfl sub_nil ?_; rintro x s2 m2 ⟨rfl, em2⟩ hC; rw [em2] at hC)) | ((with_reducible refine zcy ?_); refine zao rfl ?_) | ((with_reducible refine zcz ?_); refine zan rfl ?_) | ((with_reducible refine zdd ?_); first | refine zae 1 rfl rfl rfl rfl rfl rfl rfl ?_ | refine zae 2 rfl rfl rfl rfl rfl rfl rfl ?_)) | refine zch ?_)
  exact run_nil (leaves_nil (ends_none rfl ⟨_, rfl, rfl, hC⟩))
theorem awake2 (w0 : World) (sh : Shared) (p xb rb wb : Nat) (hK : 0 ≤ K ∧ K ≤ 38) (r : Rl) (s : Sp) (hC : Cu 368 s s m 0) (h : Mm K m k (nC k) (tC k) J ad) (hk : 3 ≤ k) (hxb : (xb, .cells (List.toArray (stC wb K r k J)) 36 (0, 0)) ∈ sh) :
    Vc.Fn PP w0 sh 39 [spP p, ptr xb, ptr rb] [SpaceA p s, i8B rb 0]
      (fun v Γ => ∃ (s' : Sp), v = .tuple #[] ∧ Γ = [SpaceA p s', i8B rb (rep J 1)] ∧ Cu 368 s s' m 0) := by
  have hmx : ∀ hF Γ w, Sh sh hF → St w0 hF Γ w → w.heap[xb]? = some (.cells (List.toArray (stC wb K r k J)) 36 (0, 0)) := fun hF Γ w h1 h2 => (h2.frame (h1 _ hxb)).2
  refine fn_of_run en39 fn39 rfl rfl rfl ?_
  repeat' (first | refine zcp (by kernel_rfl) ?_ | (refine zap rfl ?_; first | refine zad rfl hmx rfl ?_ | ((with_reducible refine zcu ?_); refine zan rfl ?_) | ((with_reducible refine zcx ?_); (refine reg_callO [0] hC ((f0 K).bd_find 1) (find_ok hK h (by decide) (by omega)) (by omega) (foFind w0 p (f0 K) (f0_ok hK) 1 (by decide)) rfl rfl rfl sub_nil ?_; rintro x s1 m1 ⟨rfl, em⟩ hC; rw [em] at hC)) | ((with_reducible refine zcy ?_); refine zao rfl ?_) | ((with_reducible refine zcz ?_); refine zan rfl ?_) | ((with_reducible refine zdd ?_); refine zae 1 rfl rfl rfl rfl rfl rfl rfl ?_)) | refine zch ?_)
  exact run_nil (leaves_nil (ends_none rfl ⟨_, rfl, rfl, hC⟩))
end
theorem played_at (w0 : World) (sh : Shared) (nn : Int) (hn : 0 ≤ nn ∧ nn ≤ 255) (v : Value) (l : List Cl) (hv : RdSl w0 sh Cl.cells 3 v l) (hok : ∀ x ∈ l, x.ok) (hlen : l.length ≤ 1000000) (K : Int) (hK : nn % 39 = K) (k : Nat) (J : Jn) (hJ : plJ K l l.length = (k, J)) :
    Vc.Fn PP w0 sh 11 [.int .u8 nn, v] []
      (fun v Γ => ∃ (st : Fs K k J) (wb : Nat) (kn : List (Int × Wd)), v = .tuple #[stR wb K st.r k J, .bool true] ∧ Γ = wdA wb kn :: rl3 st.r k J ∧ WM 368 l.length kn st.m) := by
  subst hK
  have := played_spec w0 sh nn hn v l hv hok hlen
  rw [hJ] at this
  exact this
abbrev exB (b : Nat) (l : List Cl) : Asn := pt b (.cells (List.toArray (l.flatMap Cl.cells)) 66 (0, 0))
theorem played_ex (w0 : World) (b : Nat) (l : List Cl) (hok : ∀ x ∈ l, x.ok) (hlen : l.length ≤ 1000000) (k : Nat) (J : Jn) (hJ : plJ 9 l l.length = (k, J)) :
    Vc.Fn PP w0 [] 11 [.int .u8 9, .slice (some ⟨b, 0, none⟩) l.length l.length] [exB b l]
      (fun v Γ => ∃ (st : Fs 9 k J) (wb : Nat) (kn : List (Int × Wd)), v = .tuple #[stR wb 9 st.r k J, .bool true] ∧ Γ = wdA wb kn :: rl3 st.r k J ++ [exB b l] ∧ WM 368 l.length kn st.m) := by
  refine ((played_at w0 _ 9 (by decide) _ l (RdSl.flat (fun _ _ => rfl) (.head _)) hok hlen 9 rfl k J hJ).owned).mono ?_
  rintro v Γ ⟨Γ', ⟨st, wb, kn, h1, rfl, h2⟩, rfl⟩
  exact ⟨st, wb, kn, h1, rfl, h2⟩
theorem awake_spec (w0 : World) : FnE PP w0 [] 10 [] [] (.bool true) [] := by
  refine fn_of_run en10 fn10 rfl rfl rfl ?_
  repeat (first | refine zck ?_ | refine zcl ?_ | refine zcm ?_ | refine zcn ?_)
  first | refine zcp (by kernel_rfl) ?_ | refine zcq PP_mixed (by kernel_rfl) (by kernel_rfl) ?_
  repeat' (refine zap rfl ?_; first | ((with_reducible refine zcv ?_); refine zan rfl ?_))
  all_goals refine zch ?_
  all_goals repeat (first | refine zck ?_ | refine zcl ?_ | refine zcm ?_ | refine zcn ?_)
  repeat (first | refine zck ?_ | refine zcl ?_ | refine zcm ?_ | refine zcn ?_)
  first | refine zcp (by kernel_rfl) ?_ | refine zcq PP_mixed (by kernel_rfl) (by kernel_rfl) ?_
  repeat' (refine zap rfl ?_; first | refine zcb rfl ?_ | refine reg_buildSlice rfl rfl rfl rfl rfl rfl (fun nb => ?_) | (refine zai [0] (played_ex w0 _ ex5 ex5_ok (by decide) 3 _ ex5_pl) rfl rfl rfl sub_nil ?_; rintro v Γ' ⟨⟨m, r, ad, hM⟩, wb, kn, rfl, rfl, hW⟩) | ((with_reducible refine zcu ?_); refine zan rfl ?_) | ((with_reducible refine zcv ?_); refine zan rfl ?_) | ((with_reducible refine zcz ?_); refine zan rfl ?_) | ((with_reducible refine zdd ?_); refine zae 5 rfl rfl rfl rfl rfl rfl rfl ?_) | ((with_reducible refine zdh ?_); refine zar (fun nb => ?_)))
  all_goals refine zch ?_
  all_goals repeat (first | refine zck ?_ | refine zcl ?_ | refine zcm ?_ | refine zcn ?_)
  revert nb; intro xb
  refine run_share [0] rfl ?_
  refine run_share [4] rfl ?_
  refine run_take [] rfl ?_
  repeat (first | refine zck ?_ | refine zcl ?_ | refine zcm ?_ | refine zcn ?_)
  first | refine zcp (by kernel_rfl) ?_ | refine zcq PP_mixed (by kernel_rfl) (by kernel_rfl) ?_
  repeat' (refine zap rfl ?_; first | ((with_reducible refine zcu ?_); refine zan rfl ?_) | ((with_reducible refine zdb ?_); refine zbx rfl ?_))
  all_goals refine zch ?_
  all_goals repeat (first | refine zck ?_ | refine zcl ?_ | refine zcm ?_ | refine zcn ?_)
  refine zcj rfl ?_
  repeat (first | refine zck ?_ | refine zcl ?_ | refine zcm ?_ | refine zcn ?_ | refine zco ?_)
  repeat (first | refine zck ?_ | refine zcl ?_ | refine zcm ?_ | refine zcn ?_)
  first | refine zcp (by kernel_rfl) ?_ | refine zcq PP_mixed (by kernel_rfl) (by kernel_rfl) ?_
  repeat' (refine zap rfl ?_; first | ((with_reducible refine zdh ?_); refine zar (fun nb => ?_)))
  all_goals refine zch ?_
  all_goals repeat (first | refine zck ?_ | refine zcl ?_ | refine zcm ?_ | refine zcn ?_)
  rename_i rb
  revert nb; intro nb
  have hD := (done_mem (σ := Unit) w0 [(xb, .cells (List.toArray (stC wb 9 r 3 [(1, 2), (3, 2)])) 36 (0, 0))] wb kn 368 5 m (by decide) hW 38 (List.toArray [ptr xb, ptr rb, ptr nb]) (StarsA [i8B rb 0, i8B nb 0]) (fun _ => StarsA [i8B rb 2, i8B nb 3]) (fun _ => m)
    (fun p s hC _ => (awake1 w0 _ p xb rb nb wb (by decide) r s hC hM (by decide) (.head _)).packed (fun v Γ ⟨s', e1, e2, e3⟩ => ⟨_, _, e2, (), s', 0, e1, rfl, by decide, e3⟩))).unpack
    (R' := fun v Γ => ∃ (b : Nat) (a : Option Addr) (len c : Nat) (kn2 : List (Int × Wd)), v = .tuple #[.map (some b), .slice a len c, .bool true] ∧ Γ = [wdA b kn2, i8B rb 2, i8B nb 3])
    (fun v Γ ⟨_, b, a, len, c, kn2, e1, e2, e3⟩ => ⟨_, _, e2, b, a, len, c, kn2, e1, rfl⟩)
  repeat (first | refine zck ?_ | refine zcl ?_ | refine zcm ?_ | refine zcn ?_)
  first | refine zcp (by kernel_rfl) ?_ | refine zcq PP_mixed (by kernel_rfl) (by kernel_rfl) ?_
  repeat' (refine zap rfl ?_; first | (refine zai [0, 0] hD rfl rfl rfl sub_swap ?_; rintro v Γ' ⟨b2, wa, wl, wc, kn2, rfl, rfl⟩) | ((with_reducible refine zcw ?_); refine zaa 0 rfl rfl rfl ?_) | ((with_reducible refine zcy ?_); refine zao rfl ?_) | refine zan rfl ?_)
  all_goals refine zch ?_
  all_goals repeat (first | refine zck ?_ | refine zcl ?_ | refine zcm ?_ | refine zcn ?_)
  refine run_share [1] rfl ?_
  refine run_share [1] rfl ?_
  refine run_take [] rfl ?_
  refine run_slots [(3, ptr rb), (4, ptr nb)] ⟨rfl, rfl, trivial⟩ (fun junk => ?_)
  repeat (first | refine zck ?_ | refine zcl ?_ | refine zcm ?_ | refine zcn ?_)
  first | refine zcp (by kernel_rfl) ?_ | refine zcq PP_mixed (by kernel_rfl) (by kernel_rfl) ?_
  repeat' (refine zap rfl ?_; first | refine zcb rfl ?_ | refine reg_buildSlice rfl rfl rfl rfl rfl rfl (fun nb => ?_) | (refine zai [0] (played_ex w0 _ ex6 ex6_ok (by decide) 3 _ ex6_pl) rfl rfl rfl sub_nil ?_; rintro v Γ' ⟨⟨m2, r2, ad2, hM2⟩, w2, kn3, rfl, rfl, hW2⟩) | ((with_reducible refine zcu ?_); refine zan rfl ?_) | ((with_reducible refine zcv ?_); refine zan rfl ?_) | ((with_reducible refine zcz ?_); refine zan rfl ?_) | ((with_reducible refine zdd ?_); refine zae 5 rfl rfl rfl rfl rfl rfl rfl ?_) | ((with_reducible refine zdh ?_); refine zar (fun nb => ?_)))
  all_goals refine zch ?_
  all_goals repeat (first | refine zck ?_ | refine zcl ?_ | refine zcm ?_ | refine zcn ?_)
  rename_i b7 
  revert nb; intro x2
  refine run_share [0] rfl ?_
  refine run_share [4] rfl ?_
  refine run_take [] rfl ?_
  refine run_slots [(2, .bool true), (3, ptr rb), (4, ptr nb), (5, ptr x2)] ⟨rfl, rfl, rfl, rfl, trivial⟩ (fun junk => ?_)
  repeat (first | refine zck ?_ | refine zcl ?_ | refine zcm ?_ | refine zcn ?_)
  first | refine zcp (by kernel_rfl) ?_ | refine zcq PP_mixed (by kernel_rfl) (by kernel_rfl) ?_
  repeat' (refine zap rfl ?_; first | ((with_reducible refine zdh ?_); refine zar (fun nb => ?_)))
  all_goals refine zch ?_
  all_goals repeat (first | refine zck ?_ | refine zcl ?_ | refine zcm ?_ | refine zcn ?_)
  revert nb; intro ub
  have hD2 := (done_mem (σ := Unit) w0 [(x2, .cells (List.toArray (stC w2 9 r2 3 [(3, 2)])) 36 (0, 0))] w2 kn3 368 6 m2 (by decide) hW2 39 (List.toArray [ptr x2, ptr ub]) (i8B ub 0) (fun _ => i8B ub 1) (fun _ => m2)
    (fun p s hC _ => (awake2 w0 _ p x2 ub w2 (by decide) r2 s hC hM2 (by decide) (.head _)).mono (fun v Γ ⟨s', e1, e2, e3⟩ => ⟨(), s', 0, e1, e2, by decide, e3⟩)))
  have hv17 : ((lookW kn3 17).getD ⟨0, 0, 0⟩).val = 2 := by
    rw [valW_getD, hW2.val 17 (by decide) (by decide)]
    exact hM2.sets
  repeat (first | refine zck ?_ | refine zcl ?_ | refine zcm ?_ | refine zcn ?_)
  first | refine zcp (by kernel_rfl) ?_ | refine zcq PP_mixed (by kernel_rfl) (by kernel_rfl) ?_
  repeat' (refine zap rfl ?_; first | (refine zai [0] hD2 rfl rfl rfl sub_swap2 ?_; rintro v Γ' ⟨_, b3, wa3, wl3, wc3, kn4, rfl, rfl, hW3⟩) | ((with_reducible refine zcw ?_); refine zaa 0 rfl rfl rfl ?_) | ((with_reducible refine zcy ?_); refine zao rfl ?_) | refine zan rfl ?_)
  all_goals refine zch ?_
  all_goals repeat (first | refine zck ?_ | refine zcl ?_ | refine zcm ?_ | refine zcn ?_)
  refine run_share [1] rfl ?_
  refine run_take [] rfl ?_
  repeat' (first | refine zcp (by kernel_rfl) ?_ | (refine zap rfl ?_; first | refine reg_lookup_sh 2 rfl rfl rfl (valW_look kn3 17 _ rfl) ?_ | (refine reg_fieldV rfl rfl ?_; rw [hv17]) | ((with_reducible refine zct ?_); refine zaj rfl ?_) | ((with_reducible refine zcu ?_); refine zan rfl ?_) | ((with_reducible refine zcv ?_); refine zan rfl ?_) | ((with_reducible refine zcw ?_); first | refine zaa 0 rfl rfl rfl ?_ | refine zaa 1 rfl rfl rfl ?_ | refine zaa 3 rfl rfl rfl ?_ | refine zaa 4 rfl rfl rfl ?_) | ((with_reducible refine zcy ?_); refine zao rfl ?_) | ((with_reducible refine zda ?_); refine zbo rfl rfl ?_) | ((with_reducible refine zdc ?_); refine zbu rfl ?_)) | refine zch ?_)
  exact ret_tmp1 rfl ⟨rfl, rfl⟩
end Go.Proofs.Ytpcnbaddkblbhaa

/- The law's statements: ForestPlays, ForestFull. -/
namespace Go.Proofs.Ytpcnbaddkblbhaa
open Go.Vc Sim
set_option maxHeartbeats 8000000
theorem great_spec (w0 : World) (a : Option Addr) (len cap : Nat) : FnE PP w0 [] 9 [.slice a len cap] [] (.bool (decide ((len : Int) > 100))) [] := by
  refine fn_of_run en9 fn9 rfl rfl rfl ?_
  repeat' (first | refine zck ?_ | refine zcp (by kernel_rfl) ?_ | (refine zap rfl ?_; first | ((with_reducible refine zcu ?_); refine zan rfl ?_) | ((with_reducible refine zcv ?_); refine zan rfl ?_) | ((with_reducible refine zcx ?_); refine zce rfl ?_) | ((with_reducible refine zda ?_); refine zbs rfl rfl ?_)) | refine zch ?_)
  exact ret_tmp1 rfl ⟨rfl, rfl⟩
theorem plays_spec (w0 : World) (nn : Int) (hn : u8P nn) (v : Value) (l : List Cl) (hv : InSl w0 Cl.cells 3 v l) (hok : ∀ x ∈ l, x.ok) :
    FnE PP w0 [] 3 [.int .u8 nn, v] [] (.bool true) [] := by
  have hr := hv.rd (sh := [])
  obtain ⟨a, cap, rfl, hmax, hmem⟩ := hv
  have hG := great_spec w0 a l.length cap
  have hA := awake_spec w0
  by_cases hl : (l.length : Int) > 100
  · rw [decide_eq_true hl] at hG
    refine fn_of_run en3 fn3 rfl rfl rfl ?_
    repeat' (first | refine zck ?_ | refine zcp (by kernel_rfl) ?_ | (refine zap rfl ?_; first | ((with_reducible refine zcu ?_); refine zan rfl ?_) | ((with_reducible refine zcv ?_); refine zan rfl ?_) | ((with_reducible refine zcx ?_); first | refine zah [] hG rfl rfl rfl sub_nil rfl ?_ | refine zah [] hA rfl rfl rfl sub_nil rfl ?_)) | refine zch ?_ | refine zci rfl ?_)
    exact ret_tmp1 rfl ⟨rfl, rfl⟩
  · rw [decide_eq_false hl] at hG
    refine fn_of_run en3 fn3 rfl rfl rfl ?_
    repeat' (first | refine zck ?_ | refine zcp (by kernel_rfl) ?_ | refine zcm ?_ | (refine zap rfl ?_; first | (refine zai [] (played_spec w0 [] nn hn _ l hr hok (by omega)) rfl rfl rfl sub_nil ?_; rintro v Γ' ⟨⟨m, r, ad, hM⟩, wb, kn, rfl, rfl, hW⟩) | ((with_reducible refine zct ?_); refine zaj rfl ?_) | ((with_reducible refine zcu ?_); refine zan rfl ?_) | ((with_reducible refine zcv ?_); refine zan rfl ?_) | ((with_reducible refine zcx ?_); first | refine zah [] hG rfl rfl rfl sub_nil rfl ?_ | refine zah [] hA rfl rfl rfl sub_nil rfl ?_) | ((with_reducible refine zcz ?_); refine zan rfl ?_) | ((with_reducible refine zdc ?_); refine zbu rfl ?_) | ((with_reducible refine zdd ?_); refine zae 4 rfl rfl rfl rfl rfl rfl rfl ?_) | ((with_reducible refine zdh ?_); refine zar (fun nb => ?_))) | refine zch ?_ | refine zcj rfl ?_)
    exact run_ret (leaves_nil (ends_take [] rfl (ends_one rfl rfl ⟨rfl, rfl, rfl⟩)))
theorem full_spec (w0 : World) (nn : Int) (hn : u8P nn) : FnE PP w0 [] 7 [.int .u8 nn] [] (.bool true) [] := by
  have hA := awake_spec w0
  have hMd := made_spec w0 38 (by decide)
  have hF := fresh_spec w0 368 (by decide)
  have hK : (0 : Int) ≤ 38 ∧ (38 : Int) ≤ 38 := by decide
  have hn8 : nn.tmod 8 = nn % 8 := Int.tmod_eq_emod_of_nonneg hn.1
  refine fn_of_run en7 fn7 rfl rfl rfl ?_
  repeat (first | refine zck ?_ | refine zcl ?_ | refine zcm ?_ | refine zcn ?_)
  first | refine zcp (by kernel_rfl) ?_ | refine zcq PP_mixed (by kernel_rfl) (by kernel_rfl) ?_
  repeat' (refine zap rfl ?_; first | ((with_reducible refine zcv ?_); refine zan rfl ?_))
  all_goals refine zch ?_
  all_goals repeat (first | refine zck ?_ | refine zcl ?_ | refine zcm ?_ | refine zcn ?_)
  repeat (first | refine zck ?_ | refine zcl ?_ | refine zcm ?_ | refine zcn ?_)
  first | refine zcp (by kernel_rfl) ?_ | refine zcq PP_mixed (by kernel_rfl) (by kernel_rfl) ?_
  repeat' (refine zap rfl ?_; first | ((with_reducible refine zcx ?_); first | (refine zai [] hF rfl rfl rfl sub_nil ?_; rintro v Γ' ⟨wb, rfl, rfl⟩) | refine zah [] hMd rfl rfl rfl sub_nil rfl ?_) | ((with_reducible refine zdd ?_); refine zae 1 rfl rfl rfl rfl rfl rfl rfl ?_) | ((with_reducible refine zdh ?_); refine zar (fun nb => ?_)) | refine zcb rfl ?_)
  all_goals refine zch ?_
  all_goals repeat (first | refine zck ?_ | refine zcl ?_ | refine zcm ?_ | refine zcn ?_)
  revert nb; intro xb
  repeat (first | refine zck ?_ | refine zcl ?_ | refine zcm ?_ | refine zcn ?_)
  first | refine zcp (by kernel_rfl) ?_ | refine zcq PP_mixed (by kernel_rfl) (by kernel_rfl) ?_
  repeat' (refine zap rfl ?_; first | (refine reg_rem rfl rfl (by decide) ?_; rw [hn8]) | refine zbz rfl (by omega) ?_ | ((with_reducible refine zcu ?_); refine zan rfl ?_) | ((with_reducible refine zda ?_); refine zau rfl rfl (by omega) ?_))
  all_goals refine zch ?_
  all_goals repeat (first | refine zck ?_ | refine zcl ?_ | refine zcm ?_ | refine zcn ?_)
  generalize hN : 60 + nn % 8 = N
  have hNb : 60 ≤ N ∧ N ≤ 67 := by omega
  clear hN
  obtain ⟨q, rfl⟩ : ∃ q : Nat, N = q := ⟨N.toNat, by omega⟩
  refine run_slots [(3, ptr xb), (15, .int .i64 q), (16, .int .i64 0)] ⟨rfl, rfl, rfl, trivial⟩ (fun junk => ?_)
  refine run_emp (A := LstA 3 (.slice none 0 0) []) ⟨none, 0, rfl, SlA_nil⟩ ?_
  refine run_emp (A := LstA 3 (.slice none 0 0) []) ⟨none, 0, rfl, SlA_nil⟩ ?_
  refine run_emp (A := LstA 3 (.slice none 0 0) []) ⟨none, 0, rfl, SlA_nil⟩ ?_
  refine run_loop (S := Nat × Rl × Nat × List (Int × Wd) × (Int → Int)) (fun st => [(3, ptr xb), (15, .int .i64 q), (16, .int .i64 (st.1 : Int))])
    (fun st Γ => Γ = wdA st.2.2.1 st.2.2.2.1 :: stB xb st.2.2.1 38 st.2.1 (min st.1 64) [] :: rl3 st.2.1 (min st.1 64) [] ∧ st.1 ≤ q ∧
      WM 368 st.1 st.2.2.2.1 st.2.2.2.2 ∧ ∃ ad, Mm 38 st.2.2.2.2 (min st.1 64) (nC (min st.1 64)) (tC (min st.1 64)) [] ad) (fun st => q - st.1) (0, ⟨none, 0, none, 0, none, 0⟩, wb, wk 0 (List.replicate 368 0), fun _ => 0) ⟨rfl, rfl, rfl, trivial⟩ ⟨rfl, Nat.zero_le _, fresh_WM 368 (by decide), _, Mm.zero 38 hK⟩ ?_
  rintro ⟨i, r, wb, kn, m⟩ Γ junk ⟨rfl, hi, hW, ad, hM⟩
  dsimp only at hi hW hM ⊢
  by_cases hlt : i < q
  · have hst : stepJ 38 (min i 64) [] 0 0 0 = (min (i + 1) 64, []) := by
      unfold stepJ
      rw [if_neg (by decide), if_neg (by decide), if_neg (by decide)]
      by_cases h64 : i < 64
      · rw [if_pos ⟨by omega, by unfold cN; omega⟩]
        congr 1
        omega
      · rw [if_neg (by omega)]
        congr 1
        omega
    have hS := fun sh => step_spec w0 sh wb hK r kn i (by omega) hW hM 0 0 0 (by decide) (by decide) (by decide) (min (i + 1) 64) [] hst
    have hbl := bL_len (min (i + 1) 64) []
    repeat (first | refine zck ?_ | refine zcl ?_ | refine zcm ?_ | refine zcn ?_)
    first | refine zcp (by kernel_rfl) ?_ | refine zcq PP_mixed (by kernel_rfl) (by kernel_rfl) ?_
    repeat' (refine zap rfl ?_; first | ((with_reducible refine zda ?_); refine zbg rfl rfl (by omega) ?_))
    all_goals refine zch ?_
    all_goals repeat (first | refine zck ?_ | refine zcl ?_ | refine zcm ?_ | refine zcn ?_)
    refine zci rfl ?_
    repeat (first | refine zck ?_ | refine zcl ?_ | refine zcm ?_ | refine zcn ?_)
    first | refine zcp (by kernel_rfl) ?_ | refine zcq PP_mixed (by kernel_rfl) (by kernel_rfl) ?_
    repeat' (refine zap rfl ?_; first | ((with_reducible refine zcu ?_); refine zan rfl ?_) | ((with_reducible refine zcv ?_); refine zan rfl ?_))
    all_goals refine zch ?_
    all_goals repeat (first | refine zck ?_ | refine zcl ?_ | refine zcm ?_ | refine zcn ?_)
    repeat (first | refine zck ?_ | refine zcl ?_ | refine zcm ?_ | refine zcn ?_)
    first | refine zcp (by kernel_rfl) ?_ | refine zcq PP_mixed (by kernel_rfl) (by kernel_rfl) ?_
    repeat' (refine zap rfl ?_; first | refine zcb rfl ?_ | (refine zai [0, 1, 1, 1] (hS []) rfl rfl rfl sub_nil ?_; rintro v Γ' ⟨⟨m1, r1, ad1, hM1⟩, wb1, kn1, rfl, rfl, hW1⟩) | ((with_reducible refine zcu ?_); refine zan rfl ?_) | ((with_reducible refine zcv ?_); refine zan rfl ?_) | ((with_reducible refine zcw ?_); refine zab 1 rfl rfl rfl ?_) | ((with_reducible refine zcz ?_); refine zan rfl ?_) | ((with_reducible refine zdd ?_); refine zae 5 rfl rfl rfl rfl rfl rfl rfl ?_) | ((with_reducible refine zdh ?_); refine zar (fun nb => ?_)))
    all_goals refine zch ?_
    all_goals repeat (first | refine zck ?_ | refine zcl ?_ | refine zcm ?_ | refine zcn ?_)
    revert nb; intro nx
    repeat (first | refine zck ?_ | refine zcl ?_ | refine zcm ?_ | refine zcn ?_)
    first | refine zcp (by kernel_rfl) ?_ | refine zcq PP_mixed (by kernel_rfl) (by kernel_rfl) ?_
    repeat' (refine zap rfl ?_; first | ((with_reducible refine zct ?_); refine zaj rfl ?_) | ((with_reducible refine zcu ?_); refine zan rfl ?_) | ((with_reducible refine zcw ?_); refine zab 5 rfl rfl rfl ?_) | ((with_reducible refine zcx ?_); first | refine zce rfl ?_ | refine zcg rfl rfl ?_) | ((with_reducible refine zcy ?_); refine zao rfl ?_) | ((with_reducible refine zda ?_); first | refine zbf rfl rfl (by omega) ?_ | refine zau rfl rfl (by omega) ?_) | ((with_reducible refine zdb ?_); refine zbx rfl ?_) | ((with_reducible refine zdc ?_); refine zbv rfl ?_))
    all_goals refine zch ?_
    all_goals repeat (first | refine zck ?_ | refine zcl ?_ | refine zcm ?_ | refine zcn ?_)
    refine zcj rfl ?_
    repeat' (first | refine zcp (by kernel_rfl) ?_ | refine zcm ?_ | refine zcn ?_ | (refine zap rfl ?_; first | ((with_reducible refine zcu ?_); refine zan rfl ?_) | ((with_reducible refine zcw ?_); refine zab 5 rfl rfl rfl ?_) | ((with_reducible refine zda ?_); refine zau rfl rfl (by omega) ?_) | ((with_reducible refine zdd ?_); refine zae 4 rfl rfl rfl rfl rfl rfl rfl ?_)) | refine zch ?_)
    refine run_take [0, 3, 0, 0, 0] rfl ?_
    refine cut_end ⟨rfl, (i + 1, r1, wb1, kn1, m1), ⟨rfl, rfl, congrArg (Value.int .i64) (by dsimp only; omega), trivial⟩, ⟨rfl, by dsimp only; omega, ?_, ad1, hM1⟩, by dsimp only; omega⟩
    exact (show ((i + 1 : Nat) : Int) = (i : Int) + 1 by omega) ▸ hW1
  · have hil : i = q := by omega
    have hk : min i 64 = min q 64 := by rw [hil]
    have hkb : 1 ≤ min q 64 ∧ min q 64 ≤ 64 := by omega
    rw [hk] at hM
    rw [hk]
    generalize min q 64 = k at hM hkb
    have hbl := bL_len k []
    obtain ⟨k', J'⟩ : Nat × Jn := stepJ 38 k [] 2 1 ((bL k []).length : Int)
    have hS := step_spec w0 [] wb hK r kn i (by omega) hW hM 2 1 ((bL k []).length : Int) (by decide) (by decide) (by omega) (stepJ 38 k [] 2 1 ((bL k []).length : Int)).1 (stepJ 38 k [] 2 1 ((bL k []).length : Int)).2 rfl
    repeat' (first | refine zck ?_ | refine zcp (by kernel_rfl) ?_ | (refine zap rfl ?_; first | ((with_reducible refine zda ?_); refine zbh rfl rfl (by omega) ?_)) | refine zch ?_ | refine zcj rfl ?_)
    refine cut_exit rfl rfl ?_
    repeat (first | refine zck ?_ | refine zcl ?_ | refine zcm ?_ | refine zcn ?_)
    first | refine zcp (by kernel_rfl) ?_ | refine zcq PP_mixed (by kernel_rfl) (by kernel_rfl) ?_
    repeat' (refine zap rfl ?_; first | refine zcb rfl ?_ | (refine zai [0, 1, 1, 1] hS rfl rfl rfl sub_nil ?_; rintro v Γ' ⟨⟨m1, r1, ad1, hM1⟩, wb1, kn1, rfl, rfl, hW1⟩) | ((with_reducible refine zcu ?_); refine zan rfl ?_) | ((with_reducible refine zcv ?_); refine zan rfl ?_) | ((with_reducible refine zcw ?_); refine zab 1 rfl rfl rfl ?_) | ((with_reducible refine zcx ?_); refine zce rfl ?_) | ((with_reducible refine zcy ?_); refine zao rfl ?_) | ((with_reducible refine zcz ?_); refine zan rfl ?_) | ((with_reducible refine zdd ?_); refine zae 5 rfl rfl rfl rfl rfl rfl rfl ?_) | ((with_reducible refine zdh ?_); refine zar (fun nb => ?_)))
    all_goals refine zch ?_
    all_goals repeat (first | refine zck ?_ | refine zcl ?_ | refine zcm ?_ | refine zcn ?_)
    have hI := is_spec w0 [] wb1 hK r1 kn1 (i + 1) (by omega) hW1 hM1
    repeat' (first | refine zcp (by kernel_rfl) ?_ | (refine zap rfl ?_; first | (refine zai [0, 0, 0, 0] hI rfl rfl rfl sub_nil ?_; rintro v Γ' ⟨rfl, rfl⟩) | ((with_reducible refine zct ?_); refine zaj rfl ?_) | ((with_reducible refine zcu ?_); refine zan rfl ?_) | ((with_reducible refine zcv ?_); refine zan rfl ?_) | ((with_reducible refine zcw ?_); refine zab 5 rfl rfl rfl ?_) | ((with_reducible refine zcx ?_); refine zah [] hA rfl rfl rfl sub_nil rfl ?_) | ((with_reducible refine zdc ?_); refine zbu rfl ?_)) | refine zch ?_)
    exact run_ret (leaves_nil (ends_take [] rfl (ends_one rfl rfl ⟨rfl, rfl, rfl⟩)))
end Go.Proofs.Ytpcnbaddkblbhaa

/- What the law reads in the world: below. -/
namespace Sim
open Go Go.Vc
variable {K : Int} {m : Int → Int} {k : Nat} {J : Jn} {ad : Nat → Int}
/-- The words on the way to an element. -/
theorem below_way (hK : 0 ≤ K ∧ K ≤ 38) (h : Mm K m k (nC k) (tC k) J ad) {kn : List (Int × Wd)} {T : Int} (hW : WM 368 T kn m) {i : Int} (h1 : 1 ≤ i) (h2 : i ≤ k) :
    ∃ a b : Int, (64 ≤ a ∧ a ≤ 360) ∧ (64 ≤ b ∧ b ≤ 360) ∧ ((lookW kn (19 + (i - 1) / 2 / 8)).getD ⟨0, 0, 0⟩).val = a ∧ ((lookW kn (a + (i - 1) / 2 % 8)).getD ⟨0, 0, 0⟩).val = b ∧ ((lookW kn (b + 4 * ((i - 1) % 2))).getD ⟨0, 0, 0⟩).val = par J i := by
  obtain ⟨q, e1, e2, e3, e4⟩ := elq h1
  have l1 := h.le1
  have l2 := h.le2
  have l3 := h.le3
  have hq : q < nC k := by omega
  have n1 := nd_bd hK (h.isn (i := 100 + q / 8) (.inr (by omega)))
  have n2 := nd_bd hK (h.isn (i := q) (.inl hq))
  refine ⟨ad (100 + q / 8), ad q, by omega, by omega, ?_, ?_, ?_⟩
  · rw [valW_getD, e3, hW.val _ (by omega) (by omega)]
    exact h.tab _ (by omega)
  · rw [valW_getD, e4, hW.val _ (by omega) (by omega)]
    exact h.nod q hq
  · rw [valW_getD, hW.val _ (by omega) (by omega), ← (h.els i h1 h2).1]
    unfold el
    rw [e2, Int.mul_comm]
end Sim
namespace Go.Proofs.Ytpcnbaddkblbhaa
open Go.Vc Sim
set_option maxHeartbeats 8000000
section
variable {K : Int} {m : Int → Int} {k : Nat} {J : Jn} {ad : Nat → Int}
theorem below_spec (w0 : World) (wb : Nat) (hK : 0 ≤ K ∧ K ≤ 38) (r : Rl) (kn : List (Int × Wd)) (T : Int) (hW : WM 368 T kn m) (h : Mm K m k (nC k) (tC k) J ad) (i : Int) (h1 : 1 ≤ i) (h2 : i ≤ k) :
    FnE PP w0 [(wb, mapI (knM kn))] 25 [stR wb K r k J, .int .i64 i] [] (.int .i64 (par J i)) [] := by
  have hkl := h.le
  obtain ⟨a, b, ha, hb, g1, g2, g3⟩ := below_way hK h hW h1 h2
  refine fn_of_run en25 fn25 rfl rfl rfl ?_
  repeat (first | refine zck ?_ | refine zcl ?_ | refine zcm ?_ | refine zcn ?_)
  first | refine zcp (by kernel_rfl) ?_ | refine zcq PP_mixed (by kernel_rfl) (by kernel_rfl) ?_
  repeat' (refine zap rfl ?_; first | ((with_reducible refine zcv ?_); refine zan rfl ?_) | ((with_reducible refine zdg ?_); refine zaq (cs := [_, _, _, _, _, _, _, _]) rfl (fun nb => ?_)))
  all_goals refine zch ?_
  all_goals repeat (first | refine zck ?_ | refine zcl ?_ | refine zcm ?_ | refine zcn ?_)
  refine run_share [0] rfl ?_
  repeat' (first | refine zck ?_ | refine zcp (by kernel_rfl) ?_ | (refine zap rfl ?_; first | refine reg_lookup_sh 1 rfl rfl rfl (valW_look kn _ _ rfl) ?_ | (refine reg_fieldV rfl rfl ?_; first | rw [g1] | rw [g2] | rw [g3]) | ((with_reducible refine zcu ?_); refine zan rfl ?_) | ((with_reducible refine zcv ?_); refine zan rfl ?_) | ((with_reducible refine zcw ?_); refine zaa 0 rfl rfl rfl ?_) | ((with_reducible refine zcy ?_); refine zao rfl ?_) | ((with_reducible refine zda ?_); first | refine zau rfl rfl (by omega) ?_ | refine zav rfl rfl (by omega) ?_ | refine zaw rfl rfl (by omega) ?_ | refine zax rfl rfl (by omega) ?_ | refine zay rfl rfl (by omega) ?_)) | refine zch ?_)
  exact ret_tmp1 rfl ⟨rfl, rfl⟩
end
end Go.Proofs.Ytpcnbaddkblbhaa

/- The count of the law's map. -/
namespace Sim
open Go Go.Vc
def cnR (J : Jn) (r : Int) (i : Nat) : Int := ct (fun x => eqI (rep J x) r) i
def ckL (J : Jn) : Nat → List (Int × Value)
  | 0 => []
  | i + 1 => ins (ckL J i) (rep J ((i : Int) + 1)) (.int .i64 (cnR J (rep J ((i : Int) + 1)) i + 1))
theorem look_ins_eq : ∀ (l : List (Int × Value)) (a x : Int) (u : Value), Vc.look (ins l a u) x = if a = x then some u else Vc.look l x
  | [], a, x, u => by simp only [ins, Vc.look]
  | (b, v) :: l, a, x, u => by
    simp only [ins]
    by_cases hb : b = a
    · subst hb
      simp only [if_true, Vc.look]
      by_cases hx : b = x
      · rw [if_pos hx, if_pos hx]
      · rw [if_neg hx, if_neg hx, if_neg hx]
    · simp only [hb, if_false, Vc.look]
      rw [look_ins_eq l a x u]
      by_cases hx : b = x
      · rw [if_pos hx, if_pos hx, if_neg (fun e => hb (hx.trans e.symm))]
      · rw [if_neg hx, if_neg hx]
theorem ins_len_eq : ∀ (l : List (Int × Value)) (a : Int) (u : Value), (ins l a u).length = if Vc.look l a = none then l.length + 1 else l.length
  | [], a, u => by simp [ins, Vc.look]
  | (b, v) :: l, a, u => by
    by_cases hb : b = a
    · simp [ins, Vc.look, hb]
    · have e : Vc.look ((b, v) :: l) a = Vc.look l a := by simp [Vc.look, hb]
      rw [e]
      simp only [ins, hb, if_false]
      rw [List.length_cons, ins_len_eq l a u, List.length_cons]
      split <;> rfl
theorem cnR_succ (J : Jn) (r : Int) (i : Nat) : cnR J r (i + 1) = cnR J r i + if rep J ((i : Int) + 1) = r then 1 else 0 := by
  unfold cnR
  simp only [ct, eqI_iff]
theorem cnR_pos (J : Jn) (r : Int) (i : Nat) : 0 ≤ cnR J r i := (ct_le _ i).1
theorem look_ckL (J : Jn) (r : Int) : ∀ i : Nat, Vc.look (ckL J i) r = if 0 < cnR J r i then some (.int .i64 (cnR J r i)) else none
  | 0 => by
    rw [if_neg (by unfold cnR ct; decide)]
    rfl
  | i + 1 => by
    have h0 := cnR_pos J r i
    rw [ckL, look_ins_eq, look_ckL J r i, cnR_succ]
    by_cases h : rep J ((i : Int) + 1) = r
    · rw [if_pos h, if_pos h, if_pos (by omega), h]
    · rw [if_neg h, if_neg h, Int.add_zero]
theorem getD_ckL (J : Jn) (r : Int) (i : Nat) : (Vc.look (ckL J i) r).getD (.int .i64 0) = .int .i64 (cnR J r i) := by
  have h0 := cnR_pos J r i
  rw [look_ckL]
  split
  · rfl
  · have : cnR J r i = 0 := by omega
    rw [this]; rfl
theorem len_ckL {k : Nat} {J : Jn} (hv : Vd k J) : ∀ i : Nat, i ≤ k → ((ckL J i).length : Int) = ct (fun r => decide (0 < cnR J r i)) k
  | 0, _ => by
    have e : ∀ k : Nat, ct (fun r => decide (0 < cnR J r 0)) k = 0 := by
      intro k
      induction k with
      | zero => rfl
      | succ k ih =>
        simp only [ct, ih]
        rw [if_neg (by rw [decide_eq_true_eq]; unfold cnR ct; decide)]
        rfl
    rw [e]; rfl
  | i + 1, hi => by
    have hp := rep_in hv ((i : Int) + 1) (by omega) (by omega)
    have h0 := cnR_pos J (rep J ((i : Int) + 1)) i
    have ih := len_ckL hv i (by omega)
    rw [ckL, ins_len_eq, look_ckL]
    by_cases hz : 0 < cnR J (rep J ((i : Int) + 1)) i
    · rw [if_pos hz, if_neg (by simp), ih]
      refine ct_congr k fun r _ _ => ?_
      rw [cnR_succ]
      by_cases hr : rep J ((i : Int) + 1) = r
      · rw [if_pos hr, ← hr, decide_eq_true hz, decide_eq_true (by omega)]
      · rw [if_neg hr, Int.add_zero]
    · rw [if_neg hz, if_pos rfl]
      have e : ct (fun r => decide (0 < cnR J r (i + 1))) k = ct (fun r => decide (0 < cnR J r i)) k + ct (fun r => eqI r (rep J ((i : Int) + 1))) k := by
        refine ct_add k fun r _ _ => ?_
        rw [cnR_succ, decide_eq_true_eq, decide_eq_true_eq, eqI_iff]
        by_cases hr : rep J ((i : Int) + 1) = r
        · rw [if_pos hr]; rw [hr] at hz h0
          exact ⟨⟨fun _ => .inr hr.symm, fun _ => by omega⟩, fun hh => hz hh.1⟩
        · rw [if_neg hr, Int.add_zero]
          exact ⟨⟨.inl, fun hh => hh.elim id fun e => absurd e.symm hr⟩, fun hh => hr hh.2.symm⟩
      rw [e, ct_one, if_pos hp, ← ih]
      omega
theorem len_all {k : Nat} {J : Jn} (hv : Vd k J) : ((ckL J k).length : Int) = (k : Int) - J.length := by
  rw [len_ckL hv k (Nat.le_refl _), ← roots_count hv, Int.add_sub_cancel]
  refine ct_congr k fun r h1 h2 => ?_
  by_cases hr : par J r = 0
  · have := sz_count hv r h1 h2 hr
    have := sz_pos J r
    rw [decide_eq_true (show 0 < cnR J r k by unfold cnR; omega), eqI_iff.2 hr]
  · have hz : cnR J r k = 0 := by
      have e : ∀ k : Nat, cnR J r k = 0 := by
        intro k
        induction k with
        | zero => rfl
        | succ k ih =>
          rw [cnR_succ, ih, if_neg (fun e => hr (by rw [← e]; exact rep_root hv _))]
          rfl
      exact e k
    rw [hz, eqI_no hr]
    rfl
end Sim

/- The law's Sets$1. -/
namespace Go.Vc
variable {P : Program} {w0 : World} {n : Nat} {sh : Shared} {Q : Exit → Env → List Deferred → List Asn → Prop} {k : List Item} {ρ : Env} {df : List Deferred} {Γ : List Asn}
variable {ops : Array Oper} {l : List (Fl × Nat × Oper)} {i d : Nat} {ty : TypeId} {pos : String} {aft : Array Edge} {x y : Operand} {t kt et : TypeId} {kd : IntKind} {r : Nat} {a : Int} {ml : List (Int × Value)} {zv : Value} {b : Fl}
theorem reg_lookup_in {ok : Bool} {v : Value} [hT : TUnd P t (.map kt et)] [hK : TUnd P kt (.int kd)] [hZ : TZeroV P et zv] (hj : (r, mapI ml) ∈ sh) (hx : ev ρ x = .map (some r)) (hy : ev ρ y = .int .i64 a)
    (hv : (if ok then .tuple #[(look ml a).getD zv, .bool (look ml a).isSome] else (look ml a).getD zv) = v)
    (h : Reg P w0 n sh Q ops l k (ρ.set d v) df Γ) : Reg P w0 n sh Q ops ((b, i, ⟨some d, .lookup t x y ok, ty, pos, aft, none⟩) :: l) k ρ df Γ :=
  reg_quiet rfl (fun _ hsh w _ hst => ⟨w, by
    simp only [execOp, hx, hy, Sem.run_bind, lookup_run hT.und hK.und hZ.zero_run (hst.frame (hsh _ hj)).2, Sem.run_pure, Result.andThen_ok, hv], hst⟩) h
end Go.Vc
namespace Sim
variable {k : Nat} {J : Jn}
/-- A step up. -/
theorem up_at (hv : Vd k J) {x : Int} (hne : x ≠ rep J x) : 1 ≤ par J x ∧ par J x ≤ k ∧ rep J (par J x) = rep J x ∧ dep J x = dep J (par J x) + 1 := by
  have h0 : par J x ≠ 0 := fun h0 => hne (root_rep hv x h0).symm
  obtain ⟨e1, e2⟩ := up_one hv x h0
  rcases par_in hv x with h3 | ⟨h3, h4⟩
  · exact absurd h3 h0
  · exact ⟨h3, h4, e1, e2⟩
end Sim
namespace Go.Proofs.Ytpcnbaddkblbhaa
open Go.Vc Sim
set_option maxHeartbeats 8000000
section
variable {K : Int} {m : Int → Int} {k : Nat} {J : Jn} {ad : Nat → Int}
theorem sets1_spec (w0 : World) (sh : Shared) (p xb ob wb : Nat) (hK : 0 ≤ K ∧ K ≤ 38) (r : Rl) (kn : List (Int × Wd)) (T : Int) (hW : WM 368 T kn m) (s : Sp) (hC : Cu 368 s s m 0) (h : Mm K m k (nC k) (tC k) J ad) (hxb : (xb, .cells (List.toArray (stC wb K r k J)) 36 (0, 0)) ∈ sh) (hwb : (wb, mapI (knM kn)) ∈ sh) :
    Vc.Fn PP w0 sh 24 [spP p, ptr xb, ptr ob] [SpaceA p s, okB ob true]
      (fun v Γ => ∃ (s' : Sp), v = .tuple #[] ∧ Γ = [SpaceA p s', okB ob true] ∧ Cu 368 s s' m 0) := by
  have hkl := h.le
  have hmx : ∀ hF Γ w, Sh sh hF → St w0 hF Γ w → w.heap[xb]? = some (.cells (List.toArray (stC wb K r k J)) 36 (0, 0)) := fun hF Γ w h1 h2 => (h2.frame (h1 _ hxb)).2
  have hm16 : ((lookW kn 16).getD ⟨0, 0, 0⟩).val = (k : Int) := by rw [valW_getD, hW.val 16 (by decide) (by decide)]; exact h.many
  refine fn_of_run en24 fn24 rfl rfl rfl ?_
  repeat (first | refine zck ?_ | refine zcl ?_ | refine zcm ?_ | refine zcn ?_)
  first | refine zcp (by kernel_rfl) ?_ | refine zcq PP_mixed (by kernel_rfl) (by kernel_rfl) ?_
  repeat' (refine zap rfl ?_; first | refine zad rfl hmx rfl ?_ | refine reg_lookup_in hwb rfl rfl (valW_look kn _ _ rfl) ?_ | (refine reg_fieldV rfl rfl ?_; rw [hm16]) | ((with_reducible refine zcv ?_); refine zan rfl ?_) | ((with_reducible refine zcy ?_); refine zao rfl ?_))
  all_goals refine zch ?_
  all_goals repeat (first | refine zck ?_ | refine zcl ?_ | refine zcm ?_ | refine zcn ?_)
  repeat (first | refine zck ?_ | refine zcl ?_ | refine zcm ?_ | refine zcn ?_)
  first | refine zcp (by kernel_rfl) ?_ | refine zcq PP_mixed (by kernel_rfl) (by kernel_rfl) ?_
  repeat' (refine zap rfl ?_; first | ((with_reducible refine zcv ?_); refine zan rfl ?_) | refine zcc (fun nb => ?_))
  all_goals refine zch ?_
  all_goals repeat (first | refine zck ?_ | refine zcl ?_ | refine zcm ?_ | refine zcn ?_)
  revert nb; intro mb
  repeat (first | refine zck ?_ | refine zcl ?_ | refine zcm ?_ | refine zcn ?_)
  first | refine zcp (by kernel_rfl) ?_ | refine zcq PP_mixed (by kernel_rfl) (by kernel_rfl) ?_
  repeat' (refine zap rfl ?_; first | ((with_reducible refine zcv ?_); refine zan rfl ?_))
  all_goals refine zch ?_
  all_goals repeat (first | refine zck ?_ | refine zcl ?_ | refine zcm ?_ | refine zcn ?_)
  refine run_slots [(0, spP p), (1, ptr xb), (2, ptr ob), (4, .int .i64 k), (5, .map (some mb)), (6, .int .i64 1)] ⟨rfl, rfl, rfl, rfl, rfl, rfl, trivial⟩ (fun junk => ?_)
  refine run_loop (S := Nat × Sp) (fun st => [(0, spP p), (1, ptr xb), (2, ptr ob), (4, .int .i64 k), (5, .map (some mb)), (6, .int .i64 (1 + (st.1 : Int)))])
    (fun st Γ => Γ = [SpaceA p st.2, okB ob true, pt mb (mapI (ckL J st.1))] ∧ Cu 368 s st.2 m 0 ∧ st.1 ≤ k) (fun st => k - st.1) (0, s) ⟨rfl, rfl, rfl, rfl, rfl, rfl, trivial⟩ ⟨rfl, hC, Nat.zero_le _⟩ ?_
  rintro ⟨i, s1⟩ Γ junk ⟨rfl, hC, hi⟩
  dsimp only at hC hi ⊢
  by_cases hik : i < k
  · have hx1 : (1 : Int) ≤ 1 + i := by omega
    have hx2 : 1 + (i : Int) ≤ k := by omega
    obtain ⟨r1, r2⟩ := rep_in h.vd _ hx1 hx2
    have hrr := rep_rep h.vd (1 + (i : Int))
    have hdep := dep_le hkl h.vd hx1 hx2
    have hck := getD_ckL J (rep J (1 + (i : Int))) i
    have hcb := ct_le (fun x => eqI (rep J x) (rep J (1 + (i : Int)))) i
    have hcs : ckL J (i + 1) = ins (ckL J i) (rep J (1 + (i : Int))) (.int .i64 (cnR J (rep J (1 + (i : Int))) i + 1)) := by rw [Int.add_comm]; rfl
    have hcn : cnR J (rep J (1 + (i : Int))) i ≤ 64 := by unfold cnR; omega
    have hcn0 := cnR_pos J (rep J (1 + (i : Int))) i
    repeat (first | refine zck ?_ | refine zcl ?_ | refine zcm ?_ | refine zcn ?_)
    first | refine zcp (by kernel_rfl) ?_ | refine zcq PP_mixed (by kernel_rfl) (by kernel_rfl) ?_
    repeat' (refine zap rfl ?_; first | ((with_reducible refine zcu ?_); refine zan rfl ?_) | ((with_reducible refine zda ?_); refine zbi rfl rfl (by omega) ?_))
    all_goals refine zch ?_
    all_goals repeat (first | refine zck ?_ | refine zcl ?_ | refine zcm ?_ | refine zcn ?_)
    refine zci rfl ?_
    repeat (first | refine zck ?_ | refine zcl ?_ | refine zcm ?_ | refine zcn ?_)
    first | refine zcp (by kernel_rfl) ?_ | refine zcq PP_mixed (by kernel_rfl) (by kernel_rfl) ?_
    repeat' (refine zap rfl ?_; first | refine zad rfl hmx rfl ?_ | ((with_reducible refine zcu ?_); refine zan rfl ?_) | ((with_reducible refine zcv ?_); refine zan rfl ?_) | ((with_reducible refine zcx ?_); (refine reg_callO [0] hC ((f0 K).bd_find (1 + (i : Int))) (find_ok hK h hx1 hx2) (by omega) (foFind w0 p (f0 K) (f0_ok hK) (1 + (i : Int)) (by omega)) rfl rfl rfl sub_nil ?_; rintro x s2 m2 ⟨rfl, em⟩ hC; rw [em] at hC)) | ((with_reducible refine zcy ?_); refine zao rfl ?_) | ((with_reducible refine zcz ?_); refine zan rfl ?_))
    all_goals refine zch ?_
    all_goals repeat (first | refine zck ?_ | refine zcl ?_ | refine zcm ?_ | refine zcn ?_)
    refine run_slots [(0, spP p), (1, ptr xb), (2, ptr ob), (4, .int .i64 k), (5, .map (some mb)), (6, .int .i64 (1 + (i : Int))), (7, .int .i64 (rep J (1 + (i : Int)))), (8, .int .i64 0)] ⟨rfl, rfl, rfl, rfl, rfl, rfl, rfl, rfl, trivial⟩ (fun junk => ?_)
    have hF2 := find_ok hK h r1 r2
    rw [hrr] at hF2
    repeat (first | refine zck ?_ | refine zcl ?_ | refine zcm ?_ | refine zcn ?_)
    first | refine zcp (by kernel_rfl) ?_ | refine zcq PP_mixed (by kernel_rfl) (by kernel_rfl) ?_
    repeat' (refine zap rfl ?_; first | refine zad rfl hmx rfl ?_ | ((with_reducible refine zcu ?_); refine zan rfl ?_) | ((with_reducible refine zcv ?_); refine zan rfl ?_) | ((with_reducible refine zcx ?_); (refine reg_callO [0] hC ((f0 K).bd_find (rep J (1 + (i : Int)))) hF2 (by omega) (foFind w0 p (f0 K) (f0_ok hK) (rep J (1 + (i : Int))) (by omega)) rfl rfl rfl sub_nil ?_; rintro x s3 m3 ⟨rfl, em3⟩ hC; rw [em3] at hC)) | ((with_reducible refine zcy ?_); refine zao rfl ?_) | ((with_reducible refine zcz ?_); refine zan rfl ?_))
    all_goals refine zch ?_
    all_goals repeat (first | refine zck ?_ | refine zcl ?_ | refine zcm ?_ | refine zcn ?_)
    refine run_slots [(0, spP p), (1, ptr xb), (2, ptr ob), (4, .int .i64 k), (5, .map (some mb)), (6, .int .i64 (1 + (i : Int))), (7, .int .i64 (rep J (1 + (i : Int)))), (8, .int .i64 0), (9, .int .i64 (rep J (1 + (i : Int)))), (10, .int .i64 0)] ⟨rfl, rfl, rfl, rfl, rfl, rfl, rfl, rfl, rfl, rfl, trivial⟩ (fun junk => ?_)
    repeat (first | refine zck ?_ | refine zcl ?_ | refine zcm ?_ | refine zcn ?_)
    first | refine zcp (by kernel_rfl) ?_ | refine zcq PP_mixed (by kernel_rfl) (by kernel_rfl) ?_
    repeat' (refine zap rfl ?_; first | ((with_reducible refine zct ?_); refine zaj rfl ?_) | ((with_reducible refine zcu ?_); refine zan rfl ?_) | ((with_reducible refine zcw ?_); refine zab 1 rfl rfl rfl ?_) | ((with_reducible refine zda ?_); refine zbc rfl rfl (by omega) ?_) | ((with_reducible refine zdc ?_); refine zbu rfl ?_) | ((with_reducible refine zdd ?_); refine zae 1 rfl rfl rfl rfl rfl rfl rfl ?_))
    all_goals refine zch ?_
    all_goals repeat (first | refine zck ?_ | refine zcl ?_ | refine zcm ?_ | refine zcn ?_)
    refine run_slots [(0, spP p), (1, ptr xb), (2, ptr ob), (4, .int .i64 k), (5, .map (some mb)), (6, .int .i64 (1 + (i : Int))), (7, .int .i64 (rep J (1 + (i : Int))))] ⟨rfl, rfl, rfl, rfl, rfl, rfl, rfl, trivial⟩ (fun junk => ?_)
    repeat (first | refine zck ?_ | refine zcl ?_ | refine zcm ?_ | refine zcn ?_)
    first | refine zcp (by kernel_rfl) ?_ | refine zcq PP_mixed (by kernel_rfl) (by kernel_rfl) ?_
    repeat' (refine zap rfl ?_; first | refine reg_lookup 2 rfl rfl rfl hck ?_ | refine reg_mapUpdate 2 (u := .int .i64 (cnR J (rep J (1 + (i : Int))) i + 1)) (Γ' := [SpaceA p s3, okB ob true, pt mb (mapI (ckL J (i + 1)))]) rfl rfl rfl rfl (by rw [hcs]; rfl) ?_ | ((with_reducible refine zcu ?_); refine zan rfl ?_) | ((with_reducible refine zda ?_); refine zau rfl rfl (by omega) ?_))
    all_goals refine zch ?_
    all_goals repeat (first | refine zck ?_ | refine zcl ?_ | refine zcm ?_ | refine zcn ?_)
    repeat (first | refine zck ?_ | refine zcl ?_ | refine zcm ?_ | refine zcn ?_)
    first | refine zcp (by kernel_rfl) ?_ | refine zcq PP_mixed (by kernel_rfl) (by kernel_rfl) ?_
    repeat' (refine zap rfl ?_; first | ((with_reducible refine zcv ?_); refine zan rfl ?_))
    all_goals refine zch ?_
    all_goals repeat (first | refine zck ?_ | refine zcl ?_ | refine zcm ?_ | refine zcn ?_)
    repeat (first | refine zck ?_ | refine zcl ?_ | refine zcm ?_ | refine zcn ?_)
    first | refine zcp (by kernel_rfl) ?_ | refine zcq PP_mixed (by kernel_rfl) (by kernel_rfl) ?_
    repeat' (refine zap rfl ?_; first | ((with_reducible refine zcu ?_); refine zan rfl ?_) | ((with_reducible refine zcv ?_); refine zan rfl ?_))
    all_goals refine zch ?_
    all_goals repeat (first | refine zck ?_ | refine zcl ?_ | refine zcm ?_ | refine zcn ?_)
    refine run_slots [(0, spP p), (1, ptr xb), (2, ptr ob), (4, .int .i64 k), (5, .map (some mb)), (6, .int .i64 (1 + (i : Int))), (7, .int .i64 (rep J (1 + (i : Int)))), (11, .int .i64 0), (12, .int .i64 (1 + (i : Int)))] ⟨rfl, rfl, rfl, rfl, rfl, rfl, rfl, rfl, rfl, trivial⟩ (fun junk => ?_)
    refine run_loop (S := Nat × Int) (fun st => [(0, spP p), (1, ptr xb), (2, ptr ob), (4, .int .i64 k), (5, .map (some mb)), (6, .int .i64 (1 + (i : Int))), (7, .int .i64 (rep J (1 + (i : Int)))), (11, .int .i64 (st.1 : Int)), (12, .int .i64 st.2)])
      (fun st Γ => Γ = [SpaceA p s3, okB ob true, pt mb (mapI (ckL J (i + 1)))] ∧ (1 ≤ st.2 ∧ st.2 ≤ k) ∧ rep J st.2 = rep J (1 + (i : Int)) ∧ st.1 + dep J st.2 = dep J (1 + (i : Int))) (fun st => dep J st.2) (0, 1 + (i : Int)) ⟨rfl, rfl, rfl, rfl, rfl, rfl, rfl, rfl, rfl, trivial⟩ ⟨rfl, ⟨hx1, hx2⟩, rfl, Nat.zero_add _⟩ ?_
    rintro ⟨u, z⟩ Γ junk ⟨rfl, hz, hzr, hzd⟩
    dsimp only at hz hzr hzd ⊢
    by_cases hne : z = rep J (1 + (i : Int))
    · repeat' (first | refine zck ?_ | refine zcp (by kernel_rfl) ?_ | (refine zap rfl ?_; first | ((with_reducible refine zct ?_); refine zak rfl ?_) | ((with_reducible refine zcu ?_); refine zan rfl ?_) | ((with_reducible refine zda ?_); refine zbf rfl rfl (by omega) ?_) | ((with_reducible refine zdc ?_); refine zbv rfl ?_)) | refine zch ?_ | refine zcj rfl ?_)
      refine cut_exit rfl rfl ?_
      repeat (first | refine zck ?_ | refine zcl ?_ | refine zcm ?_ | refine zcn ?_)
      first | refine zcp (by kernel_rfl) ?_ | refine zcq PP_mixed (by kernel_rfl) (by kernel_rfl) ?_
      repeat' (refine zap rfl ?_; first | ((with_reducible refine zct ?_); refine zaj rfl ?_) | ((with_reducible refine zcu ?_); refine zan rfl ?_) | ((with_reducible refine zcw ?_); refine zab 1 rfl rfl rfl ?_) | ((with_reducible refine zda ?_); refine zbi rfl rfl (by omega) ?_) | ((with_reducible refine zdc ?_); refine zbu rfl ?_) | ((with_reducible refine zdd ?_); refine zae 1 rfl rfl rfl rfl rfl rfl rfl ?_))
      all_goals refine zch ?_
      all_goals repeat (first | refine zck ?_ | refine zcl ?_ | refine zcm ?_ | refine zcn ?_)
      repeat (first | refine zck ?_ | refine zcl ?_ | refine zcm ?_ | refine zcn ?_)
      first | refine zcp (by kernel_rfl) ?_ | refine zcq PP_mixed (by kernel_rfl) (by kernel_rfl) ?_
      repeat' (refine zap rfl ?_; first | ((with_reducible refine zcu ?_); refine zan rfl ?_) | ((with_reducible refine zcv ?_); refine zan rfl ?_) | ((with_reducible refine zda ?_); refine zau rfl rfl (by omega) ?_))
      all_goals refine zch ?_
      all_goals repeat (first | refine zck ?_ | refine zcl ?_ | refine zcm ?_ | refine zcn ?_)
      exact cut_end ⟨rfl, (i + 1, s3), ⟨rfl, rfl, rfl, rfl, rfl, congrArg (Value.int .i64) (by dsimp only; omega), trivial⟩, ⟨rfl, hC, by dsimp only; omega⟩, by dsimp only; omega⟩
    · obtain ⟨q1, q2, q3, q4⟩ := up_at h.vd (x := z) (by rw [hzr]; exact hne)
      have hB := below_spec w0 wb hK r kn T hW h z hz.1 hz.2
      repeat' (first | refine zck ?_ | refine zcp (by kernel_rfl) ?_ | refine zcm ?_ | refine zcl ?_ | refine zcn ?_ | (refine zap rfl ?_; first | refine zad rfl hmx rfl ?_ | ((with_reducible refine zct ?_); refine zaj rfl ?_) | ((with_reducible refine zcu ?_); refine zan rfl ?_) | ((with_reducible refine zcv ?_); refine zan rfl ?_) | ((with_reducible refine zcx ?_); refine zah [] hB rfl rfl rfl (fun p hp => by rw [List.mem_singleton.1 hp]; exact hwb) rfl ?_) | ((with_reducible refine zda ?_); first | refine zbe rfl rfl (by omega) ?_ | refine zbi rfl rfl (by omega) ?_ | refine zau rfl rfl (by omega) ?_) | ((with_reducible refine zdc ?_); refine zbu rfl ?_)) | refine zch ?_ | refine zci rfl ?_)
      exact cut_end ⟨rfl, (u + 1, par J z), ⟨rfl, rfl, rfl, rfl, rfl, rfl, rfl, congrArg (Value.int .i64) (by dsimp only; omega), rfl, trivial⟩, ⟨rfl, ⟨q1, q2⟩, q3.trans hzr, by dsimp only; omega⟩, by dsimp only; omega⟩
  · have hil : i = k := by omega
    subst hil
    repeat' (first | refine zck ?_ | refine zcp (by kernel_rfl) ?_ | (refine zap rfl ?_; first | ((with_reducible refine zcu ?_); refine zan rfl ?_) | ((with_reducible refine zda ?_); refine zbj rfl rfl (by omega) ?_)) | refine zch ?_ | refine zcj rfl ?_)
    refine cut_exit rfl rfl ?_
    repeat (first | refine zck ?_ | refine zcl ?_ | refine zcm ?_ | refine zcn ?_ | refine zco ?_)
    repeat (first | refine zck ?_ | refine zcl ?_ | refine zcm ?_ | refine zcn ?_)
    first | refine zcp (by kernel_rfl) ?_ | refine zcq PP_mixed (by kernel_rfl) (by kernel_rfl) ?_
    repeat' (refine zap rfl ?_; first | ((with_reducible refine zcv ?_); refine zan rfl ?_))
    all_goals refine zch ?_
    all_goals repeat (first | refine zck ?_ | refine zcl ?_ | refine zcm ?_ | refine zcn ?_)
    refine run_slots [(0, spP p), (1, ptr xb), (2, ptr ob), (4, .int .i64 i), (5, .map (some mb)), (13, .int .i64 1)] ⟨rfl, rfl, rfl, rfl, rfl, rfl, trivial⟩ (fun junk => ?_)
    refine run_loop (S := Nat × Sp) (fun st => [(0, spP p), (1, ptr xb), (2, ptr ob), (4, .int .i64 i), (5, .map (some mb)), (13, .int .i64 (1 + (st.1 : Int)))])
      (fun st Γ => Γ = [SpaceA p st.2, okB ob true, pt mb (mapI (ckL J i))] ∧ Cu 368 s st.2 m 0 ∧ st.1 ≤ i) (fun st => i - st.1) (0, s1) ⟨rfl, rfl, rfl, rfl, rfl, rfl, trivial⟩ ⟨rfl, hC, Nat.zero_le _⟩ ?_
    rintro ⟨e, s2⟩ Γ junk ⟨rfl, hC, he⟩
    dsimp only at hC he ⊢
    by_cases hlt : e < i
    · have hx1 : (1 : Int) ≤ 1 + e := by omega
      have hx2 : 1 + (e : Int) ≤ i := by omega
      obtain ⟨r1, r2⟩ := rep_in h.vd _ hx1 hx2
      have hrr := rep_rep h.vd (1 + (e : Int))
      have hck := getD_ckL J (rep J (1 + (e : Int))) i
      have hsz : cnR J (rep J (1 + (e : Int))) i = sz J (rep J (1 + (e : Int))) := (sz_count h.vd _ r1 r2 (rep_root h.vd _)).symm
      rw [hsz] at hck
      have hS1 := same_ok hK h ⟨hx1, hx2⟩ ⟨r1, r2⟩
      have hS2 := same_ok hK h ⟨r1, r2⟩ ⟨hx1, hx2⟩
      rw [hrr, decide_eq_true rfl] at hS1 hS2
      repeat (first | refine zck ?_ | refine zcl ?_ | refine zcm ?_ | refine zcn ?_)
      first | refine zcp (by kernel_rfl) ?_ | refine zcq PP_mixed (by kernel_rfl) (by kernel_rfl) ?_
      repeat' (refine zap rfl ?_; first | ((with_reducible refine zcu ?_); refine zan rfl ?_) | ((with_reducible refine zda ?_); refine zbi rfl rfl (by omega) ?_))
      all_goals refine zch ?_
      all_goals repeat (first | refine zck ?_ | refine zcl ?_ | refine zcm ?_ | refine zcn ?_)
      refine zci rfl ?_
      repeat (first | refine zck ?_ | refine zcl ?_ | refine zcm ?_ | refine zcn ?_)
      first | refine zcp (by kernel_rfl) ?_ | refine zcq PP_mixed (by kernel_rfl) (by kernel_rfl) ?_
      repeat' (refine zap rfl ?_; first | refine zad rfl hmx rfl ?_ | ((with_reducible refine zcu ?_); refine zan rfl ?_) | ((with_reducible refine zcv ?_); refine zan rfl ?_) | ((with_reducible refine zcx ?_); (refine reg_callO [0] hC ((f0 K).bd_find (1 + (e : Int))) (find_ok hK h hx1 hx2) (by omega) (foFind w0 p (f0 K) (f0_ok hK) (1 + (e : Int)) (by omega)) rfl rfl rfl sub_nil ?_; rintro x s3 m3 ⟨rfl, em⟩ hC; rw [em] at hC)) | ((with_reducible refine zcy ?_); refine zao rfl ?_) | ((with_reducible refine zcz ?_); refine zan rfl ?_))
      all_goals refine zch ?_
      all_goals repeat (first | refine zck ?_ | refine zcl ?_ | refine zcm ?_ | refine zcn ?_)
      repeat (first | refine zck ?_ | refine zcl ?_ | refine zcm ?_ | refine zcn ?_)
      first | refine zcp (by kernel_rfl) ?_ | refine zcq PP_mixed (by kernel_rfl) (by kernel_rfl) ?_
      repeat' (refine zap rfl ?_; first | refine zad rfl hmx rfl ?_ | ((with_reducible refine zcu ?_); refine zan rfl ?_) | ((with_reducible refine zcv ?_); refine zan rfl ?_) | ((with_reducible refine zcx ?_); (refine reg_callO [0] hC ((f0 K).bd_sizeOf (1 + (e : Int))) (size_ok hK h hx1 hx2) (by omega) (foSize w0 p (f0 K) (f0_ok hK) (1 + (e : Int)) (by omega)) rfl rfl rfl sub_nil ?_; rintro x s4 m4 ⟨rfl, em4⟩ hC; rw [em4] at hC)) | ((with_reducible refine zcy ?_); refine zao rfl ?_) | ((with_reducible refine zcz ?_); refine zan rfl ?_))
      all_goals refine zch ?_
      all_goals repeat (first | refine zck ?_ | refine zcl ?_ | refine zcm ?_ | refine zcn ?_)
      refine run_slots [(0, spP p), (1, ptr xb), (2, ptr ob), (4, .int .i64 i), (5, .map (some mb)), (13, .int .i64 (1 + (e : Int))), (14, .int .i64 (rep J (1 + (e : Int)))), (16, .int .i64 (sz J (rep J (1 + (e : Int)))))] ⟨rfl, rfl, rfl, rfl, rfl, rfl, rfl, rfl, trivial⟩ (fun junk => ?_)
      repeat (first | refine zck ?_ | refine zcl ?_ | refine zcm ?_ | refine zcn ?_)
      first | refine zcp (by kernel_rfl) ?_ | refine zcq PP_mixed (by kernel_rfl) (by kernel_rfl) ?_
      repeat' (refine zap rfl ?_; first | refine reg_lookup 2 rfl rfl rfl hck ?_ | ((with_reducible refine zct ?_); refine zaj rfl ?_) | ((with_reducible refine zcu ?_); refine zan rfl ?_) | ((with_reducible refine zcw ?_); refine zab 1 rfl rfl rfl ?_) | ((with_reducible refine zda ?_); refine zbc rfl rfl (by omega) ?_) | ((with_reducible refine zdc ?_); refine zbu rfl ?_) | ((with_reducible refine zdd ?_); refine zae 1 rfl rfl rfl rfl rfl rfl rfl ?_))
      all_goals refine zch ?_
      all_goals repeat (first | refine zck ?_ | refine zcl ?_ | refine zcm ?_ | refine zcn ?_)
      refine run_slots [(0, spP p), (1, ptr xb), (2, ptr ob), (4, .int .i64 i), (5, .map (some mb)), (13, .int .i64 (1 + (e : Int))), (14, .int .i64 (rep J (1 + (e : Int))))] ⟨rfl, rfl, rfl, rfl, rfl, rfl, rfl, trivial⟩ (fun junk => ?_)
      repeat (first | refine zck ?_ | refine zcl ?_ | refine zcm ?_ | refine zcn ?_)
      first | refine zcp (by kernel_rfl) ?_ | refine zcq PP_mixed (by kernel_rfl) (by kernel_rfl) ?_
      repeat' (refine zap rfl ?_; first | refine zad rfl hmx rfl ?_ | ((with_reducible refine zcu ?_); refine zan rfl ?_) | ((with_reducible refine zcv ?_); refine zan rfl ?_) | ((with_reducible refine zcx ?_); (refine reg_callO [0] hC ((f0 K).bd_same (1 + (e : Int)) (rep J (1 + (e : Int)))) hS1 (by omega) (foSame w0 p (f0 K) (f0_ok hK) (1 + (e : Int)) (rep J (1 + (e : Int))) (by omega) (by omega)) rfl rfl rfl sub_nil ?_; rintro x s5 m5 ⟨rfl, em5⟩ hC; rw [em5] at hC)) | ((with_reducible refine zcy ?_); refine zao rfl ?_) | ((with_reducible refine zcz ?_); refine zan rfl ?_))
      all_goals refine zch ?_
      all_goals repeat (first | refine zck ?_ | refine zcl ?_ | refine zcm ?_ | refine zcn ?_)
      repeat (first | refine zck ?_ | refine zcl ?_ | refine zcm ?_ | refine zcn ?_)
      first | refine zcp (by kernel_rfl) ?_ | refine zcq PP_mixed (by kernel_rfl) (by kernel_rfl) ?_
      repeat' (refine zap rfl ?_; first | refine zad rfl hmx rfl ?_ | ((with_reducible refine zcu ?_); refine zan rfl ?_) | ((with_reducible refine zcv ?_); refine zan rfl ?_) | ((with_reducible refine zcx ?_); (refine reg_callO [0] hC ((f0 K).bd_same (rep J (1 + (e : Int))) (1 + (e : Int))) hS2 (by omega) (foSame w0 p (f0 K) (f0_ok hK) (rep J (1 + (e : Int))) (1 + (e : Int)) (by omega) (by omega)) rfl rfl rfl sub_nil ?_; rintro x s6 m6 ⟨rfl, em6⟩ hC; rw [em6] at hC)) | ((with_reducible refine zcy ?_); refine zao rfl ?_) | ((with_reducible refine zcz ?_); refine zan rfl ?_))
      all_goals refine zch ?_
      all_goals repeat (first | refine zck ?_ | refine zcl ?_ | refine zcm ?_ | refine zcn ?_)
      refine run_slots [(0, spP p), (1, ptr xb), (2, ptr ob), (4, .int .i64 i), (5, .map (some mb)), (13, .int .i64 (1 + (e : Int))), (18, .bool true), (20, .bool true)] ⟨rfl, rfl, rfl, rfl, rfl, rfl, rfl, rfl, trivial⟩ (fun junk => ?_)
      repeat' (first | refine zcp (by kernel_rfl) ?_ | refine zcn ?_ | (refine zap rfl ?_; first | ((with_reducible refine zct ?_); refine zaj rfl ?_) | ((with_reducible refine zcu ?_); refine zan rfl ?_) | ((with_reducible refine zcv ?_); refine zan rfl ?_) | ((with_reducible refine zcw ?_); refine zab 1 rfl rfl rfl ?_) | ((with_reducible refine zda ?_); refine zau rfl rfl (by omega) ?_) | ((with_reducible refine zdc ?_); refine zbu rfl ?_) | ((with_reducible refine zdd ?_); refine zae 1 rfl rfl rfl rfl rfl rfl rfl ?_)) | refine zch ?_)
      exact cut_end ⟨rfl, (e + 1, _), ⟨rfl, rfl, rfl, rfl, rfl, congrArg (Value.int .i64) (by dsimp only; omega), trivial⟩, ⟨rfl, hC, by dsimp only; omega⟩, by dsimp only; omega⟩
    · have hle : e = i := by omega
      have hlen := len_all h.vd
      repeat' (first | refine zck ?_ | refine zcp (by kernel_rfl) ?_ | (refine zap rfl ?_; first | ((with_reducible refine zcu ?_); refine zan rfl ?_) | ((with_reducible refine zda ?_); refine zbj rfl rfl (by omega) ?_)) | refine zch ?_ | refine zcj rfl ?_)
      refine cut_exit rfl rfl ?_
      repeat' (first | refine zcp (by kernel_rfl) ?_ | (refine zap rfl ?_; first | refine zad rfl hmx rfl ?_ | (refine reg_len_map 2 rfl rfl ?_; rw [hlen]) | ((with_reducible refine zct ?_); refine zaj rfl ?_) | ((with_reducible refine zcu ?_); refine zan rfl ?_) | ((with_reducible refine zcw ?_); refine zab 1 rfl rfl rfl ?_) | ((with_reducible refine zcx ?_); (refine reg_callO [0] hC (Pg.bd_gt0 ((f0 K).root + 1)) (sets_ok h) (by omega) (foSets w0 p (f0 K) (f0_ok hK)) rfl rfl rfl sub_nil ?_; rintro x s3 m3 ⟨rfl, em⟩ hC; rw [em] at hC)) | ((with_reducible refine zcy ?_); refine zao rfl ?_) | ((with_reducible refine zda ?_); refine zbc rfl rfl (by omega) ?_) | ((with_reducible refine zdc ?_); refine zbu rfl ?_) | ((with_reducible refine zdd ?_); refine zae 1 rfl rfl rfl rfl rfl rfl rfl ?_)) | refine zch ?_)
      exact run_nil (leaves_nil (ends_take [0, 0] rfl (ends_none rfl ⟨rfl, _, rfl, rfl, hC⟩)))
end
end Go.Proofs.Ytpcnbaddkblbhaa

/- The law's ForestSets. -/
namespace Go.Proofs.Ytpcnbaddkblbhaa
open Go.Vc Sim
set_option maxHeartbeats 8000000
theorem sets_spec (w0 : World) (nn : Int) (hn : u8P nn) (v : Value) (l : List Cl) (hv : InSl w0 Cl.cells 3 v l) (hok : ∀ x ∈ l, x.ok) :
    FnE PP w0 [] 5 [.int .u8 nn, v] [] (.bool true) [] := by
  have hr := hv.rd (sh := [])
  obtain ⟨a, cap, rfl, hmax, hmem⟩ := hv
  have hG := great_spec w0 a l.length cap
  have hA := awake_spec w0
  by_cases hl : (l.length : Int) > 100
  · rw [decide_eq_true hl] at hG
    refine fn_of_run en5 fn5 rfl rfl rfl ?_
    repeat' (first | refine zck ?_ | refine zcp (by kernel_rfl) ?_ | (refine zap rfl ?_; first | ((with_reducible refine zcu ?_); refine zan rfl ?_) | ((with_reducible refine zcv ?_); refine zan rfl ?_) | ((with_reducible refine zcx ?_); first | refine zah [] hG rfl rfl rfl sub_nil rfl ?_ | refine zah [] hA rfl rfl rfl sub_nil rfl ?_)) | refine zch ?_ | refine zci rfl ?_)
    exact ret_tmp1 rfl ⟨rfl, rfl⟩
  · rw [decide_eq_false hl] at hG
    have hP := played_spec w0 [] nn hn _ l hr hok (by omega)
    have hK : 0 ≤ nn % 39 ∧ nn % 39 ≤ 38 := by omega
    generalize nn % 39 = K at hK hP
    generalize plJ K l l.length = kJ at hP
    obtain ⟨k, J⟩ := kJ
    refine fn_of_run en5 fn5 rfl rfl rfl ?_
    repeat (first | refine zck ?_ | refine zcl ?_ | refine zcm ?_ | refine zcn ?_)
    first | refine zcp (by kernel_rfl) ?_ | refine zcq PP_mixed (by kernel_rfl) (by kernel_rfl) ?_
    repeat' (refine zap rfl ?_; first | ((with_reducible refine zcv ?_); refine zan rfl ?_))
    all_goals refine zch ?_
    all_goals repeat (first | refine zck ?_ | refine zcl ?_ | refine zcm ?_ | refine zcn ?_)
    repeat (first | refine zck ?_ | refine zcl ?_ | refine zcm ?_ | refine zcn ?_)
    first | refine zcp (by kernel_rfl) ?_ | refine zcq PP_mixed (by kernel_rfl) (by kernel_rfl) ?_
    repeat' (refine zap rfl ?_; first | ((with_reducible refine zcu ?_); refine zan rfl ?_) | ((with_reducible refine zcx ?_); refine zah [] hG rfl rfl rfl sub_nil rfl ?_))
    all_goals refine zch ?_
    all_goals repeat (first | refine zck ?_ | refine zcl ?_ | refine zcm ?_ | refine zcn ?_)
    refine zcj rfl ?_
    repeat (first | refine zck ?_ | refine zcl ?_ | refine zcm ?_ | refine zcn ?_ | refine zco ?_)
    repeat (first | refine zck ?_ | refine zcl ?_ | refine zcm ?_ | refine zcn ?_)
    first | refine zcp (by kernel_rfl) ?_ | refine zcq PP_mixed (by kernel_rfl) (by kernel_rfl) ?_
    repeat' (refine zap rfl ?_; first | (refine zai [] hP rfl rfl rfl sub_nil ?_; rintro v Γ' ⟨⟨m, r, ad, hM⟩, wb, kn, rfl, rfl, hW⟩) | ((with_reducible refine zcu ?_); refine zan rfl ?_) | ((with_reducible refine zcv ?_); refine zan rfl ?_) | ((with_reducible refine zcz ?_); refine zan rfl ?_) | ((with_reducible refine zdd ?_); refine zae 4 rfl rfl rfl rfl rfl rfl rfl ?_) | ((with_reducible refine zdh ?_); refine zar (fun nb => ?_)))
    all_goals refine zch ?_
    all_goals repeat (first | refine zck ?_ | refine zcl ?_ | refine zcm ?_ | refine zcn ?_)
    revert nb; intro xb
    refine run_share [0] rfl ?_
    refine run_share [3] rfl ?_
    refine run_take [] rfl ?_
    repeat (first | refine zck ?_ | refine zcl ?_ | refine zcm ?_ | refine zcn ?_)
    first | refine zcp (by kernel_rfl) ?_ | refine zcq PP_mixed (by kernel_rfl) (by kernel_rfl) ?_
    repeat' (refine zap rfl ?_; first | ((with_reducible refine zcu ?_); refine zan rfl ?_) | ((with_reducible refine zdb ?_); refine zbx rfl ?_))
    all_goals refine zch ?_
    all_goals repeat (first | refine zck ?_ | refine zcl ?_ | refine zcm ?_ | refine zcn ?_)
    refine zcj rfl ?_
    repeat (first | refine zck ?_ | refine zcl ?_ | refine zcm ?_ | refine zcn ?_ | refine zco ?_)
    refine run_slots [(5, ptr xb)] ⟨rfl, trivial⟩ (fun junk => ?_)
    repeat (first | refine zck ?_ | refine zcl ?_ | refine zcm ?_ | refine zcn ?_)
    first | refine zcp (by kernel_rfl) ?_ | refine zcq PP_mixed (by kernel_rfl) (by kernel_rfl) ?_
    repeat' (refine zap rfl ?_; first | ((with_reducible refine zdd ?_); refine zae 0 rfl rfl rfl rfl rfl rfl rfl ?_) | ((with_reducible refine zdh ?_); refine zar (fun nb => ?_)))
    all_goals refine zch ?_
    all_goals repeat (first | refine zck ?_ | refine zcl ?_ | refine zcm ?_ | refine zcn ?_)
    revert nb; intro ob
    have hD := done_mem (σ := Unit) w0 [(xb, .cells (List.toArray (stC wb K r k J)) 36 (0, 0)), (wb, mapI (knM kn))] wb kn 368 l.length m (by omega) hW 24 (List.toArray [ptr xb, ptr ob]) (okB ob true) (fun _ => okB ob true) (fun _ => m)
      (fun p s hC _ => (sets1_spec w0 _ p xb ob wb hK r kn _ hW s hC hM (.head _) (.tail _ (.head _))).mono (fun v Γ ⟨s', e1, e2, e3⟩ => ⟨(), s', 0, e1, e2, by decide, e3⟩))
    repeat (first | refine zck ?_ | refine zcl ?_ | refine zcm ?_ | refine zcn ?_)
    first | refine zcp (by kernel_rfl) ?_ | refine zcq PP_mixed (by kernel_rfl) (by kernel_rfl) ?_
    repeat' (refine zap rfl ?_; first | ((with_reducible refine zcw ?_); refine zaa 0 rfl rfl rfl ?_) | ((with_reducible refine zcx ?_); (refine zai [0] hD rfl rfl rfl (fun p hp => by rcases List.mem_cons.1 hp with e | hp <;> first | (subst e; exact .tail _ (.head _)) | exact hp) ?_; rintro v Γ' ⟨_, nb, wa, wl, wc, kn2, rfl, rfl, hW2⟩)) | ((with_reducible refine zcy ?_); refine zao rfl ?_) | refine zan rfl ?_)
    all_goals refine zch ?_
    all_goals repeat (first | refine zck ?_ | refine zcl ?_ | refine zcm ?_ | refine zcn ?_)
    repeat' (first | refine zcp (by kernel_rfl) ?_ | (refine zap rfl ?_; first | ((with_reducible refine zct ?_); refine zaj rfl ?_) | ((with_reducible refine zcu ?_); refine zan rfl ?_) | ((with_reducible refine zcv ?_); refine zan rfl ?_) | ((with_reducible refine zcw ?_); refine zab 1 rfl rfl rfl ?_) | ((with_reducible refine zcx ?_); refine zah [] hA rfl rfl rfl sub_nil rfl ?_) | ((with_reducible refine zdc ?_); refine zbu rfl ?_)) | refine zch ?_)
    exact run_ret (leaves_nil (ends_take [] rfl (ends_one rfl rfl ⟨rfl, rfl, rfl⟩)))
end Go.Proofs.Ytpcnbaddkblbhaa

/- The law's Asks$1: one operation. -/
namespace Sim.Fo
open Pg
variable (F : Fo)
def doA (d X Y : Int) : Pg Bool :=
  if d % 4 = 0 then F.find X >>= fun _ => pure false
  else if d % 4 = 1 then F.same X Y >>= fun _ => pure false
  else if d % 4 = 2 then F.union X Y >>= fun r => pure r.1
  else F.undo >>= fun r => pure r.1
theorem bd_doA (d X Y : Int) : Bd 5 (F.doA d X Y) := by
  unfold doA
  split
  · exact (bd_then (F.bd_find X) (fun _ => bd_pure _) (by decide)).mono (Nat.zero_le 5)
  · split
    · exact (bd_then (F.bd_same X Y) (fun _ => bd_pure _) (by decide)).mono (Nat.zero_le 5)
    · split
      · exact bd_then (F.bd_union X Y) (fun _ => bd_pure _) (by decide)
      · exact bd_then F.bd_undo (fun _ => bd_pure _) (by decide)
theorem qt_tail {α : Type} {φ : Bool → Prop} {f : α → Bool} : ∀ {g : Pg α}, Qt (fun r => φ (f r)) g → Qt φ (g >>= fun r => pure (f r))
  | .ret _, _ => trivial
  | .get _ k, h => fun v => qt_tail (g := k v) (h v)
  | .put _ _ k, h => by
    have key : ∀ {g : Pg α}, All (fun r => ¬ φ (f r)) g → All (fun r => ¬ φ r) (g >>= fun r => pure (f r)) := fun h => all_bind (φ := fun r => ¬ φ r) (ψ := fun r => ¬ φ (f r)) (f := fun r => pure (f r)) (fun a ha => all_pure (φ := fun r => ¬ φ r) (a := f a) ha) h
    exact key (g := k) h
  | .mark k, h => fun v => qt_tail (g := k v) (h v)
  | .back _ k, h => qt_tail (g := k) h
theorem qt_doA (d X Y : Int) : Qt (fun r => r = false) (F.doA d X Y) := by
  unfold doA
  split
  · exact qt_bind (fun _ => qt_bd (bd_pure _)) (F.bd_find X)
  · split
    · exact qt_bind (fun _ => qt_bd (bd_pure _)) (F.bd_same X Y)
    · split
      · exact qt_tail (F.qt_union X Y)
      · exact qt_tail F.qt_undo
end Sim.Fo
namespace Go.Proofs.Ytpcnbaddkblbhaa
open Go.Vc Sim
set_option maxHeartbeats 8000000
section
variable {K : Int} {k : Nat} {J : Jn}
theorem asks1_spec (w0 : World) (sh : Shared) (p cb xb wb : Nat) (hK : 0 ≤ K ∧ K ≤ 38) (r : Rl) (d X Y : Int) (hd : 0 ≤ d ∧ d ≤ 255) (hX : X ≤ 9223372036854775807) (hY : Y ≤ 9223372036854775807) (hcb : (cb, clC d X Y) ∈ sh) (hxb : (xb, .cells (List.toArray (stC wb K r k J)) 36 (0, 0)) ∈ sh) :
    FnG w0 sh 28 [spP p, ptr cb, ptr xb] p ((f0 K).doA d X Y) .bool := by
  have hd4 : d.tmod 4 = d % 4 := Int.tmod_eq_emod_of_nonneg hd.1
  have hmx : ∀ hF Γ w, Sh sh hF → St w0 hF Γ w → w.heap[xb]? = some (.cells (List.toArray (stC wb K r k J)) 36 (0, 0)) := fun hF Γ w h1 h2 => (h2.frame (h1 _ hxb)).2
  have hmc : ∀ hF Γ w, Sh sh hF → St w0 hF Γ w → w.heap[cb]? = some (clC d X Y) := fun hF Γ w h1 h2 => (h2.frame (h1 _ hcb)).2
  intro s hS
  have hG := At.start hS
  generalize Pg.run _ s = R at hG ⊢
  unfold Fo.doA at hG
  refine fn_of_run en28 fn28 rfl rfl rfl ?_
  repeat (first | refine zck ?_ | refine zcl ?_ | refine zcm ?_ | refine zcn ?_)
  first | refine zcp (by kernel_rfl) ?_ | refine zcq PP_mixed (by kernel_rfl) (by kernel_rfl) ?_
  repeat' (refine zap rfl ?_; first | ((with_reducible refine zcv ?_); refine zan rfl ?_))
  all_goals refine zch ?_
  all_goals repeat (first | refine zck ?_ | refine zcl ?_ | refine zcm ?_ | refine zcn ?_)
  repeat (first | refine zck ?_ | refine zcl ?_ | refine zcm ?_ | refine zcn ?_)
  first | refine zcp (by kernel_rfl) ?_ | refine zcq PP_mixed (by kernel_rfl) (by kernel_rfl) ?_
  repeat' (refine zap rfl ?_; first | ((with_reducible refine zcv ?_); refine zan rfl ?_))
  all_goals refine zch ?_
  all_goals repeat (first | refine zck ?_ | refine zcl ?_ | refine zcm ?_ | refine zcn ?_)
  repeat (first | refine zck ?_ | refine zcl ?_ | refine zcm ?_ | refine zcn ?_)
  first | refine zcp (by kernel_rfl) ?_ | refine zcq PP_mixed (by kernel_rfl) (by kernel_rfl) ?_
  repeat' (refine zap rfl ?_; first | (refine reg_rem rfl rfl (by decide) ?_; rw [hd4]) | refine zad rfl hmc rfl ?_ | ((with_reducible refine zcy ?_); refine zao rfl ?_))
  all_goals refine zch ?_
  all_goals repeat (first | refine zck ?_ | refine zcl ?_ | refine zcm ?_ | refine zcn ?_)
  by_cases c0 : d % 4 = 0
  · rw [if_pos c0] at hG
    repeat' (first | refine zck ?_ | refine zcp (by kernel_rfl) ?_ | refine zcn ?_ | (refine zap rfl ?_; first | refine zad rfl hmx rfl ?_ | refine zad rfl hmc rfl ?_ | ((with_reducible refine zcu ?_); refine zan rfl ?_) | ((with_reducible refine zcv ?_); refine zan rfl ?_) | ((with_reducible refine zcx ?_); refine reg_callG [0] hG (foFind w0 p (f0 K) (f0_ok hK) X hX) rfl rfl rfl sub_nil (fun u s hG => ?_)) | ((with_reducible refine zcy ?_); refine zao rfl ?_) | ((with_reducible refine zda ?_); refine zbc rfl rfl (by omega) ?_)) | refine zch ?_ | refine zci rfl ?_)
    rw [hG.done]
    exact ret_tmp1 rfl ⟨rfl, rfl⟩
  rw [if_neg c0] at hG
  by_cases c1 : d % 4 = 1
  · rw [if_pos c1] at hG
    repeat' (first | refine zck ?_ | refine zcp (by kernel_rfl) ?_ | refine zcn ?_ | (refine zap rfl ?_; first | refine zad rfl hmx rfl ?_ | refine zad rfl hmc rfl ?_ | ((with_reducible refine zcu ?_); refine zan rfl ?_) | ((with_reducible refine zcv ?_); refine zan rfl ?_) | ((with_reducible refine zcx ?_); refine reg_callG [0] hG (foSame w0 p (f0 K) (f0_ok hK) X Y hX hY) rfl rfl rfl sub_nil (fun u s hG => ?_)) | ((with_reducible refine zcy ?_); refine zao rfl ?_) | ((with_reducible refine zda ?_); first | refine zbc rfl rfl (by omega) ?_ | refine zbd rfl rfl (by omega) ?_)) | refine zch ?_ | refine zci rfl ?_ | refine zcj rfl ?_)
    rw [hG.done]
    exact ret_tmp1 rfl ⟨rfl, rfl⟩
  rw [if_neg c1] at hG
  by_cases c2 : d % 4 = 2
  · rw [if_pos c2] at hG
    repeat' (first | refine zck ?_ | refine zcp (by kernel_rfl) ?_ | refine zcn ?_ | (refine zap rfl ?_; first | refine zad rfl hmx rfl ?_ | refine zad rfl hmc rfl ?_ | ((with_reducible refine zcu ?_); refine zan rfl ?_) | ((with_reducible refine zcv ?_); refine zan rfl ?_) | ((with_reducible refine zcx ?_); refine reg_callG [0] hG (foUnion w0 p (f0 K) (f0_ok hK) X Y hX hY) rfl rfl rfl sub_nil (fun u s hG => ?_)) | ((with_reducible refine zcy ?_); refine zao rfl ?_) | ((with_reducible refine zcz ?_); refine zan rfl ?_) | ((with_reducible refine zda ?_); first | refine zbc rfl rfl (by omega) ?_ | refine zbd rfl rfl (by omega) ?_)) | refine zch ?_ | refine zci rfl ?_ | refine zcj rfl ?_)
    rw [hG.done]
    exact ret_tmp1 rfl ⟨rfl, rfl⟩
  rw [if_neg c2] at hG
  repeat' (first | refine zck ?_ | refine zcp (by kernel_rfl) ?_ | refine zcn ?_ | (refine zap rfl ?_; first | refine zad rfl hmx rfl ?_ | ((with_reducible refine zcu ?_); refine zan rfl ?_) | ((with_reducible refine zcv ?_); refine zan rfl ?_) | ((with_reducible refine zcx ?_); refine reg_callG [0] hG (foUndo w0 p (f0 K) (f0_ok hK)) rfl rfl rfl sub_nil (fun u s hG => ?_)) | ((with_reducible refine zcy ?_); refine zao rfl ?_) | ((with_reducible refine zcz ?_); refine zan rfl ?_) | ((with_reducible refine zda ?_); refine zbd rfl rfl (by omega) ?_)) | refine zch ?_ | refine zcj rfl ?_)
  rw [hG.done]
  exact ret_tmp1 rfl ⟨rfl, rfl⟩
end
end Go.Proofs.Ytpcnbaddkblbhaa

/- The law's ForestAsks. -/
namespace Sim
open Go Go.Vc
variable {K : Int} {m : Int → Int} {k : Nat} {J : Jn} {ad : Nat → Int}
theorem doA_ok (hK : 0 ≤ K ∧ K ≤ 38) (h : Mm K m k (nC k) (tC k) J ad) (d X Y : Int) : Pg.Ok 368 ((f0 K).doA d X Y) m fun _ _ => True := by
  have hf : Pg.Ok 368 ((f0 K).find X) m fun _ _ => True := by
    by_cases hx : 1 ≤ X ∧ X ≤ k
    · exact (find_ok hK h hx.1 hx.2).mono fun _ _ _ => trivial
    · exact (find_none h hx).mono fun _ _ _ => trivial
  have hs : Pg.Ok 368 ((f0 K).same X Y) m fun _ _ => True := by
    by_cases hx : (1 ≤ X ∧ X ≤ k) ∧ (1 ≤ Y ∧ Y ≤ k)
    · exact (same_ok hK h hx.1 hx.2).mono fun _ _ _ => trivial
    · exact (same_none h hx).mono fun _ _ _ => trivial
  have hu : Pg.Ok 368 ((f0 K).union X Y) m fun _ _ => True := by
    by_cases hx : (1 ≤ X ∧ X ≤ k) ∧ (1 ≤ Y ∧ Y ≤ k)
    · by_cases he : rep J X = rep J Y
      · exact (union_same hK h hx.1 hx.2 he).mono fun _ _ _ => trivial
      · exact (union_join hK h hx.1 hx.2 he).mono fun _ _ _ => trivial
    · exact (union_none h hx).mono fun _ _ _ => trivial
  have hd : Pg.Ok 368 (f0 K).undo m fun _ _ => True := by
    cases J with
    | nil => exact (undo_none h).mono fun _ _ _ => trivial
    | cons ba J => exact (undo_ok hK h).mono fun _ _ _ => trivial
  unfold Fo.doA
  refine Pg.Ok.ite (fun _ => Pg.Ok.bind _ hf fun _ _ _ => Pg.Ok.pure trivial) fun _ => Pg.Ok.ite (fun _ => Pg.Ok.bind _ hs fun _ _ _ => Pg.Ok.pure trivial) fun _ => Pg.Ok.ite (fun _ => Pg.Ok.bind _ hu fun _ _ _ => Pg.Ok.pure trivial) fun _ => Pg.Ok.bind _ hd fun _ _ _ => Pg.Ok.pure trivial
/-- The two runs of an operation. -/
theorem doA_two (hK : 0 ≤ K ∧ K ≤ 38) (h : Mm K m k (nC k) (tC k) J ad) (d X Y : Int) {T : Int} {kn kn1 : List (Int × Wd)} (hW : WM 368 T kn m) (hk : ∀ a, lookW kn1 a = lookW kn a) :
    let s0 : Sp := ⟨kn1, [], [], 0, false⟩
    let s1 := (Pg.run ((f0 K).doA d X Y) s0).2
    Pg.Fits ((f0 K).doA d X Y) s0 ∧ s1.ended = false ∧ s1.rd.length ≤ 4096 ∧ (∀ a ∈ s1.rd, ∃ w, lookW kn a = some w) ∧ s1.puts.length ≤ 5 ∧
      ((Pg.run ((f0 K).doA d X Y) s0).1 = false → s1.puts = []) ∧
      ∀ kn2 : List (Int × Wd), (∀ a ∈ s1.rd, lookW kn2 a = lookW kn a) →
        Pg.Fits ((f0 K).doA d X Y) ⟨kn2, [], [], 0, false⟩ ∧ (Pg.run ((f0 K).doA d X Y) ⟨kn2, [], [], 0, false⟩).1 = (Pg.run ((f0 K).doA d X Y) s0).1 ∧ (Pg.run ((f0 K).doA d X Y) ⟨kn2, [], [], 0, false⟩).2.ended = false ∧ (Pg.run ((f0 K).doA d X Y) ⟨kn2, [], [], 0, false⟩).2.puts = s1.puts := by
  intro s0 s1
  have hC := Cu.start hW (s := s0) rfl rfl rfl hk
  have hb := (f0 K).bd_doA d X Y
  obtain ⟨h1, m', h2, _⟩ := hC.run hb (by decide) (doA_ok hK h d X Y)
  have hks : s1.kn = kn1 := h2.vw.kn
  have hin : ∀ a ∈ s1.rd, ∃ w, lookW kn a = some w := fun a ha => by
    have := h2.wf.rk a ha
    rw [h2.vw.kn, show s0.kn = kn1 from rfl, hk] at this
    exact Option.ne_none_iff_exists'.1 this
  refine ⟨h1, h2.vw.live, nodup_bd 4096 s1.rd h2.wf.nd (fun x hx => ?_), hin, ?_, fun hf => Pg.run_qt _ s0 ((f0 K).qt_doA d X Y) rfl hf, fun kn2 hk2 => ?_⟩
  · obtain ⟨w, hw⟩ := hin x hx
    have := (hW.ok.wd x w hw).2.2.2
    omega
  · have := Pg.run_len ((f0 K).doA d X Y) 5 s0 hb
    exact this
  · have ht : Pg.Twin s1.rd s0 ⟨kn2, [], [], 0, false⟩ := ⟨rfl, rfl, rfl, rfl, fun a ha => (hk2 a ha).trans (hk a).symm⟩
    obtain ⟨g1, g2⟩ := Pg.run_twin ((f0 K).doA d X Y) ht h2.vw.live (fun a ha => ha)
    exact ⟨Pg.fits_of _ 5 _ hb (show 0 + 5 ≤ 1099511627776 by decide), g1, g2.e2, g2.puts⟩
end Sim

