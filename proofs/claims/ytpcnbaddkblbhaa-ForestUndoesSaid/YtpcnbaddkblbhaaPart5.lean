import Derived.Test.YtpcnbaddkblbhaaRows
import Derived.OpenShut
import Derived.Handed
import Derived.JoinedOf
import Derived.Test.YtpcnbaddkblbhaaPart4
import Derived.Test.YtpcnbaddkblbhaaKit1
/- Lemmas and walks for the claims of this seat (own work): Lw4 Lw5 Lw6 Fd0 Pg2 Lw7 Lw8 Lw9 Ck0 Lw10 Lw11 Lw12 Lw13 Lw14 Br0 Br1 Bk0 Un0 Un1 Un2. -/
/- The law's is. -/
namespace Sim
open Go Go.Vc
variable {K : Int} {m : Int → Int} {k nc tc : Nat} {J : Jn} {ad : Nat → Int}
theorem sets_ok (h : Mm K m k nc tc J ad) : Pg.Ok 368 (f0 K).sets m fun r m' => r = (k : Int) - J.length ∧ m' = m :=
  Pg.Ok.get (by unfold f0; dsimp only; omega) (by unfold f0; dsimp only; omega) (Pg.Ok.pure ⟨h.sets, rfl⟩)
theorem many_get (h : Mm K m k nc tc J ad) : Pg.Ok 368 (Pg.gt 16) m fun r m' => r = (k : Int) ∧ m' = m :=
  Pg.Ok.get (by decide) (by decide) (Pg.Ok.pure ⟨h.many, rfl⟩)
theorem nodes_get (h : Mm K m k nc tc J ad) : Pg.Ok 368 (Pg.gt 23) m fun r m' => r = ((nc + tc : Nat) : Int) ∧ m' = m :=
  Pg.Ok.get (by decide) (by decide) (Pg.Ok.pure ⟨h.nodes, rfl⟩)
end Sim
namespace Go.Proofs.Ytpcnbaddkblbhaa
open Go.Vc Sim
set_option maxHeartbeats 8000000
section
variable {K : Int} {m : Int → Int} {k : Nat} {J : Jn} {ad : Nat → Int}
theorem is1_spec (w0 : World) (sh : Shared) (p xb ob wb : Nat) (hK : 0 ≤ K ∧ K ≤ 38) (r : Rl) (s : Sp) (hC : Cu 368 s s m 0) (h : Mm K m k (nC k) (tC k) J ad) (hxb : (xb, .cells (List.toArray (stC wb K r k J)) 36 (0, 0)) ∈ sh) (hR : RdF w0 sh r.a1 r.c1 r.a2 r.c2 r.a3 r.c3 k J) :
    Vc.Fn PP w0 sh 61 [spP p, ptr xb, ptr ob] [SpaceA p s, okB ob true]
      (fun v Γ => ∃ (s' : Sp), v = .tuple #[] ∧ Γ = [SpaceA p s', okB ob true] ∧ Cu 368 s s' m 0) := by
  have hbl := bL_len k J
  have hjl := jL_len J
  have hkl := h.le
  have hJl := joins_lt h.vd
  have hmx : ∀ hF Γ w, Sh sh hF → St w0 hF Γ w → w.heap[xb]? = some (.cells (List.toArray (stC wb K r k J)) 36 (0, 0)) := fun hF Γ w h1 h2 => (h2.frame (h1 _ hxb)).2
  have hS := rfSets w0 sh hR
  have hN := rfNodes w0 ((bL k J).length : Int) (by omega)
  have eS : ((bL k J).length : Int) - (jL J).length = (k : Int) - J.length := by rw [hbl, hjl]
  have eN : (((bL k J).length : Int) + 1) / 2 + ((((bL k J).length : Int) + 1) / 2 + 7) / 8 = ((nC k + tC k : Nat) : Int) := by rw [hbl]; unfold nC tC; omega
  rw [eS] at hS
  rw [eN] at hN
  refine fn_of_run en61 fn61 rfl rfl rfl ?_
  repeat (first | refine zck ?_ | refine zcl ?_ | refine zcm ?_ | refine zcn ?_)
  first | refine zcp (by kernel_rfl) ?_ | refine zcq PP_mixed (by kernel_rfl) (by kernel_rfl) ?_
  repeat' (refine zap rfl ?_; first | refine zad rfl hmx rfl ?_ | ((with_reducible refine zcv ?_); refine zan rfl ?_) | ((with_reducible refine zcx ?_); refine zce rfl ?_) | ((with_reducible refine zcy ?_); refine zao rfl ?_))
  all_goals refine zch ?_
  all_goals repeat (first | refine zck ?_ | refine zcl ?_ | refine zcm ?_ | refine zcn ?_)
  repeat (first | refine zck ?_ | refine zcl ?_ | refine zcm ?_ | refine zcn ?_)
  first | refine zcp (by kernel_rfl) ?_ | refine zcq PP_mixed (by kernel_rfl) (by kernel_rfl) ?_
  repeat' (refine zap rfl ?_; first | refine zad rfl hmx rfl ?_ | ((with_reducible refine zct ?_); refine zaj rfl ?_) | ((with_reducible refine zcu ?_); refine zan rfl ?_) | ((with_reducible refine zcx ?_); first | (refine reg_callO [0] hC (Pg.bd_gt0 ((f0 K).root + 1)) (sets_ok h) (by omega) (foSets w0 p (f0 K) (f0_ok hK)) rfl rfl rfl sub_nil ?_; rintro x s1 m1 ⟨rfl, em⟩ hC; rw [em] at hC) | (refine reg_callO [0] hC (Pg.bd_gt0 _) (many_get h) (by omega) (getG w0 p 16) rfl rfl rfl sub_nil ?_; rintro x s2 m2 ⟨rfl, em⟩ hC; rw [em] at hC) | (refine reg_callO [0] hC (Pg.bd_gt0 _) (nodes_get h) (by omega) (getG w0 p 23) rfl rfl rfl sub_nil ?_; rintro x s3 m3 ⟨rfl, em⟩ hC; rw [em] at hC) | refine zah [] hS rfl rfl rfl (fun _ h => h) rfl ?_ | refine zah [] hN rfl rfl rfl sub_nil rfl ?_) | ((with_reducible refine zcy ?_); refine zao rfl ?_) | ((with_reducible refine zda ?_); refine zbc rfl rfl (by omega) ?_) | ((with_reducible refine zdc ?_); refine zbu rfl ?_) | ((with_reducible refine zdd ?_); refine zae 1 rfl rfl rfl rfl rfl rfl rfl ?_))
  all_goals refine zch ?_
  all_goals repeat (first | refine zck ?_ | refine zcl ?_ | refine zcm ?_ | refine zcn ?_)
  repeat (first | refine zck ?_ | refine zcl ?_ | refine zcm ?_ | refine zcn ?_)
  first | refine zcp (by kernel_rfl) ?_ | refine zcq PP_mixed (by kernel_rfl) (by kernel_rfl) ?_
  repeat' (refine zap rfl ?_; first | ((with_reducible refine zcv ?_); refine zan rfl ?_))
  all_goals refine zch ?_
  all_goals repeat (first | refine zck ?_ | refine zcl ?_ | refine zcm ?_ | refine zcn ?_)
  rw [hbl]
  refine run_slots [(0, spP p), (1, ptr xb), (2, ptr ob), (4, .int .i64 k), (5, .int .i64 1)] ⟨rfl, rfl, rfl, rfl, rfl, trivial⟩ (fun junk => ?_)
  refine run_loop (S := Nat × Sp) (fun st => [(0, spP p), (1, ptr xb), (2, ptr ob), (4, .int .i64 k), (5, .int .i64 (1 + st.1))])
    (fun st Γ => Γ = [SpaceA p st.2, okB ob true] ∧ Cu 368 s st.2 m 0 ∧ st.1 ≤ k) (fun st => k - st.1) (0, _) ⟨rfl, rfl, rfl, rfl, rfl, trivial⟩ ⟨rfl, hC, Nat.zero_le _⟩ ?_
  rintro ⟨i, s4⟩ Γ junk ⟨rfl, hC, hi⟩
  dsimp only at hC hi ⊢
  by_cases hik : i = k
  · repeat' (first | refine zck ?_ | refine zcp (by kernel_rfl) ?_ | (refine zap rfl ?_; first | ((with_reducible refine zct ?_); refine zaj rfl ?_) | ((with_reducible refine zcu ?_); refine zan rfl ?_) | ((with_reducible refine zcw ?_); refine zab 1 rfl rfl rfl ?_) | ((with_reducible refine zda ?_); refine zbj rfl rfl (by omega) ?_) | ((with_reducible refine zdc ?_); refine zbu rfl ?_)) | refine zch ?_ | refine zcj rfl ?_)
    refine cut_exit rfl rfl ?_
    repeat' (first | refine zcp (by kernel_rfl) ?_ | (refine zap rfl ?_; first | ((with_reducible refine zct ?_); refine zaj rfl ?_) | ((with_reducible refine zcu ?_); refine zan rfl ?_) | ((with_reducible refine zcw ?_); refine zab 1 rfl rfl rfl ?_) | ((with_reducible refine zcx ?_); first | (refine zai [0] (writes_spec w0 p s4 (by have := hC.few; omega)) rfl rfl rfl sub_nil ?_; rintro v Γ' ⟨wa, wcap, rfl, rfl⟩; have hw0 : s4.writes.length = 0 := Sp.writes_len0.2 (List.length_eq_zero_iff.1 (by have := hC.few; omega))) | refine zce rfl ?_) | ((with_reducible refine zda ?_); refine zbc rfl rfl (by omega) ?_) | ((with_reducible refine zdc ?_); refine zbu rfl ?_) | ((with_reducible refine zdd ?_); refine zae 2 rfl rfl rfl rfl rfl rfl rfl ?_)) | refine zch ?_)
    exact run_nil (leaves_nil (ends_take [0, 1] rfl (ends_none rfl ⟨rfl, s4, rfl, rfl, hC⟩)))
  · have hq := Int.emod_lt_of_pos (7 * (1 + (i : Int))) (show 0 < (k : Int) by omega)
    have hq0 := Int.emod_nonneg (7 * (1 + (i : Int))) (show (k : Int) ≠ 0 by omega)
    repeat' (first | refine zck ?_ | refine zcp (by kernel_rfl) ?_ | refine zcq PP_mixed (by kernel_rfl) (by kernel_rfl) ?_ | refine zcm ?_ | refine zcl ?_ | refine zcn ?_ | (refine zap rfl ?_; first | refine zad rfl hmx rfl ?_ | ((with_reducible refine zct ?_); refine zaj rfl ?_) | ((with_reducible refine zcu ?_); refine zan rfl ?_) | ((with_reducible refine zcv ?_); refine zan rfl ?_) | ((with_reducible refine zcw ?_); refine zab 1 rfl rfl rfl ?_) | ((with_reducible refine zcx ?_); (refine zai [0] (asks_spec w0 sh p wb hK hR s s4 0 (by decide) hC h (1 + (i : Int)) (1 + (7 * (1 + (i : Int))) % k) (by omega) (by omega)) rfl rfl rfl (fun _ h => h) ?_; rintro v Γ' ⟨s5, rfl, rfl, hC⟩)) | ((with_reducible refine zda ?_); first | refine zbi rfl rfl (by omega) ?_ | refine zau rfl rfl (by omega) ?_ | refine zaw rfl rfl (by omega) ?_ | refine zay rfl rfl (by omega) ?_) | ((with_reducible refine zdc ?_); refine zbu rfl ?_) | ((with_reducible refine zdd ?_); refine zae 1 rfl rfl rfl rfl rfl rfl rfl ?_)) | refine zch ?_ | refine zci rfl ?_)
    exact cut_end ⟨rfl, (i + 1, s5), ⟨rfl, rfl, rfl, rfl, congrArg (Value.int .i64) (by omega), trivial⟩, ⟨rfl, hC, by omega⟩, by dsimp only; omega⟩
end
end Go.Proofs.Ytpcnbaddkblbhaa

/- The law's is, as a whole. -/
namespace Go.Proofs.Ytpcnbaddkblbhaa
open Go.Vc Sim
set_option maxHeartbeats 8000000
section
variable {K : Int} {m : Int → Int} {k : Nat} {J : Jn} {ad : Nat → Int}
theorem is_spec (w0 : World) (sh : Shared) (wb : Nat) (hK : 0 ≤ K ∧ K ≤ 38) (r : Rl) (kn : List (Int × Wd)) (T : Int) (hT : T ≤ 1000000) (hW : WM 368 T kn m) (h : Mm K m k (nC k) (tC k) J ad) :
    Vc.Fn PP w0 sh 36 [stR wb K r k J] (wdA wb kn :: rl3 r k J) (fun v Γ => v = .bool true ∧ Γ = wdA wb kn :: rl3 r k J) := by
  refine fn_of_run en36 fn36 rfl rfl rfl ?_
  refine run_share_keep [0] rfl ?_
  refine run_lend3 [0, 0, 0] rfl fun sh' hi r1 r2 r3 => ?_
  have hwb : (wb, mapI (knM kn)) ∈ sh' := hi _ (.head _)
  have hR := rdF h.le h.vd r1 r2 r3
  repeat (first | refine zck ?_ | refine zcl ?_ | refine zcm ?_ | refine zcn ?_)
  first | refine zcp (by kernel_rfl) ?_ | refine zcq PP_mixed (by kernel_rfl) (by kernel_rfl) ?_
  repeat' (refine zap rfl ?_; first | ((with_reducible refine zcv ?_); refine zan rfl ?_) | ((with_reducible refine zdg ?_); refine zaq (cs := [_, _, _, _, _, _, _, _]) rfl (fun nb => ?_)))
  all_goals refine zch ?_
  all_goals repeat (first | refine zck ?_ | refine zcl ?_ | refine zcm ?_ | refine zcn ?_)
  revert nb; intro xb
  refine run_share [0] rfl ?_
  repeat (first | refine zck ?_ | refine zcl ?_ | refine zcm ?_ | refine zcn ?_)
  first | refine zcp (by kernel_rfl) ?_ | refine zcq PP_mixed (by kernel_rfl) (by kernel_rfl) ?_
  repeat' (refine zap rfl ?_; first | ((with_reducible refine zdd ?_); refine zae 0 rfl rfl rfl rfl rfl rfl rfl ?_) | ((with_reducible refine zdh ?_); refine zar (fun nb => ?_)))
  all_goals refine zch ?_
  all_goals repeat (first | refine zck ?_ | refine zcl ?_ | refine zcm ?_ | refine zcn ?_)
  revert nb; intro ob
  have hD := done_mem (σ := Unit) w0 ((xb, .cells (List.toArray (stC wb K r k J)) 36 (0, 0)) :: sh') wb kn 368 T m hT hW 61 (List.toArray [ptr xb, ptr ob]) (okB ob true) (fun _ => okB ob true) (fun _ => m)
    (fun p s hC _ => (is1_spec w0 _ p xb ob wb hK r s hC h (.head _) (hR.mono fun _ h => .tail _ h)).mono (fun v Γ ⟨s', e1, e2, e3⟩ => ⟨(), s', 0, e1, e2, by decide, e3⟩))
  repeat (first | refine zck ?_ | refine zcl ?_ | refine zcm ?_ | refine zcn ?_)
  first | refine zcp (by kernel_rfl) ?_ | refine zcq PP_mixed (by kernel_rfl) (by kernel_rfl) ?_
  repeat' (refine zap rfl ?_; first | ((with_reducible refine zcu ?_); refine zan rfl ?_) | ((with_reducible refine zcv ?_); refine zan rfl ?_) | ((with_reducible refine zcw ?_); refine zaa 0 rfl rfl rfl ?_) | ((with_reducible refine zcx ?_); (refine zai [0] hD rfl rfl rfl (fun p hp => by rcases List.mem_cons.1 hp with e | hp <;> first | (subst e; exact .tail _ hwb) | exact hp) ?_; rintro v Γ' ⟨_, nb, wa, wl, wc, kn2, rfl, rfl, hW2⟩)) | ((with_reducible refine zcy ?_); refine zao rfl ?_) | ((with_reducible refine zcz ?_); refine zan rfl ?_) | refine zan rfl ?_)
  all_goals refine zch ?_
  all_goals repeat (first | refine zck ?_ | refine zcl ?_ | refine zcm ?_ | refine zcn ?_)
  have hA := alike_spec w0 nb wb kn2 kn
  rw [alike_same hW2 hW] at hA
  refine run_share [0] rfl ?_
  repeat' (first | refine zcp (by kernel_rfl) ?_ | (refine zap rfl ?_; first | ((with_reducible refine zct ?_); refine zaj rfl ?_) | ((with_reducible refine zcu ?_); refine zan rfl ?_) | ((with_reducible refine zcv ?_); refine zan rfl ?_) | ((with_reducible refine zcw ?_); first | refine zaa 1 rfl rfl rfl ?_ | refine zab 0 rfl rfl rfl ?_) | ((with_reducible refine zcx ?_); refine zah [] hA rfl rfl rfl (fun p hp => by rcases List.mem_cons.1 hp with e | hp <;> first | (subst e; exact .head _) | (rw [List.mem_singleton.1 hp]; exact .tail _ (.tail _ hwb))) rfl ?_) | ((with_reducible refine zcy ?_); refine zao rfl ?_) | ((with_reducible refine zdc ?_); refine zbu rfl ?_)) | refine zch ?_)
  exact run_ret (leaves_nil (ends_take [4, 1, 1, 1] rfl (ends_one rfl rfl ⟨rfl, rfl, rfl⟩)))
end
end Go.Proofs.Ytpcnbaddkblbhaa

/- The law's played. -/
namespace Sim
open Go Go.Vc
theorem Mm.zero (K : Int) (hK : 0 ≤ K ∧ K ≤ 38) : Mm K (fun _ => 0) 0 (nC 0) (tC 0) [] (fun _ => 0) := by
  have hv : ∀ i, ¬ Vx (nC 0) (tC 0) i := by
    intro i hi
    rcases hi with hi | ⟨h1, h2⟩
    · exact absurd hi (Nat.not_lt_zero _)
    · have : tC 0 = 0 := rfl
      omega
  refine ⟨Nat.zero_le _, Nat.zero_le _, Nat.zero_le _, Nat.zero_le _, trivial, rfl, rfl, rfl, rfl, fun i j hi => absurd hi (hv i), ?_, fun j hj => absurd hj (Nat.not_lt_zero _), fun q hq => absurd hq (Nat.not_lt_zero _), fun x h1 h2 => by omega, trivial⟩
  refine ⟨[], 0, Int.le_refl _, by unfold f0; exact hK.1, rfl, rfl, rfl, List.nodup_nil, by simp, fun b => ⟨fun ⟨i, hi, _⟩ => absurd hi (hv i), fun ⟨⟨k, h0, h1, _⟩, _⟩ => by omega⟩, rfl, Int.le_refl _⟩
structure Cl where
  d : Int
  X : Int
  Y : Int
def Cl.ok (x : Cl) : Prop := (0 ≤ x.d ∧ x.d ≤ 255) ∧ Go.Vc.i64P x.X ∧ Go.Vc.i64P x.Y
abbrev Cl.cells (x : Cl) : List Go.Value := [.int .u8 x.d, .int .i64 x.X, .int .i64 x.Y]
def stepC (K : Int) (s : Nat × Jn) (x : Cl) : Nat × Jn := stepJ K s.1 s.2 x.d x.X x.Y
/-- What a list of calls makes. -/
def plJ (K : Int) (l : List Cl) (i : Nat) : Nat × Jn := (l.take i).foldl (stepC K) (0, [])
theorem plJ_succ {K : Int} {l : List Cl} {i : Nat} {x : Cl} (h : l[i]? = some x) : plJ K l (i + 1) = stepC K (plJ K l i) x := by
  unfold plJ
  rw [List.take_add_one, h]
  simp
end Sim
namespace Go.Vc
/-- What is read at a place of several cells. -/
theorem RdSl.cells {α : Type} {encE : α → List Value} {q : Nat} {w0 : World} {sh : Shared} {l : List α} {a : Option Addr} {cap len : Nat} (h : RdSl w0 sh encE q (.slice a len cap) l) {i : Nat} {x : α} (hx : l[i]? = some x) :
    ∃ b off c T fr, a = some ⟨b, off, none⟩ ∧ (∀ hF Γ w, Sh sh hF → St w0 hF Γ w → w.heap[b]? = some (.cells c T fr)) ∧ ∀ o, o = off + i * q → rd true q c.toList o = some (.agg (List.toArray (encE x))) := by
  obtain ⟨a', cap', h1, _, h2⟩ := h
  cases h1
  have hne : l ≠ [] := by intro e; subst e; simp at hx
  obtain ⟨b, off, c, T, fr, e, hh, hc⟩ := h2.resolve_left hne
  exact ⟨b, off, c, T, fr, e, hh, rd_cells (hc i x hx).1 (fun k u hu => by rw [Nat.add_assoc]; exact (hc i x hx).2 k u hu)⟩
end Go.Vc
namespace Go.Proofs.Ytpcnbaddkblbhaa
open Go.Vc Sim
set_option maxHeartbeats 8000000
section
theorem played_spec (w0 : World) (sh : Shared) (nn : Int) (hn : 0 ≤ nn ∧ nn ≤ 255) (v : Value) (l : List Cl) (hv : RdSl w0 sh Cl.cells 3 v l) (hok : ∀ x ∈ l, x.ok) (hlen : l.length ≤ 1000000) :
    Vc.Fn PP w0 sh 11 [.int .u8 nn, v] []
      (fun v Γ => ∃ (st : Fs (nn % 39) (plJ (nn % 39) l l.length).1 (plJ (nn % 39) l l.length).2) (wb : Nat) (kn : List (Int × Wd)), v = .tuple #[stR wb (nn % 39) st.r (plJ (nn % 39) l l.length).1 (plJ (nn % 39) l l.length).2, .bool true] ∧ Γ = wdA wb kn :: rl3 st.r (plJ (nn % 39) l l.length).1 (plJ (nn % 39) l l.length).2 ∧ WM 368 l.length kn st.m) := by
  have hK : 0 ≤ nn % 39 ∧ nn % 39 ≤ 38 := by omega
  have hMd := made_spec w0 nn hn
  have hF := fresh_spec w0 368 (by decide)
  obtain ⟨a, cap, rfl, hcap, _⟩ := id hv
  generalize nn % 39 = K at hK hMd ⊢
  refine fn_of_run en11 fn11 rfl rfl rfl ?_
  repeat (first | refine zck ?_ | refine zcl ?_ | refine zcm ?_ | refine zcn ?_)
  first | refine zcp (by kernel_rfl) ?_ | refine zcq PP_mixed (by kernel_rfl) (by kernel_rfl) ?_
  repeat' (refine zap rfl ?_; first | ((with_reducible refine zcv ?_); refine zan rfl ?_) | ((with_reducible refine zdh ?_); refine zar (fun nb => ?_)))
  all_goals refine zch ?_
  all_goals repeat (first | refine zck ?_ | refine zcl ?_ | refine zcm ?_ | refine zcn ?_)
  revert nb; intro tb
  repeat (first | refine zck ?_ | refine zcl ?_ | refine zcm ?_ | refine zcn ?_)
  first | refine zcp (by kernel_rfl) ?_ | refine zcq PP_mixed (by kernel_rfl) (by kernel_rfl) ?_
  repeat' (refine zap rfl ?_; first | ((with_reducible refine zcu ?_); refine zan rfl ?_) | ((with_reducible refine zcx ?_); first | (refine zai [] hF rfl rfl rfl sub_nil ?_; rintro v Γ' ⟨wb, rfl, rfl⟩) | refine zah [] hMd rfl rfl rfl sub_nil rfl ?_) | ((with_reducible refine zdd ?_); refine zae 2 rfl rfl rfl rfl rfl rfl rfl ?_) | ((with_reducible refine zdh ?_); refine zar (fun nb => ?_)) | refine zcb rfl ?_)
  all_goals refine zch ?_
  all_goals repeat (first | refine zck ?_ | refine zcl ?_ | refine zcm ?_ | refine zcn ?_)
  revert nb; intro xb
  repeat (first | refine zck ?_ | refine zcl ?_ | refine zcm ?_ | refine zcn ?_)
  first | refine zcp (by kernel_rfl) ?_ | refine zcq PP_mixed (by kernel_rfl) (by kernel_rfl) ?_
  repeat' (refine zap rfl ?_; first | ((with_reducible refine zcu ?_); refine zan rfl ?_) | ((with_reducible refine zcx ?_); refine zce rfl ?_))
  all_goals refine zch ?_
  all_goals repeat (first | refine zck ?_ | refine zcl ?_ | refine zcm ?_ | refine zcn ?_)
  refine run_slots [(4, ptr tb), (6, ptr xb), (15, .slice a l.length cap), (16, .int .i64 l.length), (17, .int .i64 0)] ⟨rfl, rfl, rfl, rfl, rfl, trivial⟩ (fun junk => ?_)
  refine run_emp (A := LstA 3 (.slice none 0 0) []) ⟨none, 0, rfl, SlA_nil⟩ ?_
  refine run_emp (A := LstA 3 (.slice none 0 0) []) ⟨none, 0, rfl, SlA_nil⟩ ?_
  refine run_emp (A := LstA 3 (.slice none 0 0) []) ⟨none, 0, rfl, SlA_nil⟩ ?_
  refine run_loop (S := Nat × Rl × Nat × List (Int × Wd) × (Int → Int)) (fun st => [(4, ptr tb), (6, ptr xb), (15, .slice a l.length cap), (16, .int .i64 l.length), (17, .int .i64 (st.1 : Int))])
    (fun st Γ => Γ = wdA st.2.2.1 st.2.2.2.1 :: pt tb (.cells (List.toArray [.map none, .int .i64 0, .int .i64 0, .int .i64 0, .int .i64 0, .slice none 0 0, .slice none 0 0, .slice none 0 0]) 36 (0, 0)) :: stB xb st.2.2.1 K st.2.1 (plJ K l st.1).1 (plJ K l st.1).2 :: rl3 st.2.1 (plJ K l st.1).1 (plJ K l st.1).2 ∧ st.1 ≤ l.length ∧
      WM 368 st.1 st.2.2.2.1 st.2.2.2.2 ∧ ∃ ad, Mm K st.2.2.2.2 (plJ K l st.1).1 (nC (plJ K l st.1).1) (tC (plJ K l st.1).1) (plJ K l st.1).2 ad) (fun st => l.length - st.1) (0, ⟨none, 0, none, 0, none, 0⟩, wb, wk 0 (List.replicate 368 0), fun _ => 0) ⟨rfl, rfl, rfl, rfl, rfl, trivial⟩ ⟨rfl, Nat.zero_le _, fresh_WM 368 (by decide), _, Mm.zero K hK⟩ ?_
  rintro ⟨i, r, wb, kn, m⟩ Γ junk ⟨rfl, hi, hW, ad, hM⟩
  dsimp only at hi hW hM ⊢
  by_cases hlt : i < l.length
  · have hx : l[i]? = some l[i] := List.getElem?_eq_getElem hlt
    generalize l[i] = x at hx
    have hxo := hok x (List.mem_of_getElem? hx)
    have hS := fun sh => step_spec w0 sh wb hK r kn i (by omega) hW hM x.d x.X x.Y hxo.1 hxo.2.1.2 hxo.2.2.2 (plJ K l (i + 1)).1 (plJ K l (i + 1)).2 (plJ_succ hx).symm
    generalize hs0 : plJ K l i = s0 at hS hM
    generalize hs1 : plJ K l (i + 1) = s1 at hS
    obtain ⟨k, J⟩ := s0
    obtain ⟨k1, J1⟩ := s1
    obtain ⟨b, off, cc, TT, fr, rfl, hh, hcx⟩ := hv.cells hx
    repeat (first | refine zck ?_ | refine zcl ?_ | refine zcm ?_ | refine zcn ?_)
    first | refine zcp (by kernel_rfl) ?_ | refine zcq PP_mixed (by kernel_rfl) (by kernel_rfl) ?_
    repeat' (refine zap rfl ?_; first | ((with_reducible refine zda ?_); refine zbg rfl rfl (by omega) ?_))
    all_goals refine zch ?_
    all_goals repeat (first | refine zck ?_ | refine zcl ?_ | refine zcm ?_ | refine zcn ?_)
    refine zci rfl ?_
    repeat (first | refine zck ?_ | refine zcl ?_ | refine zcm ?_ | refine zcn ?_)
    first | refine zcp (by kernel_rfl) ?_ | refine zcq PP_mixed (by kernel_rfl) (by kernel_rfl) ?_
    repeat' (refine zap rfl ?_; first | refine zad rfl hh (hcx _ (by omega)) ?_ | refine zae 6 rfl rfl rfl rfl rfl rfl rfl ?_ | ((with_reducible refine zdf ?_); refine zas rfl rfl (by omega) ?_) | ((with_reducible refine zdh ?_); refine zar (fun nb => ?_)))
    all_goals refine zch ?_
    all_goals repeat (first | refine zck ?_ | refine zcl ?_ | refine zcm ?_ | refine zcn ?_)
    refine run_share [6] rfl ?_
    repeat (first | refine zck ?_ | refine zcl ?_ | refine zcm ?_ | refine zcn ?_)
    first | refine zcp (by kernel_rfl) ?_ | refine zcq PP_mixed (by kernel_rfl) (by kernel_rfl) ?_
    repeat' (refine zap rfl ?_; first | (refine zai [0, 2, 2, 2] (hS sh) rfl rfl rfl (fun _ h => .tail _ h) ?_; rintro v Γ' ⟨⟨m1, r1, ad1, hM1⟩, wb1, kn1, rfl, rfl, hW1⟩) | refine zae 6 rfl rfl rfl rfl rfl rfl rfl ?_ | ((with_reducible refine zcu ?_); refine zan rfl ?_) | ((with_reducible refine zcv ?_); refine zan rfl ?_) | ((with_reducible refine zcw ?_); first | refine zaa 0 rfl rfl rfl ?_ | refine zab 2 rfl rfl rfl ?_) | ((with_reducible refine zcz ?_); refine zan rfl ?_) | ((with_reducible refine zdh ?_); refine zar (fun nb => ?_)))
    all_goals refine zch ?_
    all_goals repeat (first | refine zck ?_ | refine zcl ?_ | refine zcm ?_ | refine zcn ?_)
    revert nb; intro nx
    refine run_share [6] rfl ?_
    have hI := is_spec w0 sh wb1 hK r1 kn1 (i + 1) (by omega) hW1 hM1
    repeat (first | refine zck ?_ | refine zcl ?_ | refine zcm ?_ | refine zcn ?_)
    first | refine zcp (by kernel_rfl) ?_ | refine zcq PP_mixed (by kernel_rfl) (by kernel_rfl) ?_
    repeat' (refine zap rfl ?_; first | (refine zai [0, 0, 0, 0] hI rfl rfl rfl (fun _ h => .tail _ (.tail _ h)) ?_; rintro v Γ' ⟨rfl, rfl⟩) | ((with_reducible refine zct ?_); refine zaj rfl ?_) | ((with_reducible refine zcu ?_); refine zan rfl ?_) | ((with_reducible refine zcw ?_); refine zaa 0 rfl rfl rfl ?_) | ((with_reducible refine zdb ?_); refine zbx rfl ?_) | ((with_reducible refine zdc ?_); refine zbv rfl ?_))
    all_goals refine zch ?_
    all_goals repeat (first | refine zck ?_ | refine zcl ?_ | refine zcm ?_ | refine zcn ?_)
    refine zcj rfl ?_
    repeat' (first | refine zcp (by kernel_rfl) ?_ | refine zcm ?_ | refine zcn ?_ | (refine zap rfl ?_; first | ((with_reducible refine zcu ?_); refine zan rfl ?_) | ((with_reducible refine zcw ?_); refine zaa 0 rfl rfl rfl ?_) | ((with_reducible refine zda ?_); refine zau rfl rfl (by omega) ?_) | ((with_reducible refine zdd ?_); refine zae 5 rfl rfl rfl rfl rfl rfl rfl ?_)) | refine zch ?_)
    refine run_take [0, 3, 3, 0, 0, 0] rfl ?_
    refine cut_end ⟨rfl, (i + 1, r1, wb1, kn1, m1), ⟨rfl, rfl, rfl, rfl, congrArg (Value.int .i64) (by dsimp only; omega), trivial⟩, ⟨?_, by dsimp only; omega, ?_, ad1, ?_⟩, by dsimp only; omega⟩
    · dsimp only
      rw [hs1]
    · exact (show ((i + 1 : Nat) : Int) = (i : Int) + 1 by omega) ▸ hW1
    · dsimp only
      rw [hs1]
      exact hM1
  · have hil : i = l.length := by omega
    repeat' (first | refine zck ?_ | refine zcp (by kernel_rfl) ?_ | (refine zap rfl ?_; first | ((with_reducible refine zda ?_); refine zbh rfl rfl (by omega) ?_)) | refine zch ?_ | refine zcj rfl ?_)
    refine cut_exit rfl rfl ?_
    repeat' (first | refine zck ?_ | refine zcp (by kernel_rfl) ?_ | (refine zap rfl ?_; first | ((with_reducible refine zcv ?_); refine zan rfl ?_) | ((with_reducible refine zcw ?_); refine zab 2 rfl rfl rfl ?_) | ((with_reducible refine zdd ?_); refine zae 1 rfl rfl rfl rfl rfl rfl rfl ?_)) | refine zch ?_)
    subst hil
    exact run_ret (leaves_nil (ends_take [0, 2, 2, 2] rfl (ends_two rfl (resOk_pt 1 rfl rfl rfl) rfl ⟨rfl, ⟨m, r, ad, hM⟩, wb, kn, rfl, rfl, hW⟩)))
end
end Go.Proofs.Ytpcnbaddkblbhaa

/- What every row of this seat shares. -/
namespace Go.Proofs.Ytpcnbaddkblbhaa
open Go.Vc Sim Go.ChangeShapes Go.WideShapes Go.RowKit
set_option maxRecDepth 100000
theorem cOwn : ownKnob Try.prog.godebug = none := by kernel_rfl
theorem cLaid : laidOutB Try.prog = true := by kernel_rfl
theorem calls_of {f : FuncId} {args : List Value} {W : World} (h : FnE PP W [] f args [] (.bool true) []) : Calls Try.prog f args.toArray W fun e W' => e = .returned (.bool true) ∧ Below W.heap.size W W' := by
  have := h.calls Heap.emp W (fun p hp => by cases hp) (st_start W)
  rw [PP_def] at this
  exact this.mono fun e W' ⟨v, Γ', he, ⟨hv, hΓ⟩, hst⟩ => ⟨by rw [he, hv], below_of_good hst.good⟩
theorem in_call {H : Type} {enc : TypeId × Value → H} {w : World} {base : Nat} {spare : Nat → Bool} {held : Bool} {n : Nat} {cs : List Value} {y : DataW H × List MemPlace}
    (h : DataW.trod enc Try.prog w base spare held n 66 cs = some y) : ∃ x : Cl, x.ok ∧ cs = x.cells := by
  obtain ⟨xs, n', _, _, hlen, hxl, hf⟩ := DataW.trod_struct Try.underlying66 h
  have c5 : Try.prog.cellsOf 5 = 1 := by kernel_rfl
  have c2 : Try.prog.cellsOf 2 = 1 := by kernel_rfl
  have c48 : Try.prog.cellsOf 66 = 3 := by kernel_rfl
  rw [c48] at hlen
  have f0 : DataW.trod enc Try.prog w base spare held n' 5 ((cs.drop 0).take (Try.prog.cellsOf 5)) = xs[0]? := hf 0 _ rfl
  have f1 : DataW.trod enc Try.prog w base spare held n' 2 ((cs.drop 1).take (Try.prog.cellsOf 2)) = xs[1]? := hf 1 _ rfl
  have f2 : DataW.trod enc Try.prog w base spare held n' 2 ((cs.drop 2).take (Try.prog.cellsOf 2)) = xs[2]? := hf 2 _ rfl
  rw [c5] at f0
  rw [c2] at f1 f2
  match cs, hlen with
  | [a0, a1, a2], _ =>
    match xs, hxl with
    | [y0, y1, y2], _ =>
      obtain ⟨k0, e0, _, w0⟩ := DataW.trod_int Try.underlying5 (show DataW.trod _ _ _ _ _ _ n' _ [a0] = some y0 from f0)
      obtain ⟨k1, e1, _, w1⟩ := DataW.trod_int Try.underlying2 (show DataW.trod _ _ _ _ _ _ n' _ [a1] = some y1 from f1)
      obtain ⟨k2, e2, _, w2⟩ := DataW.trod_int Try.underlying2 (show DataW.trod _ _ _ _ _ _ n' _ [a2] = some y2 from f2)
      simp only [List.cons.injEq, and_true] at e0 e1 e2
      subst e0; subst e1; subst e2
      exact ⟨⟨k0, k1, k2⟩, ⟨wf_u8 w0, wf_i64 w1, wf_i64 w2⟩, rfl⟩
theorem in_call1 {H : Type} {enc : TypeId × Value → H} {w : World} {base : Nat} {spare : Nat → Bool} {held : Bool} {r : Reach} {b0 : Nat} {v : Value} {d : DataW H} {ps : List MemPlace}
    (hval : Value.okWide Try.prog w r b0 66 v) (h : DataW.Trod enc Try.prog w base spare held 66 v d ps) : ∃ x : Cl, v = .agg (List.toArray x.cells) ∧ x.ok := by
  obtain ⟨fuel, hf⟩ := h
  simp only [Value.okWide, Try.underlying66] at hval
  obtain ⟨cs, rfl, _⟩ := hval
  obtain ⟨x, hx, hc⟩ := in_call hf
  refine ⟨x, ?_, hx⟩
  have : cs.toList = x.cells := hc
  rw [← this]
theorem in_calls {H : Type} {enc : TypeId × Value → H} {w : World} {base : Nat} {spare : Nat → Bool} {held : Bool} {r : Reach} {b0 : Nat} {v : Value} {d : DataW H} {ps : List MemPlace}
    (hval : Value.okWide Try.prog w r b0 22 v) (h : DataW.Trod enc Try.prog w base spare held 22 v d ps) : ∃ l, InSl w Cl.cells 3 v l ∧ ∀ x ∈ l, x.ok :=
  in_slice Cl.cells Cl.ok Try.underlying22 (by kernel_rfl) (by decide) hval (fun n cs y hy => in_call hy) h
end Go.Proofs.Ytpcnbaddkblbhaa

/- Programs over a space: what they read alone decides; paths that write nothing. -/
namespace Sim
open Go Go.Vc
namespace Pg
variable {α β : Type}
theorem ins_mem {l : List Int} {x a : Int} (h : a ∈ l) : a ∈ insI l x := by
  induction l with
  | nil => cases h
  | cons b l ih =>
    simp only [insI]
    split
    · exact h
    · rcases List.mem_cons.1 h with rfl | h
      · exact .head _
      · exact .tail _ (ih h)
theorem ins_self (l : List Int) (x : Int) : x ∈ insI l x := by
  induction l with
  | nil => exact .head _
  | cons b l ih =>
    simp only [insI]
    split
    · rename_i h; rw [h]; exact .head _
    · exact .tail _ ih
theorem reads_rd (s : Sp) (x : Int) : ∀ a ∈ s.rd, a ∈ (s.reads x).2.rd := by
  intro a ha
  unfold Sp.reads
  split
  · exact ha
  · split
    · exact ha
    · exact ins_mem ha
theorem reads_ended (s : Sp) (x : Int) (h : s.ended = true) : (s.reads x).2.ended = true := by
  unfold Sp.reads; rw [if_pos h]; exact h
theorem get_snd (s : Sp) (x : Int) : (s.get x).2 = (s.reads x).2 := by unfold Sp.get; split <;> rfl
theorem put_rd (s : Sp) (x v : Int) : (s.put x v).rd = (s.reads x).2.rd := by unfold Sp.put; split <;> rfl
theorem put_ended (s : Sp) (x v : Int) : (s.put x v).ended = (s.reads x).2.ended := by unfold Sp.put; split <;> rfl
theorem back_rd (s : Sp) (m : Int) : (s.back m).rd = s.rd := by unfold Sp.back; split <;> rfl
theorem back_ended (s : Sp) (m : Int) : (s.back m).ended = s.ended := by unfold Sp.back; split <;> rfl
theorem run_rd : ∀ (g : Pg α) (s : Sp), ∀ a ∈ s.rd, a ∈ (run g s).2.rd
  | ret _, _, _, h => h
  | get x k, s, a, h => run_rd (k (s.get x).1) (s.get x).2 a (by rw [get_snd]; exact reads_rd s x a h)
  | put x v k, s, a, h => run_rd k (s.put x v) a (by rw [put_rd]; exact reads_rd s x a h)
  | mark k, s, a, h => run_rd (k s.puts.length) s a h
  | back m k, s, a, h => run_rd k (s.back m) a (by rw [back_rd]; exact h)
theorem run_ended : ∀ (g : Pg α) (s : Sp), s.ended = true → (run g s).2.ended = true
  | ret _, _, h => h
  | get x k, s, h => run_ended (k (s.get x).1) (s.get x).2 (by rw [get_snd]; exact reads_ended s x h)
  | put x v k, s, h => run_ended k (s.put x v) (by rw [put_ended]; exact reads_ended s x h)
  | mark k, s, h => run_ended (k s.puts.length) s h
  | back m k, s, h => run_ended k (s.back m) (by rw [back_ended]; exact h)
/-- Two spaces that are alike but for words out of `R`. -/
structure Twin (R : List Int) (s t : Sp) : Prop where
  puts : t.puts = s.puts
  rd : t.rd = s.rd
  e1 : s.ended = false
  e2 : t.ended = false
  kn : ∀ a ∈ R, lookW t.kn a = lookW s.kn a
theorem Twin.reads {R : List Int} {s t : Sp} (h : Twin R s t) {x : Int} (hx : x ∈ R) (he : (s.reads x).2.ended = false) : (t.reads x).1 = (s.reads x).1 ∧ Twin R (s.reads x).2 (t.reads x).2 := by
  have e1 := h.e1
  have e2 := h.e2
  have hk := h.kn x hx
  unfold Sp.reads at he ⊢
  have n1 : ¬ s.ended = true := by rw [e1]; decide
  have n2 : ¬ t.ended = true := by rw [e2]; decide
  rw [if_neg n1] at he
  rw [if_neg n1, if_neg n2, hk]
  cases hl : lookW s.kn x with
  | none => rw [hl] at he; cases he
  | some w => exact ⟨rfl, h.puts, by dsimp only; rw [h.rd], e1, e2, h.kn⟩
theorem Twin.value {R : List Int} {s t : Sp} (h : Twin R s t) {x : Int} (hx : x ∈ R) : t.value x = s.value x := by
  unfold Sp.value
  rw [h.puts, h.kn x hx]
theorem Twin.get {R : List Int} {s t : Sp} (h : Twin R s t) {x : Int} (hx : x ∈ R) (he : (s.get x).2.ended = false) : (t.get x).1 = (s.get x).1 ∧ Twin R (s.get x).2 (t.get x).2 := by
  rw [get_snd] at he
  obtain ⟨h1, h2⟩ := h.reads hx he
  refine ⟨?_, by rw [get_snd, get_snd]; exact h2⟩
  unfold Sp.get
  rw [h1]
  split
  · show ((t.reads x).2.value x).1 = ((s.reads x).2.value x).1
    rw [h2.value hx]
  · rfl
theorem Twin.put {R : List Int} {s t : Sp} (h : Twin R s t) {x v : Int} (hx : x ∈ R) (he : (s.put x v).ended = false) : Twin R (s.put x v) (t.put x v) := by
  rw [put_ended] at he
  obtain ⟨h1, h2⟩ := h.reads hx he
  unfold Sp.put
  rw [h1]
  split
  · exact ⟨by dsimp only; rw [h.puts], h2.rd, h2.e1, h2.e2, h2.kn⟩
  · exact h2
theorem Twin.back {R : List Int} {s t : Sp} (h : Twin R s t) (m : Int) : Twin R (s.back m) (t.back m) := by
  unfold Sp.back
  rw [h.puts, h.e1, h.e2]
  split
  · exact ⟨rfl, h.rd, rfl, rfl, h.kn⟩
  · exact h
theorem reads_in {s : Sp} {x : Int} (he : (s.reads x).2.ended = false) : x ∈ (s.reads x).2.rd := by
  unfold Sp.reads at he ⊢
  split at he
  · rename_i h; rw [if_pos h]; dsimp only at he; rw [h] at he; cases he
  · rename_i h
    rw [if_neg h]
    split at he
    · cases he
    · exact ins_self _ _
/-- What a program does depends on the words that it reads. -/
theorem run_twin {R : List Int} : ∀ (g : Pg α) {s t : Sp}, Twin R s t → (run g s).2.ended = false → (∀ a ∈ (run g s).2.rd, a ∈ R) → (run g t).1 = (run g s).1 ∧ Twin R (run g s).2 (run g t).2
  | ret _, _, _, h, _, _ => ⟨rfl, h⟩
  | get x k, s, t, h, he, hr => by
    have e1 : (s.get x).2.ended = false := by
      cases hh : (s.get x).2.ended with
      | false => rfl
      | true => have := run_ended (k (s.get x).1) (s.get x).2 hh; rw [show (run (get x k) s) = run (k (s.get x).1) (s.get x).2 from rfl, this] at he; cases he
    have hx : x ∈ R := hr x (run_rd (k (s.get x).1) (s.get x).2 x (by rw [get_snd] at e1 ⊢; exact reads_in e1))
    obtain ⟨g1, g2⟩ := h.get hx e1
    have := run_twin (k (s.get x).1) g2 he hr
    show (run (k (t.get x).1) (t.get x).2).1 = _ ∧ Twin R _ (run (k (t.get x).1) (t.get x).2).2
    rw [g1]
    exact this
  | put x v k, s, t, h, he, hr => by
    have e1 : (s.put x v).ended = false := by
      cases hh : (s.put x v).ended with
      | false => rfl
      | true => have := run_ended k (s.put x v) hh; rw [show (run (put x v k) s) = run k (s.put x v) from rfl, this] at he; cases he
    have hx : x ∈ R := hr x (run_rd k (s.put x v) x (by rw [put_ended] at e1; rw [put_rd]; exact reads_in e1))
    exact run_twin k (h.put hx e1) he hr
  | mark k, s, t, h, he, hr => by
    have := run_twin (k s.puts.length) h he hr
    show (run (k t.puts.length) t).1 = _ ∧ Twin R _ (run (k t.puts.length) t).2
    rw [h.puts]
    exact this
  | back m k, s, t, h, he, hr => run_twin k (h.back m) he hr
/-- A path that ends so writes nothing. -/
def Qt (φ : α → Prop) : Pg α → Prop
  | ret _ => True
  | get _ k => ∀ v, Qt φ (k v)
  | put _ _ k => All (fun r => ¬ φ r) k
  | mark k => ∀ m, Qt φ (k m)
  | back _ k => Qt φ k
theorem run_qt {φ : α → Prop} : ∀ (g : Pg α) (s : Sp), Qt φ g → s.puts = [] → φ (run g s).1 → (run g s).2.puts = []
  | ret _, _, _, h, _ => h
  | get x k, s, hq, h, hp => run_qt (k (s.get x).1) (s.get x).2 (hq _) ((get_puts s x).trans h) hp
  | put x v k, s, hq, h, hp => absurd hp (all_run (g := k) (s := s.put x v) hq)
  | mark k, s, hq, h, hp => run_qt (k s.puts.length) s (hq _) h hp
  | back m k, s, hq, h, hp => run_qt k (s.back m) hq (List.length_eq_zero_iff.1 (Nat.le_zero.1 (by have := back_len s m; rw [h] at this; exact this))) hp
theorem qt_bind {φ : β → Prop} {f : α → Pg β} (hf : ∀ a, Qt φ (f a)) : ∀ {g : Pg α}, Bd 0 g → Qt φ (g >>= f)
  | ret a, _ => hf a
  | get x k, h => fun v => qt_bind hf (g := k v) (by simp only [Bd] at h; exact h v)
  | put _ _ _, h => by simp [Bd] at h
  | mark k, h => fun v => qt_bind hf (g := k v) (by simp only [Bd] at h; exact h v)
  | back _ k, h => qt_bind hf (g := k) (by simp only [Bd] at h; exact h)
theorem qt_all {φ : α → Prop} : ∀ {g : Pg α}, All (fun r => ¬ φ r) g → Qt φ g
  | ret _, _ => trivial
  | get _ k, h => fun v => qt_all (g := k v) (h v)
  | put _ _ _, h => h
  | mark k, h => fun v => qt_all (g := k v) (h v)
  | back _ k, h => qt_all (g := k) h
theorem all_leaf {φ : β → Prop} {f : α → Pg β} (hf : ∀ a, All φ (f a)) : ∀ (g : Pg α), All φ (g >>= f)
  | ret a => hf a
  | get _ k => fun v => all_leaf hf (k v)
  | put _ _ k => all_leaf hf k
  | mark k => fun v => all_leaf hf (k v)
  | back _ k => all_leaf hf k
theorem qt_bd {φ : α → Prop} : ∀ {g : Pg α}, Bd 0 g → Qt φ g
  | ret _, _ => trivial
  | get _ k, h => fun v => qt_bd (g := k v) (by simp only [Bd] at h; exact h v)
  | put _ _ _, h => by simp [Bd] at h
  | mark k, h => fun v => qt_bd (g := k v) (by simp only [Bd] at h; exact h v)
  | back _ k, h => qt_bd (g := k) (by simp only [Bd] at h; exact h)
theorem qt_ite {φ : α → Prop} {c : Prop} [Decidable c] {x y : Pg α} (hx : Qt φ x) (hy : Qt φ y) : Qt φ (if c then x else y) := by split <;> assumption
end Pg
namespace Fo
open Pg
variable (F : Fo)
theorem qt_join (x y : Int) : Qt (fun r => r.1 = false) (F.join x y) := by
  unfold join
  repeat' first | exact qt_bd (bd_pure _) | with_reducible refine qt_ite ?_ ?_ | with_reducible refine qt_bind (g := Pg.gt _) (fun _ => ?_) (bd_gt0 _) | with_reducible refine qt_bind (g := F.place _) (fun _ => ?_) (F.bd_place _)
  all_goals refine qt_all (all_leaf (fun _ => ?_) _)
  all_goals exact (by decide : ¬ (true = false))
theorem qt_union (x y : Int) : Qt (fun r => r.1 = false) (F.union x y) := by
  unfold union
  repeat' first | exact qt_bd (bd_pure _) | with_reducible refine qt_ite ?_ ?_ | with_reducible refine qt_bind (g := F.both _ _) (fun _ => ?_) (F.bd_both _ _) | exact F.qt_join _ _
theorem qt_undo : Qt (fun r => r.1 = false) F.undo := by
  unfold undo
  repeat' first | exact qt_bd (bd_pure _) | with_reducible refine qt_ite ?_ ?_ | with_reducible refine qt_bind (g := Pg.gt _) (fun _ => ?_) (bd_gt0 _) | with_reducible refine qt_bind (g := F.place _) (fun _ => ?_) (F.bd_place _) | with_reducible refine qt_bind (g := F.many) (fun _ => ?_) F.bd_many
  refine qt_all ?_
  repeat' refine all_leaf (fun _ => ?_) _
  exact (by decide : ¬ (true = false))
end Fo
end Sim

/- The law's awake. -/
namespace Go.Vc
theorem sub_swap2 {a b : Nat × Obj} {sh : Shared} : ∀ p ∈ [a, b], p ∈ b :: a :: sh := fun p hp => by
  simp only [List.mem_cons, List.not_mem_nil, or_false] at hp ⊢
  rcases hp with h | h
  · exact .inr (.inl h)
  · exact .inl h
theorem flat_at {α : Type} {encE : α → List Value} {q : Nat} : ∀ (l : List α), (∀ x ∈ l, (encE x).length = q) → ∀ (i : Nat) (x : α), l[i]? = some x → ∀ k u, (encE x)[k]? = some u → (l.flatMap encE)[i * q + k]? = some u
  | [], _, i, x, hx, _, _, _ => by simp at hx
  | y :: l, hq, i, x, hx, k, u, hu => by
    have hy := hq y (by simp)
    have hk := (List.getElem?_eq_some_iff.1 hu).1
    rw [List.flatMap_cons]
    cases i with
    | zero =>
      simp only [List.getElem?_cons_zero, Option.some.injEq] at hx
      subst hx
      rw [List.getElem?_append_left (by omega), show 0 * q + k = k by omega]
      exact hu
    | succ i =>
      rw [List.getElem?_cons_succ] at hx
      have e : (i + 1) * q + k = q + (i * q + k) := by rw [Nat.succ_mul]; omega
      rw [List.getElem?_append_right (by omega), e, hy, Nat.add_sub_cancel_left]
      exact flat_at l (fun z hz => hq z (by simp [hz])) i x hx k u hu
/-- A block that was made of elements. -/
theorem RdSl.flat {α : Type} {encE : α → List Value} {q b : Nat} {w0 : World} {sh : Shared} {l : List α} {T : TypeId} {fr : Nat × Nat} (hq : ∀ x ∈ l, (encE x).length = q) (hm : (b, Obj.cells (List.toArray (l.flatMap encE)) T fr) ∈ sh) :
    RdSl w0 sh encE q (.slice (some ⟨b, 0, none⟩) l.length l.length) l := by
  refine ⟨_, _, rfl, Nat.le_refl _, .inr ⟨b, 0, _, T, fr, rfl, fun hF Γ w hsh hst => (hst.frame (hsh _ hm)).2, fun i x hx => ⟨hq x (List.mem_of_getElem? hx), fun k u hu => ?_⟩⟩⟩
  rw [List.getElem?_toArray, Nat.zero_add]
  exact flat_at l hq i x hx k u hu
/-- A contract whose resources, but one, are packed. -/
theorem Fn.packed {P : Program} {w0 : World} {sh : Shared} {f : FuncId} {args : List Value} {A : Asn} {L : List Asn} {R R' : Value → List Asn → Prop} (h : Fn P w0 sh f args (A :: L) R) (hR : ∀ v Γ, R v Γ → ∃ B L', Γ = B :: L' ∧ R' v [B, StarsA L']) :
    Fn P w0 sh f args [A, StarsA L] R' :=
  ⟨h.enters, fun hF w hsh ⟨g, ⟨g1, g2, d1, d2, d3, d4⟩, h2, h3⟩ => (h.calls hF w hsh ⟨g, ⟨g1, g2, d1, d2, d3, Stars.one.1 d4⟩, h2, h3⟩).mono fun e w' ⟨v, Γ', e1, e2, e3⟩ => by
    obtain ⟨B, L', rfl, e4⟩ := hR v Γ' e2
    obtain ⟨g, ⟨g1, g2, d1, d2, d3, d4⟩, g3, g4⟩ := e3
    exact ⟨v, _, e1, e4, g, ⟨g1, g2, d1, d2, d3, Stars.one.2 d4⟩, g3, g4⟩⟩
/-- A contract over a block that may be read, for a block that is owned. -/
theorem Fn.owned {P : Program} {w0 : World} {sh : Shared} {f : FuncId} {args : List Value} {Γ : List Asn} {R : Value → List Asn → Prop} {b : Nat} {o : Obj} (h : Fn P w0 ((b, o) :: sh) f args Γ R) :
    Fn P w0 sh f args (pt b o :: Γ) fun r Γ' => ∃ Γ'', R r Γ'' ∧ Γ' = Γ'' ++ [pt b o] := by
  refine ⟨h.enters, fun hF w hsh hst => ?_⟩
  have h1 : St w0 hF (Γ ++ [pt b o]) w := hst.perm (List.perm_append_comm (l₁ := [_]))
  obtain ⟨g, hg, hdj, hst2⟩ := h1.split
  have hg1 : pt b o g := Stars.one.1 hg
  simp only [pt] at hg1
  subst hg1
  have hsub : ∀ c oc, hF c = some oc → ((Heap.one b o).or hF) c = some oc := fun c oc hc => by
    rcases hdj c with e | e
    · simp [Heap.or, e, hc]
    · rw [e] at hc; cases hc
  refine (h.calls _ w (fun p hp => ?_) hst2).mono ?_
  · rcases List.mem_cons.1 hp with rfl | hp
    · simp [Heap.or, Heap.one]
    · exact hsub _ _ (hsh p hp)
  · rintro e w' ⟨r, Γ', he, h4, h5⟩
    exact ⟨r, _, he, ⟨Γ', h4, rfl⟩, h5.join hg hdj⟩
end Go.Vc
namespace Sim
open Go Go.Vc
def ex5 : List Cl := [⟨0, 0, 0⟩, ⟨0, 0, 0⟩, ⟨0, 0, 0⟩, ⟨2, 2, 3⟩, ⟨2, 1, 3⟩]
def ex6 : List Cl := ex5 ++ [⟨4, 0, 0⟩]
theorem ex5_ok : ∀ x ∈ ex5, x.ok := by
  intro x hx
  simp only [ex5, List.mem_cons, List.not_mem_nil, or_false] at hx
  rcases hx with rfl | rfl | rfl | rfl | rfl <;> exact ⟨by decide, ⟨by decide, by decide⟩, ⟨by decide, by decide⟩⟩
theorem ex6_ok : ∀ x ∈ ex6, x.ok := by
  intro x hx
  simp only [ex6, List.mem_append, List.mem_singleton] at hx
  rcases hx with hx | rfl
  · exact ex5_ok x hx
  · exact ⟨by decide, ⟨by decide, by decide⟩, ⟨by decide, by decide⟩⟩
theorem ex5_pl : plJ 9 ex5 5 = (3, [(1, 2), (3, 2)]) := by decide
theorem ex6_pl : plJ 9 ex6 6 = (3, [(3, 2)]) := by decide
end Sim
namespace Go.Proofs.Ytpcnbaddkblbhaa
open Go.Vc Sim
set_option maxHeartbeats 8000000
abbrev i8B (b : Nat) (x : Int) : Asn := pt b (.cells (List.toArray [.int .i64 x]) 2 (0, 0))
section
variable {K : Int} {m : Int → Int} {k : Nat} {J : Jn} {ad : Nat → Int}
theorem awake1 (w0 : World) (sh : Shared) (p xb rb nb wb : Nat) (hK : 0 ≤ K ∧ K ≤ 38) (r : Rl) (s : Sp) (hC : Cu 368 s s m 0) (h : Mm K m k (nC k) (tC k) J ad) (hk : 3 ≤ k) (hxb : (xb, .cells (List.toArray (stC wb K r k J)) 36 (0, 0)) ∈ sh) :
    Vc.Fn PP w0 sh 38 [spP p, ptr xb, ptr rb, ptr nb] [SpaceA p s, i8B rb 0, i8B nb 0]
      (fun v Γ => ∃ (s' : Sp), v = .tuple #[] ∧ Γ = [SpaceA p s', i8B rb (rep J 3), i8B nb (sz J (rep J 1))] ∧ Cu 368 s s' m 0) := by
  have hmx : ∀ hF Γ w, Sh sh hF → St w0 hF Γ w → w.heap[xb]? = some (.cells (List.toArray (stC wb K r k J)) 36 (0, 0)) := fun hF Γ w h1 h2 => (h2.frame (h1 _ hxb)).2
  refine fn_of_run en38 fn38 rfl rfl rfl ?_
  repeat' (first | refine zck ?_ | refine zcp (by kernel_rfl) ?_ | (refine zap rfl ?_; first | refine zad rfl hmx rfl ?_ | ((with_reducible refine zcu ?_); refine zan rfl ?_) | ((with_reducible refine zcx ?_); first | (refine reg_callO [0] hC ((f0 K).bd_find 3) (find_ok hK h (by decide) (by omega)) (by omega) (foFind w0 p (f0 K) (f0_ok hK) 3 (by decide)) rfl rfl rfl sub_nil ?_; rintro x s1 m1 ⟨rfl, em⟩ hC; rw [em] at hC) | (refine reg_callO [0] hC ((f0 K).bd_sizeOf 1) (size_ok hK h (by decide) (by omega)) (by omega) (foSize w0 p (f0 K) (f0_ok hK) 1 (by decide)) rfl rfl rfl sub_nil ?_; rintro x s2 m2 ⟨rfl, em2⟩ hC; rw [em2] at hC)) | ((with_reducible refine zcy ?_); refine zao rfl ?_) | ((with_reducible refine zcz ?_); refine zan rfl ?_) | ((with_reducible refine zdd ?_); first | refine zae 1 rfl rfl rfl rfl rfl rfl rfl ?_ | refine zae 2 rfl rfl rfl rfl rfl rfl rfl ?_)) | refine zch ?_)
  exact run_nil (leaves_nil (ends_none rfl ⟨_, rfl, rfl, hC⟩))
theorem awake2 (w0 : World) (sh : Shared) (p xb rb wb : Nat) (hK : 0 ≤ K ∧ K ≤ 38) (r : Rl) (s : Sp) (hC : Cu 368 s s m 0) (h : Mm K m k (nC k) (tC k) J ad) (hk : 3 ≤ k) (hxb : (xb, .cells (List.toArray (stC wb K r k J)) 36 (0, 0)) ∈ sh) :
    Vc.Fn PP w0 sh 39 [spP p, ptr xb, ptr rb] [SpaceA p s, i8B rb 0]
      (fun v Γ => ∃ (s' : Sp), v = .tuple #[] ∧ Γ = [SpaceA p s', i8B rb (rep J 1)] ∧ Cu 368 s s' m 0) := by
  have hmx : ∀ hF Γ w, Sh sh hF → St w0 hF Γ w → w.heap[xb]? = some (.cells (List.toArray (stC wb K r k J)) 36 (0, 0)) := fun hF Γ w h1 h2 => (h2.frame (h1 _ hxb)).2
  refine fn_of_run en39 fn39 rfl rfl rfl ?_
  repeat' (first | refine zcp (by kernel_rfl) ?_ | (refine zap rfl ?_; first | refine zad rfl hmx rfl ?_ | ((with_reducible refine zcu ?_); refine zan rfl ?_) | ((with_reducible refine zcx ?_); (refine reg_callO [0] hC ((f0 K).bd_find 1) (find_ok hK h (by decide) (by omega)) (by omega) (foFind w0 p (f0 K) (f0_ok hK) 1 (by decide)) rfl rfl rfl sub_nil ?_; rintro x s1 m1 ⟨rfl, em⟩ hC; rw [em] at hC)) | ((with_reducible refine zcy ?_); refine zao rfl ?_) | ((with_reducible refine zcz ?_); refine zan rfl ?_) | ((with_reducible refine zdd ?_); refine zae 1 rfl rfl rfl rfl rfl rfl rfl ?_)) | refine zch ?_)
  exact run_nil (leaves_nil (ends_none rfl ⟨_, rfl, rfl, hC⟩))
end
theorem played_at (w0 : World) (sh : Shared) (nn : Int) (hn : 0 ≤ nn ∧ nn ≤ 255) (v : Value) (l : List Cl) (hv : RdSl w0 sh Cl.cells 3 v l) (hok : ∀ x ∈ l, x.ok) (hlen : l.length ≤ 1000000) (K : Int) (hK : nn % 39 = K) (k : Nat) (J : Jn) (hJ : plJ K l l.length = (k, J)) :
    Vc.Fn PP w0 sh 11 [.int .u8 nn, v] []
      (fun v Γ => ∃ (st : Fs K k J) (wb : Nat) (kn : List (Int × Wd)), v = .tuple #[stR wb K st.r k J, .bool true] ∧ Γ = wdA wb kn :: rl3 st.r k J ∧ WM 368 l.length kn st.m) := by
  subst hK
  have := played_spec w0 sh nn hn v l hv hok hlen
  rw [hJ] at this
  exact this
abbrev exB (b : Nat) (l : List Cl) : Asn := pt b (.cells (List.toArray (l.flatMap Cl.cells)) 66 (0, 0))
theorem played_ex (w0 : World) (b : Nat) (l : List Cl) (hok : ∀ x ∈ l, x.ok) (hlen : l.length ≤ 1000000) (k : Nat) (J : Jn) (hJ : plJ 9 l l.length = (k, J)) :
    Vc.Fn PP w0 [] 11 [.int .u8 9, .slice (some ⟨b, 0, none⟩) l.length l.length] [exB b l]
      (fun v Γ => ∃ (st : Fs 9 k J) (wb : Nat) (kn : List (Int × Wd)), v = .tuple #[stR wb 9 st.r k J, .bool true] ∧ Γ = wdA wb kn :: rl3 st.r k J ++ [exB b l] ∧ WM 368 l.length kn st.m) := by
  refine ((played_at w0 _ 9 (by decide) _ l (RdSl.flat (fun _ _ => rfl) (.head _)) hok hlen 9 rfl k J hJ).owned).mono ?_
  rintro v Γ ⟨Γ', ⟨st, wb, kn, h1, rfl, h2⟩, rfl⟩
  exact ⟨st, wb, kn, h1, rfl, h2⟩
theorem awake_spec (w0 : World) : FnE PP w0 [] 10 [] [] (.bool true) [] := by
  refine fn_of_run en10 fn10 rfl rfl rfl ?_
  repeat (first | refine zck ?_ | refine zcl ?_ | refine zcm ?_ | refine zcn ?_)
  first | refine zcp (by kernel_rfl) ?_ | refine zcq PP_mixed (by kernel_rfl) (by kernel_rfl) ?_
  repeat' (refine zap rfl ?_; first | ((with_reducible refine zcv ?_); refine zan rfl ?_))
  all_goals refine zch ?_
  all_goals repeat (first | refine zck ?_ | refine zcl ?_ | refine zcm ?_ | refine zcn ?_)
  repeat (first | refine zck ?_ | refine zcl ?_ | refine zcm ?_ | refine zcn ?_)
  first | refine zcp (by kernel_rfl) ?_ | refine zcq PP_mixed (by kernel_rfl) (by kernel_rfl) ?_
  repeat' (refine zap rfl ?_; first | refine zcb rfl ?_ | refine reg_buildSlice rfl rfl rfl rfl rfl rfl (fun nb => ?_) | (refine zai [0] (played_ex w0 _ ex5 ex5_ok (by decide) 3 _ ex5_pl) rfl rfl rfl sub_nil ?_; rintro v Γ' ⟨⟨m, r, ad, hM⟩, wb, kn, rfl, rfl, hW⟩) | ((with_reducible refine zcu ?_); refine zan rfl ?_) | ((with_reducible refine zcv ?_); refine zan rfl ?_) | ((with_reducible refine zcz ?_); refine zan rfl ?_) | ((with_reducible refine zdd ?_); refine zae 5 rfl rfl rfl rfl rfl rfl rfl ?_) | ((with_reducible refine zdh ?_); refine zar (fun nb => ?_)))
  all_goals refine zch ?_
  all_goals repeat (first | refine zck ?_ | refine zcl ?_ | refine zcm ?_ | refine zcn ?_)
  revert nb; intro xb
  refine run_share [0] rfl ?_
  refine run_share [4] rfl ?_
  refine run_take [] rfl ?_
  repeat (first | refine zck ?_ | refine zcl ?_ | refine zcm ?_ | refine zcn ?_)
  first | refine zcp (by kernel_rfl) ?_ | refine zcq PP_mixed (by kernel_rfl) (by kernel_rfl) ?_
  repeat' (refine zap rfl ?_; first | ((with_reducible refine zcu ?_); refine zan rfl ?_) | ((with_reducible refine zdb ?_); refine zbx rfl ?_))
  all_goals refine zch ?_
  all_goals repeat (first | refine zck ?_ | refine zcl ?_ | refine zcm ?_ | refine zcn ?_)
  refine zcj rfl ?_
  repeat (first | refine zck ?_ | refine zcl ?_ | refine zcm ?_ | refine zcn ?_ | refine zco ?_)
  repeat (first | refine zck ?_ | refine zcl ?_ | refine zcm ?_ | refine zcn ?_)
  first | refine zcp (by kernel_rfl) ?_ | refine zcq PP_mixed (by kernel_rfl) (by kernel_rfl) ?_
  repeat' (refine zap rfl ?_; first | ((with_reducible refine zdh ?_); refine zar (fun nb => ?_)))
  all_goals refine zch ?_
  all_goals repeat (first | refine zck ?_ | refine zcl ?_ | refine zcm ?_ | refine zcn ?_)
  rename_i rb
  revert nb; intro nb
  have hD := (done_mem (σ := Unit) w0 [(xb, .cells (List.toArray (stC wb 9 r 3 [(1, 2), (3, 2)])) 36 (0, 0))] wb kn 368 5 m (by decide) hW 38 (List.toArray [ptr xb, ptr rb, ptr nb]) (StarsA [i8B rb 0, i8B nb 0]) (fun _ => StarsA [i8B rb 2, i8B nb 3]) (fun _ => m)
    (fun p s hC _ => (awake1 w0 _ p xb rb nb wb (by decide) r s hC hM (by decide) (.head _)).packed (fun v Γ ⟨s', e1, e2, e3⟩ => ⟨_, _, e2, (), s', 0, e1, rfl, by decide, e3⟩))).unpack
    (R' := fun v Γ => ∃ (b : Nat) (a : Option Addr) (len c : Nat) (kn2 : List (Int × Wd)), v = .tuple #[.map (some b), .slice a len c, .bool true] ∧ Γ = [wdA b kn2, i8B rb 2, i8B nb 3])
    (fun v Γ ⟨_, b, a, len, c, kn2, e1, e2, e3⟩ => ⟨_, _, e2, b, a, len, c, kn2, e1, rfl⟩)
  repeat (first | refine zck ?_ | refine zcl ?_ | refine zcm ?_ | refine zcn ?_)
  first | refine zcp (by kernel_rfl) ?_ | refine zcq PP_mixed (by kernel_rfl) (by kernel_rfl) ?_
  repeat' (refine zap rfl ?_; first | (refine zai [0, 0] hD rfl rfl rfl sub_swap ?_; rintro v Γ' ⟨b2, wa, wl, wc, kn2, rfl, rfl⟩) | ((with_reducible refine zcw ?_); refine zaa 0 rfl rfl rfl ?_) | ((with_reducible refine zcy ?_); refine zao rfl ?_) | refine zan rfl ?_)
  all_goals refine zch ?_
  all_goals repeat (first | refine zck ?_ | refine zcl ?_ | refine zcm ?_ | refine zcn ?_)
  refine run_share [1] rfl ?_
  refine run_share [1] rfl ?_
  refine run_take [] rfl ?_
  refine run_slots [(3, ptr rb), (4, ptr nb)] ⟨rfl, rfl, trivial⟩ (fun junk => ?_)
  repeat (first | refine zck ?_ | refine zcl ?_ | refine zcm ?_ | refine zcn ?_)
  first | refine zcp (by kernel_rfl) ?_ | refine zcq PP_mixed (by kernel_rfl) (by kernel_rfl) ?_
  repeat' (refine zap rfl ?_; first | refine zcb rfl ?_ | refine reg_buildSlice rfl rfl rfl rfl rfl rfl (fun nb => ?_) | (refine zai [0] (played_ex w0 _ ex6 ex6_ok (by decide) 3 _ ex6_pl) rfl rfl rfl sub_nil ?_; rintro v Γ' ⟨⟨m2, r2, ad2, hM2⟩, w2, kn3, rfl, rfl, hW2⟩) | ((with_reducible refine zcu ?_); refine zan rfl ?_) | ((with_reducible refine zcv ?_); refine zan rfl ?_) | ((with_reducible refine zcz ?_); refine zan rfl ?_) | ((with_reducible refine zdd ?_); refine zae 5 rfl rfl rfl rfl rfl rfl rfl ?_) | ((with_reducible refine zdh ?_); refine zar (fun nb => ?_)))
  all_goals refine zch ?_
  all_goals repeat (first | refine zck ?_ | refine zcl ?_ | refine zcm ?_ | refine zcn ?_)
  rename_i b7 
  revert nb; intro x2
  refine run_share [0] rfl ?_
  refine run_share [4] rfl ?_
  refine run_take [] rfl ?_
  refine run_slots [(2, .bool true), (3, ptr rb), (4, ptr nb), (5, ptr x2)] ⟨rfl, rfl, rfl, rfl, trivial⟩ (fun junk => ?_)
  repeat (first | refine zck ?_ | refine zcl ?_ | refine zcm ?_ | refine zcn ?_)
  first | refine zcp (by kernel_rfl) ?_ | refine zcq PP_mixed (by kernel_rfl) (by kernel_rfl) ?_
  repeat' (refine zap rfl ?_; first | ((with_reducible refine zdh ?_); refine zar (fun nb => ?_)))
  all_goals refine zch ?_
  all_goals repeat (first | refine zck ?_ | refine zcl ?_ | refine zcm ?_ | refine zcn ?_)
  revert nb; intro ub
  have hD2 := (done_mem (σ := Unit) w0 [(x2, .cells (List.toArray (stC w2 9 r2 3 [(3, 2)])) 36 (0, 0))] w2 kn3 368 6 m2 (by decide) hW2 39 (List.toArray [ptr x2, ptr ub]) (i8B ub 0) (fun _ => i8B ub 1) (fun _ => m2)
    (fun p s hC _ => (awake2 w0 _ p x2 ub w2 (by decide) r2 s hC hM2 (by decide) (.head _)).mono (fun v Γ ⟨s', e1, e2, e3⟩ => ⟨(), s', 0, e1, e2, by decide, e3⟩)))
  have hv17 : ((lookW kn3 17).getD ⟨0, 0, 0⟩).val = 2 := by
    rw [valW_getD, hW2.val 17 (by decide) (by decide)]
    exact hM2.sets
  repeat (first | refine zck ?_ | refine zcl ?_ | refine zcm ?_ | refine zcn ?_)
  first | refine zcp (by kernel_rfl) ?_ | refine zcq PP_mixed (by kernel_rfl) (by kernel_rfl) ?_
  repeat' (refine zap rfl ?_; first | (refine zai [0] hD2 rfl rfl rfl sub_swap2 ?_; rintro v Γ' ⟨_, b3, wa3, wl3, wc3, kn4, rfl, rfl, hW3⟩) | ((with_reducible refine zcw ?_); refine zaa 0 rfl rfl rfl ?_) | ((with_reducible refine zcy ?_); refine zao rfl ?_) | refine zan rfl ?_)
  all_goals refine zch ?_
  all_goals repeat (first | refine zck ?_ | refine zcl ?_ | refine zcm ?_ | refine zcn ?_)
  refine run_share [1] rfl ?_
  refine run_take [] rfl ?_
  repeat' (first | refine zcp (by kernel_rfl) ?_ | (refine zap rfl ?_; first | refine reg_lookup_sh 2 rfl rfl rfl (valW_look kn3 17 _ rfl) ?_ | (refine reg_fieldV rfl rfl ?_; rw [hv17]) | ((with_reducible refine zct ?_); refine zaj rfl ?_) | ((with_reducible refine zcu ?_); refine zan rfl ?_) | ((with_reducible refine zcv ?_); refine zan rfl ?_) | ((with_reducible refine zcw ?_); first | refine zaa 0 rfl rfl rfl ?_ | refine zaa 1 rfl rfl rfl ?_ | refine zaa 3 rfl rfl rfl ?_ | refine zaa 4 rfl rfl rfl ?_) | ((with_reducible refine zcy ?_); refine zao rfl ?_) | ((with_reducible refine zda ?_); refine zbo rfl rfl ?_) | ((with_reducible refine zdc ?_); refine zbu rfl ?_)) | refine zch ?_)
  exact ret_tmp1 rfl ⟨rfl, rfl⟩
end Go.Proofs.Ytpcnbaddkblbhaa

/- The law's statements: ForestPlays, ForestFull. -/
namespace Go.Proofs.Ytpcnbaddkblbhaa
open Go.Vc Sim
set_option maxHeartbeats 8000000
theorem great_spec (w0 : World) (a : Option Addr) (len cap : Nat) : FnE PP w0 [] 9 [.slice a len cap] [] (.bool (decide ((len : Int) > 100))) [] := by
  refine fn_of_run en9 fn9 rfl rfl rfl ?_
  repeat' (first | refine zck ?_ | refine zcp (by kernel_rfl) ?_ | (refine zap rfl ?_; first | ((with_reducible refine zcu ?_); refine zan rfl ?_) | ((with_reducible refine zcv ?_); refine zan rfl ?_) | ((with_reducible refine zcx ?_); refine zce rfl ?_) | ((with_reducible refine zda ?_); refine zbs rfl rfl ?_)) | refine zch ?_)
  exact ret_tmp1 rfl ⟨rfl, rfl⟩
theorem plays_spec (w0 : World) (nn : Int) (hn : u8P nn) (v : Value) (l : List Cl) (hv : InSl w0 Cl.cells 3 v l) (hok : ∀ x ∈ l, x.ok) :
    FnE PP w0 [] 3 [.int .u8 nn, v] [] (.bool true) [] := by
  have hr := hv.rd (sh := [])
  obtain ⟨a, cap, rfl, hmax, hmem⟩ := hv
  have hG := great_spec w0 a l.length cap
  have hA := awake_spec w0
  by_cases hl : (l.length : Int) > 100
  · rw [decide_eq_true hl] at hG
    refine fn_of_run en3 fn3 rfl rfl rfl ?_
    repeat' (first | refine zck ?_ | refine zcp (by kernel_rfl) ?_ | (refine zap rfl ?_; first | ((with_reducible refine zcu ?_); refine zan rfl ?_) | ((with_reducible refine zcv ?_); refine zan rfl ?_) | ((with_reducible refine zcx ?_); first | refine zah [] hG rfl rfl rfl sub_nil rfl ?_ | refine zah [] hA rfl rfl rfl sub_nil rfl ?_)) | refine zch ?_ | refine zci rfl ?_)
    exact ret_tmp1 rfl ⟨rfl, rfl⟩
  · rw [decide_eq_false hl] at hG
    refine fn_of_run en3 fn3 rfl rfl rfl ?_
    repeat' (first | refine zck ?_ | refine zcp (by kernel_rfl) ?_ | refine zcm ?_ | (refine zap rfl ?_; first | (refine zai [] (played_spec w0 [] nn hn _ l hr hok (by omega)) rfl rfl rfl sub_nil ?_; rintro v Γ' ⟨⟨m, r, ad, hM⟩, wb, kn, rfl, rfl, hW⟩) | ((with_reducible refine zct ?_); refine zaj rfl ?_) | ((with_reducible refine zcu ?_); refine zan rfl ?_) | ((with_reducible refine zcv ?_); refine zan rfl ?_) | ((with_reducible refine zcx ?_); first | refine zah [] hG rfl rfl rfl sub_nil rfl ?_ | refine zah [] hA rfl rfl rfl sub_nil rfl ?_) | ((with_reducible refine zcz ?_); refine zan rfl ?_) | ((with_reducible refine zdc ?_); refine zbu rfl ?_) | ((with_reducible refine zdd ?_); refine zae 4 rfl rfl rfl rfl rfl rfl rfl ?_) | ((with_reducible refine zdh ?_); refine zar (fun nb => ?_))) | refine zch ?_ | refine zcj rfl ?_)
    exact run_ret (leaves_nil (ends_take [] rfl (ends_one rfl rfl ⟨rfl, rfl, rfl⟩)))
theorem full_spec (w0 : World) (nn : Int) (hn : u8P nn) : FnE PP w0 [] 7 [.int .u8 nn] [] (.bool true) [] := by
  have hA := awake_spec w0
  have hMd := made_spec w0 38 (by decide)
  have hF := fresh_spec w0 368 (by decide)
  have hK : (0 : Int) ≤ 38 ∧ (38 : Int) ≤ 38 := by decide
  have hn8 : nn.tmod 8 = nn % 8 := Int.tmod_eq_emod_of_nonneg hn.1
  refine fn_of_run en7 fn7 rfl rfl rfl ?_
  repeat (first | refine zck ?_ | refine zcl ?_ | refine zcm ?_ | refine zcn ?_)
  first | refine zcp (by kernel_rfl) ?_ | refine zcq PP_mixed (by kernel_rfl) (by kernel_rfl) ?_
  repeat' (refine zap rfl ?_; first | ((with_reducible refine zcv ?_); refine zan rfl ?_))
  all_goals refine zch ?_
  all_goals repeat (first | refine zck ?_ | refine zcl ?_ | refine zcm ?_ | refine zcn ?_)
  repeat (first | refine zck ?_ | refine zcl ?_ | refine zcm ?_ | refine zcn ?_)
  first | refine zcp (by kernel_rfl) ?_ | refine zcq PP_mixed (by kernel_rfl) (by kernel_rfl) ?_
  repeat' (refine zap rfl ?_; first | ((with_reducible refine zcx ?_); first | (refine zai [] hF rfl rfl rfl sub_nil ?_; rintro v Γ' ⟨wb, rfl, rfl⟩) | refine zah [] hMd rfl rfl rfl sub_nil rfl ?_) | ((with_reducible refine zdd ?_); refine zae 1 rfl rfl rfl rfl rfl rfl rfl ?_) | ((with_reducible refine zdh ?_); refine zar (fun nb => ?_)) | refine zcb rfl ?_)
  all_goals refine zch ?_
  all_goals repeat (first | refine zck ?_ | refine zcl ?_ | refine zcm ?_ | refine zcn ?_)
  revert nb; intro xb
  repeat (first | refine zck ?_ | refine zcl ?_ | refine zcm ?_ | refine zcn ?_)
  first | refine zcp (by kernel_rfl) ?_ | refine zcq PP_mixed (by kernel_rfl) (by kernel_rfl) ?_
  repeat' (refine zap rfl ?_; first | (refine reg_rem rfl rfl (by decide) ?_; rw [hn8]) | refine zbz rfl (by omega) ?_ | ((with_reducible refine zcu ?_); refine zan rfl ?_) | ((with_reducible refine zda ?_); refine zau rfl rfl (by omega) ?_))
  all_goals refine zch ?_
  all_goals repeat (first | refine zck ?_ | refine zcl ?_ | refine zcm ?_ | refine zcn ?_)
  generalize hN : 60 + nn % 8 = N
  have hNb : 60 ≤ N ∧ N ≤ 67 := by omega
  clear hN
  obtain ⟨q, rfl⟩ : ∃ q : Nat, N = q := ⟨N.toNat, by omega⟩
  refine run_slots [(3, ptr xb), (15, .int .i64 q), (16, .int .i64 0)] ⟨rfl, rfl, rfl, trivial⟩ (fun junk => ?_)
  refine run_emp (A := LstA 3 (.slice none 0 0) []) ⟨none, 0, rfl, SlA_nil⟩ ?_
  refine run_emp (A := LstA 3 (.slice none 0 0) []) ⟨none, 0, rfl, SlA_nil⟩ ?_
  refine run_emp (A := LstA 3 (.slice none 0 0) []) ⟨none, 0, rfl, SlA_nil⟩ ?_
  refine run_loop (S := Nat × Rl × Nat × List (Int × Wd) × (Int → Int)) (fun st => [(3, ptr xb), (15, .int .i64 q), (16, .int .i64 (st.1 : Int))])
    (fun st Γ => Γ = wdA st.2.2.1 st.2.2.2.1 :: stB xb st.2.2.1 38 st.2.1 (min st.1 64) [] :: rl3 st.2.1 (min st.1 64) [] ∧ st.1 ≤ q ∧
      WM 368 st.1 st.2.2.2.1 st.2.2.2.2 ∧ ∃ ad, Mm 38 st.2.2.2.2 (min st.1 64) (nC (min st.1 64)) (tC (min st.1 64)) [] ad) (fun st => q - st.1) (0, ⟨none, 0, none, 0, none, 0⟩, wb, wk 0 (List.replicate 368 0), fun _ => 0) ⟨rfl, rfl, rfl, trivial⟩ ⟨rfl, Nat.zero_le _, fresh_WM 368 (by decide), _, Mm.zero 38 hK⟩ ?_
  rintro ⟨i, r, wb, kn, m⟩ Γ junk ⟨rfl, hi, hW, ad, hM⟩
  dsimp only at hi hW hM ⊢
  by_cases hlt : i < q
  · have hst : stepJ 38 (min i 64) [] 0 0 0 = (min (i + 1) 64, []) := by
      unfold stepJ
      rw [if_neg (by decide), if_neg (by decide), if_neg (by decide)]
      by_cases h64 : i < 64
      · rw [if_pos ⟨by omega, by unfold cN; omega⟩]
        congr 1
        omega
      · rw [if_neg (by omega)]
        congr 1
        omega
    have hS := fun sh => step_spec w0 sh wb hK r kn i (by omega) hW hM 0 0 0 (by decide) (by decide) (by decide) (min (i + 1) 64) [] hst
    have hbl := bL_len (min (i + 1) 64) []
    repeat (first | refine zck ?_ | refine zcl ?_ | refine zcm ?_ | refine zcn ?_)
    first | refine zcp (by kernel_rfl) ?_ | refine zcq PP_mixed (by kernel_rfl) (by kernel_rfl) ?_
    repeat' (refine zap rfl ?_; first | ((with_reducible refine zda ?_); refine zbg rfl rfl (by omega) ?_))
    all_goals refine zch ?_
    all_goals repeat (first | refine zck ?_ | refine zcl ?_ | refine zcm ?_ | refine zcn ?_)
    refine zci rfl ?_
    repeat (first | refine zck ?_ | refine zcl ?_ | refine zcm ?_ | refine zcn ?_)
    first | refine zcp (by kernel_rfl) ?_ | refine zcq PP_mixed (by kernel_rfl) (by kernel_rfl) ?_
    repeat' (refine zap rfl ?_; first | ((with_reducible refine zcu ?_); refine zan rfl ?_) | ((with_reducible refine zcv ?_); refine zan rfl ?_))
    all_goals refine zch ?_
    all_goals repeat (first | refine zck ?_ | refine zcl ?_ | refine zcm ?_ | refine zcn ?_)
    repeat (first | refine zck ?_ | refine zcl ?_ | refine zcm ?_ | refine zcn ?_)
    first | refine zcp (by kernel_rfl) ?_ | refine zcq PP_mixed (by kernel_rfl) (by kernel_rfl) ?_
    repeat' (refine zap rfl ?_; first | refine zcb rfl ?_ | (refine zai [0, 1, 1, 1] (hS []) rfl rfl rfl sub_nil ?_; rintro v Γ' ⟨⟨m1, r1, ad1, hM1⟩, wb1, kn1, rfl, rfl, hW1⟩) | ((with_reducible refine zcu ?_); refine zan rfl ?_) | ((with_reducible refine zcv ?_); refine zan rfl ?_) | ((with_reducible refine zcw ?_); refine zab 1 rfl rfl rfl ?_) | ((with_reducible refine zcz ?_); refine zan rfl ?_) | ((with_reducible refine zdd ?_); refine zae 5 rfl rfl rfl rfl rfl rfl rfl ?_) | ((with_reducible refine zdh ?_); refine zar (fun nb => ?_)))
    all_goals refine zch ?_
    all_goals repeat (first | refine zck ?_ | refine zcl ?_ | refine zcm ?_ | refine zcn ?_)
    revert nb; intro nx
    repeat (first | refine zck ?_ | refine zcl ?_ | refine zcm ?_ | refine zcn ?_)
    first | refine zcp (by kernel_rfl) ?_ | refine zcq PP_mixed (by kernel_rfl) (by kernel_rfl) ?_
    repeat' (refine zap rfl ?_; first | ((with_reducible refine zct ?_); refine zaj rfl ?_) | ((with_reducible refine zcu ?_); refine zan rfl ?_) | ((with_reducible refine zcw ?_); refine zab 5 rfl rfl rfl ?_) | ((with_reducible refine zcx ?_); first | refine zce rfl ?_ | refine zcg rfl rfl ?_) | ((with_reducible refine zcy ?_); refine zao rfl ?_) | ((with_reducible refine zda ?_); first | refine zbf rfl rfl (by omega) ?_ | refine zau rfl rfl (by omega) ?_) | ((with_reducible refine zdb ?_); refine zbx rfl ?_) | ((with_reducible refine zdc ?_); refine zbv rfl ?_))
    all_goals refine zch ?_
    all_goals repeat (first | refine zck ?_ | refine zcl ?_ | refine zcm ?_ | refine zcn ?_)
    refine zcj rfl ?_
    repeat' (first | refine zcp (by kernel_rfl) ?_ | refine zcm ?_ | refine zcn ?_ | (refine zap rfl ?_; first | ((with_reducible refine zcu ?_); refine zan rfl ?_) | ((with_reducible refine zcw ?_); refine zab 5 rfl rfl rfl ?_) | ((with_reducible refine zda ?_); refine zau rfl rfl (by omega) ?_) | ((with_reducible refine zdd ?_); refine zae 4 rfl rfl rfl rfl rfl rfl rfl ?_)) | refine zch ?_)
    refine run_take [0, 3, 0, 0, 0] rfl ?_
    refine cut_end ⟨rfl, (i + 1, r1, wb1, kn1, m1), ⟨rfl, rfl, congrArg (Value.int .i64) (by dsimp only; omega), trivial⟩, ⟨rfl, by dsimp only; omega, ?_, ad1, hM1⟩, by dsimp only; omega⟩
    exact (show ((i + 1 : Nat) : Int) = (i : Int) + 1 by omega) ▸ hW1
  · have hil : i = q := by omega
    have hk : min i 64 = min q 64 := by rw [hil]
    have hkb : 1 ≤ min q 64 ∧ min q 64 ≤ 64 := by omega
    rw [hk] at hM
    rw [hk]
    generalize min q 64 = k at hM hkb
    have hbl := bL_len k []
    obtain ⟨k', J'⟩ : Nat × Jn := stepJ 38 k [] 2 1 ((bL k []).length : Int)
    have hS := step_spec w0 [] wb hK r kn i (by omega) hW hM 2 1 ((bL k []).length : Int) (by decide) (by decide) (by omega) (stepJ 38 k [] 2 1 ((bL k []).length : Int)).1 (stepJ 38 k [] 2 1 ((bL k []).length : Int)).2 rfl
    repeat' (first | refine zck ?_ | refine zcp (by kernel_rfl) ?_ | (refine zap rfl ?_; first | ((with_reducible refine zda ?_); refine zbh rfl rfl (by omega) ?_)) | refine zch ?_ | refine zcj rfl ?_)
    refine cut_exit rfl rfl ?_
    repeat (first | refine zck ?_ | refine zcl ?_ | refine zcm ?_ | refine zcn ?_)
    first | refine zcp (by kernel_rfl) ?_ | refine zcq PP_mixed (by kernel_rfl) (by kernel_rfl) ?_
    repeat' (refine zap rfl ?_; first | refine zcb rfl ?_ | (refine zai [0, 1, 1, 1] hS rfl rfl rfl sub_nil ?_; rintro v Γ' ⟨⟨m1, r1, ad1, hM1⟩, wb1, kn1, rfl, rfl, hW1⟩) | ((with_reducible refine zcu ?_); refine zan rfl ?_) | ((with_reducible refine zcv ?_); refine zan rfl ?_) | ((with_reducible refine zcw ?_); refine zab 1 rfl rfl rfl ?_) | ((with_reducible refine zcx ?_); refine zce rfl ?_) | ((with_reducible refine zcy ?_); refine zao rfl ?_) | ((with_reducible refine zcz ?_); refine zan rfl ?_) | ((with_reducible refine zdd ?_); refine zae 5 rfl rfl rfl rfl rfl rfl rfl ?_) | ((with_reducible refine zdh ?_); refine zar (fun nb => ?_)))
    all_goals refine zch ?_
    all_goals repeat (first | refine zck ?_ | refine zcl ?_ | refine zcm ?_ | refine zcn ?_)
    have hI := is_spec w0 [] wb1 hK r1 kn1 (i + 1) (by omega) hW1 hM1
    repeat' (first | refine zcp (by kernel_rfl) ?_ | (refine zap rfl ?_; first | (refine zai [0, 0, 0, 0] hI rfl rfl rfl sub_nil ?_; rintro v Γ' ⟨rfl, rfl⟩) | ((with_reducible refine zct ?_); refine zaj rfl ?_) | ((with_reducible refine zcu ?_); refine zan rfl ?_) | ((with_reducible refine zcv ?_); refine zan rfl ?_) | ((with_reducible refine zcw ?_); refine zab 5 rfl rfl rfl ?_) | ((with_reducible refine zcx ?_); refine zah [] hA rfl rfl rfl sub_nil rfl ?_) | ((with_reducible refine zdc ?_); refine zbu rfl ?_)) | refine zch ?_)
    exact run_ret (leaves_nil (ends_take [] rfl (ends_one rfl rfl ⟨rfl, rfl, rfl⟩)))
end Go.Proofs.Ytpcnbaddkblbhaa

/- What the law reads in the world: below. -/
namespace Sim
open Go Go.Vc
variable {K : Int} {m : Int → Int} {k : Nat} {J : Jn} {ad : Nat → Int}
/-- The words on the way to an element. -/
theorem below_way (hK : 0 ≤ K ∧ K ≤ 38) (h : Mm K m k (nC k) (tC k) J ad) {kn : List (Int × Wd)} {T : Int} (hW : WM 368 T kn m) {i : Int} (h1 : 1 ≤ i) (h2 : i ≤ k) :
    ∃ a b : Int, (64 ≤ a ∧ a ≤ 360) ∧ (64 ≤ b ∧ b ≤ 360) ∧ ((lookW kn (19 + (i - 1) / 2 / 8)).getD ⟨0, 0, 0⟩).val = a ∧ ((lookW kn (a + (i - 1) / 2 % 8)).getD ⟨0, 0, 0⟩).val = b ∧ ((lookW kn (b + 4 * ((i - 1) % 2))).getD ⟨0, 0, 0⟩).val = par J i := by
  obtain ⟨q, e1, e2, e3, e4⟩ := elq h1
  have l1 := h.le1
  have l2 := h.le2
  have l3 := h.le3
  have hq : q < nC k := by omega
  have n1 := nd_bd hK (h.isn (i := 100 + q / 8) (.inr (by omega)))
  have n2 := nd_bd hK (h.isn (i := q) (.inl hq))
  refine ⟨ad (100 + q / 8), ad q, by omega, by omega, ?_, ?_, ?_⟩
  · rw [valW_getD, e3, hW.val _ (by omega) (by omega)]
    exact h.tab _ (by omega)
  · rw [valW_getD, e4, hW.val _ (by omega) (by omega)]
    exact h.nod q hq
  · rw [valW_getD, hW.val _ (by omega) (by omega), ← (h.els i h1 h2).1]
    unfold el
    rw [e2, Int.mul_comm]
end Sim
namespace Go.Proofs.Ytpcnbaddkblbhaa
open Go.Vc Sim
set_option maxHeartbeats 8000000
section
variable {K : Int} {m : Int → Int} {k : Nat} {J : Jn} {ad : Nat → Int}
theorem below_spec (w0 : World) (wb : Nat) (hK : 0 ≤ K ∧ K ≤ 38) (r : Rl) (kn : List (Int × Wd)) (T : Int) (hW : WM 368 T kn m) (h : Mm K m k (nC k) (tC k) J ad) (i : Int) (h1 : 1 ≤ i) (h2 : i ≤ k) :
    FnE PP w0 [(wb, mapI (knM kn))] 25 [stR wb K r k J, .int .i64 i] [] (.int .i64 (par J i)) [] := by
  have hkl := h.le
  obtain ⟨a, b, ha, hb, g1, g2, g3⟩ := below_way hK h hW h1 h2
  refine fn_of_run en25 fn25 rfl rfl rfl ?_
  repeat (first | refine zck ?_ | refine zcl ?_ | refine zcm ?_ | refine zcn ?_)
  first | refine zcp (by kernel_rfl) ?_ | refine zcq PP_mixed (by kernel_rfl) (by kernel_rfl) ?_
  repeat' (refine zap rfl ?_; first | ((with_reducible refine zcv ?_); refine zan rfl ?_) | ((with_reducible refine zdg ?_); refine zaq (cs := [_, _, _, _, _, _, _, _]) rfl (fun nb => ?_)))
  all_goals refine zch ?_
  all_goals repeat (first | refine zck ?_ | refine zcl ?_ | refine zcm ?_ | refine zcn ?_)
  refine run_share [0] rfl ?_
  repeat' (first | refine zck ?_ | refine zcp (by kernel_rfl) ?_ | (refine zap rfl ?_; first | refine reg_lookup_sh 1 rfl rfl rfl (valW_look kn _ _ rfl) ?_ | (refine reg_fieldV rfl rfl ?_; first | rw [g1] | rw [g2] | rw [g3]) | ((with_reducible refine zcu ?_); refine zan rfl ?_) | ((with_reducible refine zcv ?_); refine zan rfl ?_) | ((with_reducible refine zcw ?_); refine zaa 0 rfl rfl rfl ?_) | ((with_reducible refine zcy ?_); refine zao rfl ?_) | ((with_reducible refine zda ?_); first | refine zau rfl rfl (by omega) ?_ | refine zav rfl rfl (by omega) ?_ | refine zaw rfl rfl (by omega) ?_ | refine zax rfl rfl (by omega) ?_ | refine zay rfl rfl (by omega) ?_)) | refine zch ?_)
  exact ret_tmp1 rfl ⟨rfl, rfl⟩
end
end Go.Proofs.Ytpcnbaddkblbhaa

/- The count of the law's map. -/
namespace Sim
open Go Go.Vc
def cnR (J : Jn) (r : Int) (i : Nat) : Int := ct (fun x => eqI (rep J x) r) i
def ckL (J : Jn) : Nat → List (Int × Value)
  | 0 => []
  | i + 1 => ins (ckL J i) (rep J ((i : Int) + 1)) (.int .i64 (cnR J (rep J ((i : Int) + 1)) i + 1))
theorem look_ins_eq : ∀ (l : List (Int × Value)) (a x : Int) (u : Value), Vc.look (ins l a u) x = if a = x then some u else Vc.look l x
  | [], a, x, u => by simp only [ins, Vc.look]
  | (b, v) :: l, a, x, u => by
    simp only [ins]
    by_cases hb : b = a
    · subst hb
      simp only [if_true, Vc.look]
      by_cases hx : b = x
      · rw [if_pos hx, if_pos hx]
      · rw [if_neg hx, if_neg hx, if_neg hx]
    · simp only [hb, if_false, Vc.look]
      rw [look_ins_eq l a x u]
      by_cases hx : b = x
      · rw [if_pos hx, if_pos hx, if_neg (fun e => hb (hx.trans e.symm))]
      · rw [if_neg hx, if_neg hx]
theorem ins_len_eq : ∀ (l : List (Int × Value)) (a : Int) (u : Value), (ins l a u).length = if Vc.look l a = none then l.length + 1 else l.length
  | [], a, u => by simp [ins, Vc.look]
  | (b, v) :: l, a, u => by
    by_cases hb : b = a
    · simp [ins, Vc.look, hb]
    · have e : Vc.look ((b, v) :: l) a = Vc.look l a := by simp [Vc.look, hb]
      rw [e]
      simp only [ins, hb, if_false]
      rw [List.length_cons, ins_len_eq l a u, List.length_cons]
      split <;> rfl
theorem cnR_succ (J : Jn) (r : Int) (i : Nat) : cnR J r (i + 1) = cnR J r i + if rep J ((i : Int) + 1) = r then 1 else 0 := by
  unfold cnR
  simp only [ct, eqI_iff]
theorem cnR_pos (J : Jn) (r : Int) (i : Nat) : 0 ≤ cnR J r i := (ct_le _ i).1
theorem look_ckL (J : Jn) (r : Int) : ∀ i : Nat, Vc.look (ckL J i) r = if 0 < cnR J r i then some (.int .i64 (cnR J r i)) else none
  | 0 => by
    rw [if_neg (by unfold cnR ct; decide)]
    rfl
  | i + 1 => by
    have h0 := cnR_pos J r i
    rw [ckL, look_ins_eq, look_ckL J r i, cnR_succ]
    by_cases h : rep J ((i : Int) + 1) = r
    · rw [if_pos h, if_pos h, if_pos (by omega), h]
    · rw [if_neg h, if_neg h, Int.add_zero]
theorem getD_ckL (J : Jn) (r : Int) (i : Nat) : (Vc.look (ckL J i) r).getD (.int .i64 0) = .int .i64 (cnR J r i) := by
  have h0 := cnR_pos J r i
  rw [look_ckL]
  split
  · rfl
  · have : cnR J r i = 0 := by omega
    rw [this]; rfl
theorem len_ckL {k : Nat} {J : Jn} (hv : Vd k J) : ∀ i : Nat, i ≤ k → ((ckL J i).length : Int) = ct (fun r => decide (0 < cnR J r i)) k
  | 0, _ => by
    have e : ∀ k : Nat, ct (fun r => decide (0 < cnR J r 0)) k = 0 := by
      intro k
      induction k with
      | zero => rfl
      | succ k ih =>
        simp only [ct, ih]
        rw [if_neg (by rw [decide_eq_true_eq]; unfold cnR ct; decide)]
        rfl
    rw [e]; rfl
  | i + 1, hi => by
    have hp := rep_in hv ((i : Int) + 1) (by omega) (by omega)
    have h0 := cnR_pos J (rep J ((i : Int) + 1)) i
    have ih := len_ckL hv i (by omega)
    rw [ckL, ins_len_eq, look_ckL]
    by_cases hz : 0 < cnR J (rep J ((i : Int) + 1)) i
    · rw [if_pos hz, if_neg (by simp), ih]
      refine ct_congr k fun r _ _ => ?_
      rw [cnR_succ]
      by_cases hr : rep J ((i : Int) + 1) = r
      · rw [if_pos hr, ← hr, decide_eq_true hz, decide_eq_true (by omega)]
      · rw [if_neg hr, Int.add_zero]
    · rw [if_neg hz, if_pos rfl]
      have e : ct (fun r => decide (0 < cnR J r (i + 1))) k = ct (fun r => decide (0 < cnR J r i)) k + ct (fun r => eqI r (rep J ((i : Int) + 1))) k := by
        refine ct_add k fun r _ _ => ?_
        rw [cnR_succ, decide_eq_true_eq, decide_eq_true_eq, eqI_iff]
        by_cases hr : rep J ((i : Int) + 1) = r
        · rw [if_pos hr]; rw [hr] at hz h0
          exact ⟨⟨fun _ => .inr hr.symm, fun _ => by omega⟩, fun hh => hz hh.1⟩
        · rw [if_neg hr, Int.add_zero]
          exact ⟨⟨.inl, fun hh => hh.elim id fun e => absurd e.symm hr⟩, fun hh => hr hh.2.symm⟩
      rw [e, ct_one, if_pos hp, ← ih]
      omega
theorem len_all {k : Nat} {J : Jn} (hv : Vd k J) : ((ckL J k).length : Int) = (k : Int) - J.length := by
  rw [len_ckL hv k (Nat.le_refl _), ← roots_count hv, Int.add_sub_cancel]
  refine ct_congr k fun r h1 h2 => ?_
  by_cases hr : par J r = 0
  · have := sz_count hv r h1 h2 hr
    have := sz_pos J r
    rw [decide_eq_true (show 0 < cnR J r k by unfold cnR; omega), eqI_iff.2 hr]
  · have hz : cnR J r k = 0 := by
      have e : ∀ k : Nat, cnR J r k = 0 := by
        intro k
        induction k with
        | zero => rfl
        | succ k ih =>
          rw [cnR_succ, ih, if_neg (fun e => hr (by rw [← e]; exact rep_root hv _))]
          rfl
      exact e k
    rw [hz, eqI_no hr]
    rfl
end Sim

/- The law's Sets$1. -/
namespace Go.Vc
variable {P : Program} {w0 : World} {n : Nat} {sh : Shared} {Q : Exit → Env → List Deferred → List Asn → Prop} {k : List Item} {ρ : Env} {df : List Deferred} {Γ : List Asn}
variable {ops : Array Oper} {l : List (Fl × Nat × Oper)} {i d : Nat} {ty : TypeId} {pos : String} {aft : Array Edge} {x y : Operand} {t kt et : TypeId} {kd : IntKind} {r : Nat} {a : Int} {ml : List (Int × Value)} {zv : Value} {b : Fl}
theorem reg_lookup_in {ok : Bool} {v : Value} [hT : TUnd P t (.map kt et)] [hK : TUnd P kt (.int kd)] [hZ : TZeroV P et zv] (hj : (r, mapI ml) ∈ sh) (hx : ev ρ x = .map (some r)) (hy : ev ρ y = .int .i64 a)
    (hv : (if ok then .tuple #[(look ml a).getD zv, .bool (look ml a).isSome] else (look ml a).getD zv) = v)
    (h : Reg P w0 n sh Q ops l k (ρ.set d v) df Γ) : Reg P w0 n sh Q ops ((b, i, ⟨some d, .lookup t x y ok, ty, pos, aft, none⟩) :: l) k ρ df Γ :=
  reg_quiet rfl (fun _ hsh w _ hst => ⟨w, by
    simp only [execOp, hx, hy, Sem.run_bind, lookup_run hT.und hK.und hZ.zero_run (hst.frame (hsh _ hj)).2, Sem.run_pure, Result.andThen_ok, hv], hst⟩) h
end Go.Vc
namespace Sim
variable {k : Nat} {J : Jn}
/-- A step up. -/
theorem up_at (hv : Vd k J) {x : Int} (hne : x ≠ rep J x) : 1 ≤ par J x ∧ par J x ≤ k ∧ rep J (par J x) = rep J x ∧ dep J x = dep J (par J x) + 1 := by
  have h0 : par J x ≠ 0 := fun h0 => hne (root_rep hv x h0).symm
  obtain ⟨e1, e2⟩ := up_one hv x h0
  rcases par_in hv x with h3 | ⟨h3, h4⟩
  · exact absurd h3 h0
  · exact ⟨h3, h4, e1, e2⟩
end Sim
namespace Go.Proofs.Ytpcnbaddkblbhaa
open Go.Vc Sim
set_option maxHeartbeats 8000000
section
variable {K : Int} {m : Int → Int} {k : Nat} {J : Jn} {ad : Nat → Int}
theorem sets1_spec (w0 : World) (sh : Shared) (p xb ob wb : Nat) (hK : 0 ≤ K ∧ K ≤ 38) (r : Rl) (kn : List (Int × Wd)) (T : Int) (hW : WM 368 T kn m) (s : Sp) (hC : Cu 368 s s m 0) (h : Mm K m k (nC k) (tC k) J ad) (hxb : (xb, .cells (List.toArray (stC wb K r k J)) 36 (0, 0)) ∈ sh) (hwb : (wb, mapI (knM kn)) ∈ sh) :
    Vc.Fn PP w0 sh 24 [spP p, ptr xb, ptr ob] [SpaceA p s, okB ob true]
      (fun v Γ => ∃ (s' : Sp), v = .tuple #[] ∧ Γ = [SpaceA p s', okB ob true] ∧ Cu 368 s s' m 0) := by
  have hkl := h.le
  have hmx : ∀ hF Γ w, Sh sh hF → St w0 hF Γ w → w.heap[xb]? = some (.cells (List.toArray (stC wb K r k J)) 36 (0, 0)) := fun hF Γ w h1 h2 => (h2.frame (h1 _ hxb)).2
  have hm16 : ((lookW kn 16).getD ⟨0, 0, 0⟩).val = (k : Int) := by rw [valW_getD, hW.val 16 (by decide) (by decide)]; exact h.many
  refine fn_of_run en24 fn24 rfl rfl rfl ?_
  repeat (first | refine zck ?_ | refine zcl ?_ | refine zcm ?_ | refine zcn ?_)
  first | refine zcp (by kernel_rfl) ?_ | refine zcq PP_mixed (by kernel_rfl) (by kernel_rfl) ?_
  repeat' (refine zap rfl ?_; first | refine zad rfl hmx rfl ?_ | refine reg_lookup_in hwb rfl rfl (valW_look kn _ _ rfl) ?_ | (refine reg_fieldV rfl rfl ?_; rw [hm16]) | ((with_reducible refine zcv ?_); refine zan rfl ?_) | ((with_reducible refine zcy ?_); refine zao rfl ?_))
  all_goals refine zch ?_
  all_goals repeat (first | refine zck ?_ | refine zcl ?_ | refine zcm ?_ | refine zcn ?_)
  repeat (first | refine zck ?_ | refine zcl ?_ | refine zcm ?_ | refine zcn ?_)
  first | refine zcp (by kernel_rfl) ?_ | refine zcq PP_mixed (by kernel_rfl) (by kernel_rfl) ?_
  repeat' (refine zap rfl ?_; first | ((with_reducible refine zcv ?_); refine zan rfl ?_) | refine zcc (fun nb => ?_))
  all_goals refine zch ?_
  all_goals repeat (first | refine zck ?_ | refine zcl ?_ | refine zcm ?_ | refine zcn ?_)
  revert nb; intro mb
  repeat (first | refine zck ?_ | refine zcl ?_ | refine zcm ?_ | refine zcn ?_)
  first | refine zcp (by kernel_rfl) ?_ | refine zcq PP_mixed (by kernel_rfl) (by kernel_rfl) ?_
  repeat' (refine zap rfl ?_; first | ((with_reducible refine zcv ?_); refine zan rfl ?_))
  all_goals refine zch ?_
  all_goals repeat (first | refine zck ?_ | refine zcl ?_ | refine zcm ?_ | refine zcn ?_)
  refine run_slots [(0, spP p), (1, ptr xb), (2, ptr ob), (4, .int .i64 k), (5, .map (some mb)), (6, .int .i64 1)] ⟨rfl, rfl, rfl, rfl, rfl, rfl, trivial⟩ (fun junk => ?_)
  refine run_loop (S := Nat × Sp) (fun st => [(0, spP p), (1, ptr xb), (2, ptr ob), (4, .int .i64 k), (5, .map (some mb)), (6, .int .i64 (1 + (st.1 : Int)))])
    (fun st Γ => Γ = [SpaceA p st.2, okB ob true, pt mb (mapI (ckL J st.1))] ∧ Cu 368 s st.2 m 0 ∧ st.1 ≤ k) (fun st => k - st.1) (0, s) ⟨rfl, rfl, rfl, rfl, rfl, rfl, trivial⟩ ⟨rfl, hC, Nat.zero_le _⟩ ?_
  rintro ⟨i, s1⟩ Γ junk ⟨rfl, hC, hi⟩
  dsimp only at hC hi ⊢
  by_cases hik : i < k
  · have hx1 : (1 : Int) ≤ 1 + i := by omega
    have hx2 : 1 + (i : Int) ≤ k := by omega
    obtain ⟨r1, r2⟩ := rep_in h.vd _ hx1 hx2
    have hrr := rep_rep h.vd (1 + (i : Int))
    have hdep := dep_le hkl h.vd hx1 hx2
    have hck := getD_ckL J (rep J (1 + (i : Int))) i
    have hcb := ct_le (fun x => eqI (rep J x) (rep J (1 + (i : Int)))) i
    have hcs : ckL J (i + 1) = ins (ckL J i) (rep J (1 + (i : Int))) (.int .i64 (cnR J (rep J (1 + (i : Int))) i + 1)) := by rw [Int.add_comm]; rfl
    have hcn : cnR J (rep J (1 + (i : Int))) i ≤ 64 := by unfold cnR; omega
    have hcn0 := cnR_pos J (rep J (1 + (i : Int))) i
    repeat (first | refine zck ?_ | refine zcl ?_ | refine zcm ?_ | refine zcn ?_)
    first | refine zcp (by kernel_rfl) ?_ | refine zcq PP_mixed (by kernel_rfl) (by kernel_rfl) ?_
    repeat' (refine zap rfl ?_; first | ((with_reducible refine zcu ?_); refine zan rfl ?_) | ((with_reducible refine zda ?_); refine zbi rfl rfl (by omega) ?_))
    all_goals refine zch ?_
    all_goals repeat (first | refine zck ?_ | refine zcl ?_ | refine zcm ?_ | refine zcn ?_)
    refine zci rfl ?_
    repeat (first | refine zck ?_ | refine zcl ?_ | refine zcm ?_ | refine zcn ?_)
    first | refine zcp (by kernel_rfl) ?_ | refine zcq PP_mixed (by kernel_rfl) (by kernel_rfl) ?_
    repeat' (refine zap rfl ?_; first | refine zad rfl hmx rfl ?_ | ((with_reducible refine zcu ?_); refine zan rfl ?_) | ((with_reducible refine zcv ?_); refine zan rfl ?_) | ((with_reducible refine zcx ?_); (refine reg_callO [0] hC ((f0 K).bd_find (1 + (i : Int))) (find_ok hK h hx1 hx2) (by omega) (foFind w0 p (f0 K) (f0_ok hK) (1 + (i : Int)) (by omega)) rfl rfl rfl sub_nil ?_; rintro x s2 m2 ⟨rfl, em⟩ hC; rw [em] at hC)) | ((with_reducible refine zcy ?_); refine zao rfl ?_) | ((with_reducible refine zcz ?_); refine zan rfl ?_))
    all_goals refine zch ?_
    all_goals repeat (first | refine zck ?_ | refine zcl ?_ | refine zcm ?_ | refine zcn ?_)
    refine run_slots [(0, spP p), (1, ptr xb), (2, ptr ob), (4, .int .i64 k), (5, .map (some mb)), (6, .int .i64 (1 + (i : Int))), (7, .int .i64 (rep J (1 + (i : Int)))), (8, .int .i64 0)] ⟨rfl, rfl, rfl, rfl, rfl, rfl, rfl, rfl, trivial⟩ (fun junk => ?_)
    have hF2 := find_ok hK h r1 r2
    rw [hrr] at hF2
    repeat (first | refine zck ?_ | refine zcl ?_ | refine zcm ?_ | refine zcn ?_)
    first | refine zcp (by kernel_rfl) ?_ | refine zcq PP_mixed (by kernel_rfl) (by kernel_rfl) ?_
    repeat' (refine zap rfl ?_; first | refine zad rfl hmx rfl ?_ | ((with_reducible refine zcu ?_); refine zan rfl ?_) | ((with_reducible refine zcv ?_); refine zan rfl ?_) | ((with_reducible refine zcx ?_); (refine reg_callO [0] hC ((f0 K).bd_find (rep J (1 + (i : Int)))) hF2 (by omega) (foFind w0 p (f0 K) (f0_ok hK) (rep J (1 + (i : Int))) (by omega)) rfl rfl rfl sub_nil ?_; rintro x s3 m3 ⟨rfl, em3⟩ hC; rw [em3] at hC)) | ((with_reducible refine zcy ?_); refine zao rfl ?_) | ((with_reducible refine zcz ?_); refine zan rfl ?_))
    all_goals refine zch ?_
    all_goals repeat (first | refine zck ?_ | refine zcl ?_ | refine zcm ?_ | refine zcn ?_)
    refine run_slots [(0, spP p), (1, ptr xb), (2, ptr ob), (4, .int .i64 k), (5, .map (some mb)), (6, .int .i64 (1 + (i : Int))), (7, .int .i64 (rep J (1 + (i : Int)))), (8, .int .i64 0), (9, .int .i64 (rep J (1 + (i : Int)))), (10, .int .i64 0)] ⟨rfl, rfl, rfl, rfl, rfl, rfl, rfl, rfl, rfl, rfl, trivial⟩ (fun junk => ?_)
    repeat (first | refine zck ?_ | refine zcl ?_ | refine zcm ?_ | refine zcn ?_)
    first | refine zcp (by kernel_rfl) ?_ | refine zcq PP_mixed (by kernel_rfl) (by kernel_rfl) ?_
    repeat' (refine zap rfl ?_; first | ((with_reducible refine zct ?_); refine zaj rfl ?_) | ((with_reducible refine zcu ?_); refine zan rfl ?_) | ((with_reducible refine zcw ?_); refine zab 1 rfl rfl rfl ?_) | ((with_reducible refine zda ?_); refine zbc rfl rfl (by omega) ?_) | ((with_reducible refine zdc ?_); refine zbu rfl ?_) | ((with_reducible refine zdd ?_); refine zae 1 rfl rfl rfl rfl rfl rfl rfl ?_))
    all_goals refine zch ?_
    all_goals repeat (first | refine zck ?_ | refine zcl ?_ | refine zcm ?_ | refine zcn ?_)
    refine run_slots [(0, spP p), (1, ptr xb), (2, ptr ob), (4, .int .i64 k), (5, .map (some mb)), (6, .int .i64 (1 + (i : Int))), (7, .int .i64 (rep J (1 + (i : Int))))] ⟨rfl, rfl, rfl, rfl, rfl, rfl, rfl, trivial⟩ (fun junk => ?_)
    repeat (first | refine zck ?_ | refine zcl ?_ | refine zcm ?_ | refine zcn ?_)
    first | refine zcp (by kernel_rfl) ?_ | refine zcq PP_mixed (by kernel_rfl) (by kernel_rfl) ?_
    repeat' (refine zap rfl ?_; first | refine reg_lookup 2 rfl rfl rfl hck ?_ | refine reg_mapUpdate 2 (u := .int .i64 (cnR J (rep J (1 + (i : Int))) i + 1)) (Γ' := [SpaceA p s3, okB ob true, pt mb (mapI (ckL J (i + 1)))]) rfl rfl rfl rfl (by rw [hcs]; rfl) ?_ | ((with_reducible refine zcu ?_); refine zan rfl ?_) | ((with_reducible refine zda ?_); refine zau rfl rfl (by omega) ?_))
    all_goals refine zch ?_
    all_goals repeat (first | refine zck ?_ | refine zcl ?_ | refine zcm ?_ | refine zcn ?_)
    repeat (first | refine zck ?_ | refine zcl ?_ | refine zcm ?_ | refine zcn ?_)
    first | refine zcp (by kernel_rfl) ?_ | refine zcq PP_mixed (by kernel_rfl) (by kernel_rfl) ?_
    repeat' (refine zap rfl ?_; first | ((with_reducible refine zcv ?_); refine zan rfl ?_))
    all_goals refine zch ?_
    all_goals repeat (first | refine zck ?_ | refine zcl ?_ | refine zcm ?_ | refine zcn ?_)
    repeat (first | refine zck ?_ | refine zcl ?_ | refine zcm ?_ | refine zcn ?_)
    first | refine zcp (by kernel_rfl) ?_ | refine zcq PP_mixed (by kernel_rfl) (by kernel_rfl) ?_
    repeat' (refine zap rfl ?_; first | ((with_reducible refine zcu ?_); refine zan rfl ?_) | ((with_reducible refine zcv ?_); refine zan rfl ?_))
    all_goals refine zch ?_
    all_goals repeat (first | refine zck ?_ | refine zcl ?_ | refine zcm ?_ | refine zcn ?_)
    refine run_slots [(0, spP p), (1, ptr xb), (2, ptr ob), (4, .int .i64 k), (5, .map (some mb)), (6, .int .i64 (1 + (i : Int))), (7, .int .i64 (rep J (1 + (i : Int)))), (11, .int .i64 0), (12, .int .i64 (1 + (i : Int)))] ⟨rfl, rfl, rfl, rfl, rfl, rfl, rfl, rfl, rfl, trivial⟩ (fun junk => ?_)
    refine run_loop (S := Nat × Int) (fun st => [(0, spP p), (1, ptr xb), (2, ptr ob), (4, .int .i64 k), (5, .map (some mb)), (6, .int .i64 (1 + (i : Int))), (7, .int .i64 (rep J (1 + (i : Int)))), (11, .int .i64 (st.1 : Int)), (12, .int .i64 st.2)])
      (fun st Γ => Γ = [SpaceA p s3, okB ob true, pt mb (mapI (ckL J (i + 1)))] ∧ (1 ≤ st.2 ∧ st.2 ≤ k) ∧ rep J st.2 = rep J (1 + (i : Int)) ∧ st.1 + dep J st.2 = dep J (1 + (i : Int))) (fun st => dep J st.2) (0, 1 + (i : Int)) ⟨rfl, rfl, rfl, rfl, rfl, rfl, rfl, rfl, rfl, trivial⟩ ⟨rfl, ⟨hx1, hx2⟩, rfl, Nat.zero_add _⟩ ?_
    rintro ⟨u, z⟩ Γ junk ⟨rfl, hz, hzr, hzd⟩
    dsimp only at hz hzr hzd ⊢
    by_cases hne : z = rep J (1 + (i : Int))
    · repeat' (first | refine zck ?_ | refine zcp (by kernel_rfl) ?_ | (refine zap rfl ?_; first | ((with_reducible refine zct ?_); refine zak rfl ?_) | ((with_reducible refine zcu ?_); refine zan rfl ?_) | ((with_reducible refine zda ?_); refine zbf rfl rfl (by omega) ?_) | ((with_reducible refine zdc ?_); refine zbv rfl ?_)) | refine zch ?_ | refine zcj rfl ?_)
      refine cut_exit rfl rfl ?_
      repeat (first | refine zck ?_ | refine zcl ?_ | refine zcm ?_ | refine zcn ?_)
      first | refine zcp (by kernel_rfl) ?_ | refine zcq PP_mixed (by kernel_rfl) (by kernel_rfl) ?_
      repeat' (refine zap rfl ?_; first | ((with_reducible refine zct ?_); refine zaj rfl ?_) | ((with_reducible refine zcu ?_); refine zan rfl ?_) | ((with_reducible refine zcw ?_); refine zab 1 rfl rfl rfl ?_) | ((with_reducible refine zda ?_); refine zbi rfl rfl (by omega) ?_) | ((with_reducible refine zdc ?_); refine zbu rfl ?_) | ((with_reducible refine zdd ?_); refine zae 1 rfl rfl rfl rfl rfl rfl rfl ?_))
      all_goals refine zch ?_
      all_goals repeat (first | refine zck ?_ | refine zcl ?_ | refine zcm ?_ | refine zcn ?_)
      repeat (first | refine zck ?_ | refine zcl ?_ | refine zcm ?_ | refine zcn ?_)
      first | refine zcp (by kernel_rfl) ?_ | refine zcq PP_mixed (by kernel_rfl) (by kernel_rfl) ?_
      repeat' (refine zap rfl ?_; first | ((with_reducible refine zcu ?_); refine zan rfl ?_) | ((with_reducible refine zcv ?_); refine zan rfl ?_) | ((with_reducible refine zda ?_); refine zau rfl rfl (by omega) ?_))
      all_goals refine zch ?_
      all_goals repeat (first | refine zck ?_ | refine zcl ?_ | refine zcm ?_ | refine zcn ?_)
      exact cut_end ⟨rfl, (i + 1, s3), ⟨rfl, rfl, rfl, rfl, rfl, congrArg (Value.int .i64) (by dsimp only; omega), trivial⟩, ⟨rfl, hC, by dsimp only; omega⟩, by dsimp only; omega⟩
    · obtain ⟨q1, q2, q3, q4⟩ := up_at h.vd (x := z) (by rw [hzr]; exact hne)
      have hB := below_spec w0 wb hK r kn T hW h z hz.1 hz.2
      repeat' (first | refine zck ?_ | refine zcp (by kernel_rfl) ?_ | refine zcm ?_ | refine zcl ?_ | refine zcn ?_ | (refine zap rfl ?_; first | refine zad rfl hmx rfl ?_ | ((with_reducible refine zct ?_); refine zaj rfl ?_) | ((with_reducible refine zcu ?_); refine zan rfl ?_) | ((with_reducible refine zcv ?_); refine zan rfl ?_) | ((with_reducible refine zcx ?_); refine zah [] hB rfl rfl rfl (fun p hp => by rw [List.mem_singleton.1 hp]; exact hwb) rfl ?_) | ((with_reducible refine zda ?_); first | refine zbe rfl rfl (by omega) ?_ | refine zbi rfl rfl (by omega) ?_ | refine zau rfl rfl (by omega) ?_) | ((with_reducible refine zdc ?_); refine zbu rfl ?_)) | refine zch ?_ | refine zci rfl ?_)
      exact cut_end ⟨rfl, (u + 1, par J z), ⟨rfl, rfl, rfl, rfl, rfl, rfl, rfl, congrArg (Value.int .i64) (by dsimp only; omega), rfl, trivial⟩, ⟨rfl, ⟨q1, q2⟩, q3.trans hzr, by dsimp only; omega⟩, by dsimp only; omega⟩
  · have hil : i = k := by omega
    subst hil
    repeat' (first | refine zck ?_ | refine zcp (by kernel_rfl) ?_ | (refine zap rfl ?_; first | ((with_reducible refine zcu ?_); refine zan rfl ?_) | ((with_reducible refine zda ?_); refine zbj rfl rfl (by omega) ?_)) | refine zch ?_ | refine zcj rfl ?_)
    refine cut_exit rfl rfl ?_
    repeat (first | refine zck ?_ | refine zcl ?_ | refine zcm ?_ | refine zcn ?_ | refine zco ?_)
    repeat (first | refine zck ?_ | refine zcl ?_ | refine zcm ?_ | refine zcn ?_)
    first | refine zcp (by kernel_rfl) ?_ | refine zcq PP_mixed (by kernel_rfl) (by kernel_rfl) ?_
    repeat' (refine zap rfl ?_; first | ((with_reducible refine zcv ?_); refine zan rfl ?_))
    all_goals refine zch ?_
    all_goals repeat (first | refine zck ?_ | refine zcl ?_ | refine zcm ?_ | refine zcn ?_)
    refine run_slots [(0, spP p), (1, ptr xb), (2, ptr ob), (4, .int .i64 i), (5, .map (some mb)), (13, .int .i64 1)] ⟨rfl, rfl, rfl, rfl, rfl, rfl, trivial⟩ (fun junk => ?_)
    refine run_loop (S := Nat × Sp) (fun st => [(0, spP p), (1, ptr xb), (2, ptr ob), (4, .int .i64 i), (5, .map (some mb)), (13, .int .i64 (1 + (st.1 : Int)))])
      (fun st Γ => Γ = [SpaceA p st.2, okB ob true, pt mb (mapI (ckL J i))] ∧ Cu 368 s st.2 m 0 ∧ st.1 ≤ i) (fun st => i - st.1) (0, s1) ⟨rfl, rfl, rfl, rfl, rfl, rfl, trivial⟩ ⟨rfl, hC, Nat.zero_le _⟩ ?_
    rintro ⟨e, s2⟩ Γ junk ⟨rfl, hC, he⟩
    dsimp only at hC he ⊢
    by_cases hlt : e < i
    · have hx1 : (1 : Int) ≤ 1 + e := by omega
      have hx2 : 1 + (e : Int) ≤ i := by omega
      obtain ⟨r1, r2⟩ := rep_in h.vd _ hx1 hx2
      have hrr := rep_rep h.vd (1 + (e : Int))
      have hck := getD_ckL J (rep J (1 + (e : Int))) i
      have hsz : cnR J (rep J (1 + (e : Int))) i = sz J (rep J (1 + (e : Int))) := (sz_count h.vd _ r1 r2 (rep_root h.vd _)).symm
      rw [hsz] at hck
      have hS1 := same_ok hK h ⟨hx1, hx2⟩ ⟨r1, r2⟩
      have hS2 := same_ok hK h ⟨r1, r2⟩ ⟨hx1, hx2⟩
      rw [hrr, decide_eq_true rfl] at hS1 hS2
      repeat (first | refine zck ?_ | refine zcl ?_ | refine zcm ?_ | refine zcn ?_)
      first | refine zcp (by kernel_rfl) ?_ | refine zcq PP_mixed (by kernel_rfl) (by kernel_rfl) ?_
      repeat' (refine zap rfl ?_; first | ((with_reducible refine zcu ?_); refine zan rfl ?_) | ((with_reducible refine zda ?_); refine zbi rfl rfl (by omega) ?_))
      all_goals refine zch ?_
      all_goals repeat (first | refine zck ?_ | refine zcl ?_ | refine zcm ?_ | refine zcn ?_)
      refine zci rfl ?_
      repeat (first | refine zck ?_ | refine zcl ?_ | refine zcm ?_ | refine zcn ?_)
      first | refine zcp (by kernel_rfl) ?_ | refine zcq PP_mixed (by kernel_rfl) (by kernel_rfl) ?_
      repeat' (refine zap rfl ?_; first | refine zad rfl hmx rfl ?_ | ((with_reducible refine zcu ?_); refine zan rfl ?_) | ((with_reducible refine zcv ?_); refine zan rfl ?_) | ((with_reducible refine zcx ?_); (refine reg_callO [0] hC ((f0 K).bd_find (1 + (e : Int))) (find_ok hK h hx1 hx2) (by omega) (foFind w0 p (f0 K) (f0_ok hK) (1 + (e : Int)) (by omega)) rfl rfl rfl sub_nil ?_; rintro x s3 m3 ⟨rfl, em⟩ hC; rw [em] at hC)) | ((with_reducible refine zcy ?_); refine zao rfl ?_) | ((with_reducible refine zcz ?_); refine zan rfl ?_))
      all_goals refine zch ?_
      all_goals repeat (first | refine zck ?_ | refine zcl ?_ | refine zcm ?_ | refine zcn ?_)
      repeat (first | refine zck ?_ | refine zcl ?_ | refine zcm ?_ | refine zcn ?_)
      first | refine zcp (by kernel_rfl) ?_ | refine zcq PP_mixed (by kernel_rfl) (by kernel_rfl) ?_
      repeat' (refine zap rfl ?_; first | refine zad rfl hmx rfl ?_ | ((with_reducible refine zcu ?_); refine zan rfl ?_) | ((with_reducible refine zcv ?_); refine zan rfl ?_) | ((with_reducible refine zcx ?_); (refine reg_callO [0] hC ((f0 K).bd_sizeOf (1 + (e : Int))) (size_ok hK h hx1 hx2) (by omega) (foSize w0 p (f0 K) (f0_ok hK) (1 + (e : Int)) (by omega)) rfl rfl rfl sub_nil ?_; rintro x s4 m4 ⟨rfl, em4⟩ hC; rw [em4] at hC)) | ((with_reducible refine zcy ?_); refine zao rfl ?_) | ((with_reducible refine zcz ?_); refine zan rfl ?_))
      all_goals refine zch ?_
      all_goals repeat (first | refine zck ?_ | refine zcl ?_ | refine zcm ?_ | refine zcn ?_)
      refine run_slots [(0, spP p), (1, ptr xb), (2, ptr ob), (4, .int .i64 i), (5, .map (some mb)), (13, .int .i64 (1 + (e : Int))), (14, .int .i64 (rep J (1 + (e : Int)))), (16, .int .i64 (sz J (rep J (1 + (e : Int)))))] ⟨rfl, rfl, rfl, rfl, rfl, rfl, rfl, rfl, trivial⟩ (fun junk => ?_)
      repeat (first | refine zck ?_ | refine zcl ?_ | refine zcm ?_ | refine zcn ?_)
      first | refine zcp (by kernel_rfl) ?_ | refine zcq PP_mixed (by kernel_rfl) (by kernel_rfl) ?_
      repeat' (refine zap rfl ?_; first | refine reg_lookup 2 rfl rfl rfl hck ?_ | ((with_reducible refine zct ?_); refine zaj rfl ?_) | ((with_reducible refine zcu ?_); refine zan rfl ?_) | ((with_reducible refine zcw ?_); refine zab 1 rfl rfl rfl ?_) | ((with_reducible refine zda ?_); refine zbc rfl rfl (by omega) ?_) | ((with_reducible refine zdc ?_); refine zbu rfl ?_) | ((with_reducible refine zdd ?_); refine zae 1 rfl rfl rfl rfl rfl rfl rfl ?_))
      all_goals refine zch ?_
      all_goals repeat (first | refine zck ?_ | refine zcl ?_ | refine zcm ?_ | refine zcn ?_)
      refine run_slots [(0, spP p), (1, ptr xb), (2, ptr ob), (4, .int .i64 i), (5, .map (some mb)), (13, .int .i64 (1 + (e : Int))), (14, .int .i64 (rep J (1 + (e : Int))))] ⟨rfl, rfl, rfl, rfl, rfl, rfl, rfl, trivial⟩ (fun junk => ?_)
      repeat (first | refine zck ?_ | refine zcl ?_ | refine zcm ?_ | refine zcn ?_)
      first | refine zcp (by kernel_rfl) ?_ | refine zcq PP_mixed (by kernel_rfl) (by kernel_rfl) ?_
      repeat' (refine zap rfl ?_; first | refine zad rfl hmx rfl ?_ | ((with_reducible refine zcu ?_); refine zan rfl ?_) | ((with_reducible refine zcv ?_); refine zan rfl ?_) | ((with_reducible refine zcx ?_); (refine reg_callO [0] hC ((f0 K).bd_same (1 + (e : Int)) (rep J (1 + (e : Int)))) hS1 (by omega) (foSame w0 p (f0 K) (f0_ok hK) (1 + (e : Int)) (rep J (1 + (e : Int))) (by omega) (by omega)) rfl rfl rfl sub_nil ?_; rintro x s5 m5 ⟨rfl, em5⟩ hC; rw [em5] at hC)) | ((with_reducible refine zcy ?_); refine zao rfl ?_) | ((with_reducible refine zcz ?_); refine zan rfl ?_))
      all_goals refine zch ?_
      all_goals repeat (first | refine zck ?_ | refine zcl ?_ | refine zcm ?_ | refine zcn ?_)
      repeat (first | refine zck ?_ | refine zcl ?_ | refine zcm ?_ | refine zcn ?_)
      first | refine zcp (by kernel_rfl) ?_ | refine zcq PP_mixed (by kernel_rfl) (by kernel_rfl) ?_
      repeat' (refine zap rfl ?_; first | refine zad rfl hmx rfl ?_ | ((with_reducible refine zcu ?_); refine zan rfl ?_) | ((with_reducible refine zcv ?_); refine zan rfl ?_) | ((with_reducible refine zcx ?_); (refine reg_callO [0] hC ((f0 K).bd_same (rep J (1 + (e : Int))) (1 + (e : Int))) hS2 (by omega) (foSame w0 p (f0 K) (f0_ok hK) (rep J (1 + (e : Int))) (1 + (e : Int)) (by omega) (by omega)) rfl rfl rfl sub_nil ?_; rintro x s6 m6 ⟨rfl, em6⟩ hC; rw [em6] at hC)) | ((with_reducible refine zcy ?_); refine zao rfl ?_) | ((with_reducible refine zcz ?_); refine zan rfl ?_))
      all_goals refine zch ?_
      all_goals repeat (first | refine zck ?_ | refine zcl ?_ | refine zcm ?_ | refine zcn ?_)
      refine run_slots [(0, spP p), (1, ptr xb), (2, ptr ob), (4, .int .i64 i), (5, .map (some mb)), (13, .int .i64 (1 + (e : Int))), (18, .bool true), (20, .bool true)] ⟨rfl, rfl, rfl, rfl, rfl, rfl, rfl, rfl, trivial⟩ (fun junk => ?_)
      repeat' (first | refine zcp (by kernel_rfl) ?_ | refine zcn ?_ | (refine zap rfl ?_; first | ((with_reducible refine zct ?_); refine zaj rfl ?_) | ((with_reducible refine zcu ?_); refine zan rfl ?_) | ((with_reducible refine zcv ?_); refine zan rfl ?_) | ((with_reducible refine zcw ?_); refine zab 1 rfl rfl rfl ?_) | ((with_reducible refine zda ?_); refine zau rfl rfl (by omega) ?_) | ((with_reducible refine zdc ?_); refine zbu rfl ?_) | ((with_reducible refine zdd ?_); refine zae 1 rfl rfl rfl rfl rfl rfl rfl ?_)) | refine zch ?_)
      exact cut_end ⟨rfl, (e + 1, _), ⟨rfl, rfl, rfl, rfl, rfl, congrArg (Value.int .i64) (by dsimp only; omega), trivial⟩, ⟨rfl, hC, by dsimp only; omega⟩, by dsimp only; omega⟩
    · have hle : e = i := by omega
      have hlen := len_all h.vd
      repeat' (first | refine zck ?_ | refine zcp (by kernel_rfl) ?_ | (refine zap rfl ?_; first | ((with_reducible refine zcu ?_); refine zan rfl ?_) | ((with_reducible refine zda ?_); refine zbj rfl rfl (by omega) ?_)) | refine zch ?_ | refine zcj rfl ?_)
      refine cut_exit rfl rfl ?_
      repeat' (first | refine zcp (by kernel_rfl) ?_ | (refine zap rfl ?_; first | refine zad rfl hmx rfl ?_ | (refine reg_len_map 2 rfl rfl ?_; rw [hlen]) | ((with_reducible refine zct ?_); refine zaj rfl ?_) | ((with_reducible refine zcu ?_); refine zan rfl ?_) | ((with_reducible refine zcw ?_); refine zab 1 rfl rfl rfl ?_) | ((with_reducible refine zcx ?_); (refine reg_callO [0] hC (Pg.bd_gt0 ((f0 K).root + 1)) (sets_ok h) (by omega) (foSets w0 p (f0 K) (f0_ok hK)) rfl rfl rfl sub_nil ?_; rintro x s3 m3 ⟨rfl, em⟩ hC; rw [em] at hC)) | ((with_reducible refine zcy ?_); refine zao rfl ?_) | ((with_reducible refine zda ?_); refine zbc rfl rfl (by omega) ?_) | ((with_reducible refine zdc ?_); refine zbu rfl ?_) | ((with_reducible refine zdd ?_); refine zae 1 rfl rfl rfl rfl rfl rfl rfl ?_)) | refine zch ?_)
      exact run_nil (leaves_nil (ends_take [0, 0] rfl (ends_none rfl ⟨rfl, _, rfl, rfl, hC⟩)))
end
end Go.Proofs.Ytpcnbaddkblbhaa

/- The law's ForestSets. -/
namespace Go.Proofs.Ytpcnbaddkblbhaa
open Go.Vc Sim
set_option maxHeartbeats 8000000
theorem sets_spec (w0 : World) (nn : Int) (hn : u8P nn) (v : Value) (l : List Cl) (hv : InSl w0 Cl.cells 3 v l) (hok : ∀ x ∈ l, x.ok) :
    FnE PP w0 [] 5 [.int .u8 nn, v] [] (.bool true) [] := by
  have hr := hv.rd (sh := [])
  obtain ⟨a, cap, rfl, hmax, hmem⟩ := hv
  have hG := great_spec w0 a l.length cap
  have hA := awake_spec w0
  by_cases hl : (l.length : Int) > 100
  · rw [decide_eq_true hl] at hG
    refine fn_of_run en5 fn5 rfl rfl rfl ?_
    repeat' (first | refine zck ?_ | refine zcp (by kernel_rfl) ?_ | (refine zap rfl ?_; first | ((with_reducible refine zcu ?_); refine zan rfl ?_) | ((with_reducible refine zcv ?_); refine zan rfl ?_) | ((with_reducible refine zcx ?_); first | refine zah [] hG rfl rfl rfl sub_nil rfl ?_ | refine zah [] hA rfl rfl rfl sub_nil rfl ?_)) | refine zch ?_ | refine zci rfl ?_)
    exact ret_tmp1 rfl ⟨rfl, rfl⟩
  · rw [decide_eq_false hl] at hG
    have hP := played_spec w0 [] nn hn _ l hr hok (by omega)
    have hK : 0 ≤ nn % 39 ∧ nn % 39 ≤ 38 := by omega
    generalize nn % 39 = K at hK hP
    generalize plJ K l l.length = kJ at hP
    obtain ⟨k, J⟩ := kJ
    refine fn_of_run en5 fn5 rfl rfl rfl ?_
    repeat (first | refine zck ?_ | refine zcl ?_ | refine zcm ?_ | refine zcn ?_)
    first | refine zcp (by kernel_rfl) ?_ | refine zcq PP_mixed (by kernel_rfl) (by kernel_rfl) ?_
    repeat' (refine zap rfl ?_; first | ((with_reducible refine zcv ?_); refine zan rfl ?_))
    all_goals refine zch ?_
    all_goals repeat (first | refine zck ?_ | refine zcl ?_ | refine zcm ?_ | refine zcn ?_)
    repeat (first | refine zck ?_ | refine zcl ?_ | refine zcm ?_ | refine zcn ?_)
    first | refine zcp (by kernel_rfl) ?_ | refine zcq PP_mixed (by kernel_rfl) (by kernel_rfl) ?_
    repeat' (refine zap rfl ?_; first | ((with_reducible refine zcu ?_); refine zan rfl ?_) | ((with_reducible refine zcx ?_); refine zah [] hG rfl rfl rfl sub_nil rfl ?_))
    all_goals refine zch ?_
    all_goals repeat (first | refine zck ?_ | refine zcl ?_ | refine zcm ?_ | refine zcn ?_)
    refine zcj rfl ?_
    repeat (first | refine zck ?_ | refine zcl ?_ | refine zcm ?_ | refine zcn ?_ | refine zco ?_)
    repeat (first | refine zck ?_ | refine zcl ?_ | refine zcm ?_ | refine zcn ?_)
    first | refine zcp (by kernel_rfl) ?_ | refine zcq PP_mixed (by kernel_rfl) (by kernel_rfl) ?_
    repeat' (refine zap rfl ?_; first | (refine zai [] hP rfl rfl rfl sub_nil ?_; rintro v Γ' ⟨⟨m, r, ad, hM⟩, wb, kn, rfl, rfl, hW⟩) | ((with_reducible refine zcu ?_); refine zan rfl ?_) | ((with_reducible refine zcv ?_); refine zan rfl ?_) | ((with_reducible refine zcz ?_); refine zan rfl ?_) | ((with_reducible refine zdd ?_); refine zae 4 rfl rfl rfl rfl rfl rfl rfl ?_) | ((with_reducible refine zdh ?_); refine zar (fun nb => ?_)))
    all_goals refine zch ?_
    all_goals repeat (first | refine zck ?_ | refine zcl ?_ | refine zcm ?_ | refine zcn ?_)
    revert nb; intro xb
    refine run_share [0] rfl ?_
    refine run_share [3] rfl ?_
    refine run_take [] rfl ?_
    repeat (first | refine zck ?_ | refine zcl ?_ | refine zcm ?_ | refine zcn ?_)
    first | refine zcp (by kernel_rfl) ?_ | refine zcq PP_mixed (by kernel_rfl) (by kernel_rfl) ?_
    repeat' (refine zap rfl ?_; first | ((with_reducible refine zcu ?_); refine zan rfl ?_) | ((with_reducible refine zdb ?_); refine zbx rfl ?_))
    all_goals refine zch ?_
    all_goals repeat (first | refine zck ?_ | refine zcl ?_ | refine zcm ?_ | refine zcn ?_)
    refine zcj rfl ?_
    repeat (first | refine zck ?_ | refine zcl ?_ | refine zcm ?_ | refine zcn ?_ | refine zco ?_)
    refine run_slots [(5, ptr xb)] ⟨rfl, trivial⟩ (fun junk => ?_)
    repeat (first | refine zck ?_ | refine zcl ?_ | refine zcm ?_ | refine zcn ?_)
    first | refine zcp (by kernel_rfl) ?_ | refine zcq PP_mixed (by kernel_rfl) (by kernel_rfl) ?_
    repeat' (refine zap rfl ?_; first | ((with_reducible refine zdd ?_); refine zae 0 rfl rfl rfl rfl rfl rfl rfl ?_) | ((with_reducible refine zdh ?_); refine zar (fun nb => ?_)))
    all_goals refine zch ?_
    all_goals repeat (first | refine zck ?_ | refine zcl ?_ | refine zcm ?_ | refine zcn ?_)
    revert nb; intro ob
    have hD := done_mem (σ := Unit) w0 [(xb, .cells (List.toArray (stC wb K r k J)) 36 (0, 0)), (wb, mapI (knM kn))] wb kn 368 l.length m (by omega) hW 24 (List.toArray [ptr xb, ptr ob]) (okB ob true) (fun _ => okB ob true) (fun _ => m)
      (fun p s hC _ => (sets1_spec w0 _ p xb ob wb hK r kn _ hW s hC hM (.head _) (.tail _ (.head _))).mono (fun v Γ ⟨s', e1, e2, e3⟩ => ⟨(), s', 0, e1, e2, by decide, e3⟩))
    repeat (first | refine zck ?_ | refine zcl ?_ | refine zcm ?_ | refine zcn ?_)
    first | refine zcp (by kernel_rfl) ?_ | refine zcq PP_mixed (by kernel_rfl) (by kernel_rfl) ?_
    repeat' (refine zap rfl ?_; first | ((with_reducible refine zcw ?_); refine zaa 0 rfl rfl rfl ?_) | ((with_reducible refine zcx ?_); (refine zai [0] hD rfl rfl rfl (fun p hp => by rcases List.mem_cons.1 hp with e | hp <;> first | (subst e; exact .tail _ (.head _)) | exact hp) ?_; rintro v Γ' ⟨_, nb, wa, wl, wc, kn2, rfl, rfl, hW2⟩)) | ((with_reducible refine zcy ?_); refine zao rfl ?_) | refine zan rfl ?_)
    all_goals refine zch ?_
    all_goals repeat (first | refine zck ?_ | refine zcl ?_ | refine zcm ?_ | refine zcn ?_)
    repeat' (first | refine zcp (by kernel_rfl) ?_ | (refine zap rfl ?_; first | ((with_reducible refine zct ?_); refine zaj rfl ?_) | ((with_reducible refine zcu ?_); refine zan rfl ?_) | ((with_reducible refine zcv ?_); refine zan rfl ?_) | ((with_reducible refine zcw ?_); refine zab 1 rfl rfl rfl ?_) | ((with_reducible refine zcx ?_); refine zah [] hA rfl rfl rfl sub_nil rfl ?_) | ((with_reducible refine zdc ?_); refine zbu rfl ?_)) | refine zch ?_)
    exact run_ret (leaves_nil (ends_take [] rfl (ends_one rfl rfl ⟨rfl, rfl, rfl⟩)))
end Go.Proofs.Ytpcnbaddkblbhaa

/- The law's Asks$1: one operation. -/
namespace Sim.Fo
open Pg
variable (F : Fo)
def doA (d X Y : Int) : Pg Bool :=
  if d % 4 = 0 then F.find X >>= fun _ => pure false
  else if d % 4 = 1 then F.same X Y >>= fun _ => pure false
  else if d % 4 = 2 then F.union X Y >>= fun r => pure r.1
  else F.undo >>= fun r => pure r.1
theorem bd_doA (d X Y : Int) : Bd 5 (F.doA d X Y) := by
  unfold doA
  split
  · exact (bd_then (F.bd_find X) (fun _ => bd_pure _) (by decide)).mono (Nat.zero_le 5)
  · split
    · exact (bd_then (F.bd_same X Y) (fun _ => bd_pure _) (by decide)).mono (Nat.zero_le 5)
    · split
      · exact bd_then (F.bd_union X Y) (fun _ => bd_pure _) (by decide)
      · exact bd_then F.bd_undo (fun _ => bd_pure _) (by decide)
theorem qt_tail {α : Type} {φ : Bool → Prop} {f : α → Bool} : ∀ {g : Pg α}, Qt (fun r => φ (f r)) g → Qt φ (g >>= fun r => pure (f r))
  | .ret _, _ => trivial
  | .get _ k, h => fun v => qt_tail (g := k v) (h v)
  | .put _ _ k, h => by
    have key : ∀ {g : Pg α}, All (fun r => ¬ φ (f r)) g → All (fun r => ¬ φ r) (g >>= fun r => pure (f r)) := fun h => all_bind (φ := fun r => ¬ φ r) (ψ := fun r => ¬ φ (f r)) (f := fun r => pure (f r)) (fun a ha => all_pure (φ := fun r => ¬ φ r) (a := f a) ha) h
    exact key (g := k) h
  | .mark k, h => fun v => qt_tail (g := k v) (h v)
  | .back _ k, h => qt_tail (g := k) h
theorem qt_doA (d X Y : Int) : Qt (fun r => r = false) (F.doA d X Y) := by
  unfold doA
  split
  · exact qt_bind (fun _ => qt_bd (bd_pure _)) (F.bd_find X)
  · split
    · exact qt_bind (fun _ => qt_bd (bd_pure _)) (F.bd_same X Y)
    · split
      · exact qt_tail (F.qt_union X Y)
      · exact qt_tail F.qt_undo
end Sim.Fo
namespace Go.Proofs.Ytpcnbaddkblbhaa
open Go.Vc Sim
set_option maxHeartbeats 8000000
section
variable {K : Int} {k : Nat} {J : Jn}
theorem asks1_spec (w0 : World) (sh : Shared) (p cb xb wb : Nat) (hK : 0 ≤ K ∧ K ≤ 38) (r : Rl) (d X Y : Int) (hd : 0 ≤ d ∧ d ≤ 255) (hX : X ≤ 9223372036854775807) (hY : Y ≤ 9223372036854775807) (hcb : (cb, clC d X Y) ∈ sh) (hxb : (xb, .cells (List.toArray (stC wb K r k J)) 36 (0, 0)) ∈ sh) :
    FnG w0 sh 28 [spP p, ptr cb, ptr xb] p ((f0 K).doA d X Y) .bool := by
  have hd4 : d.tmod 4 = d % 4 := Int.tmod_eq_emod_of_nonneg hd.1
  have hmx : ∀ hF Γ w, Sh sh hF → St w0 hF Γ w → w.heap[xb]? = some (.cells (List.toArray (stC wb K r k J)) 36 (0, 0)) := fun hF Γ w h1 h2 => (h2.frame (h1 _ hxb)).2
  have hmc : ∀ hF Γ w, Sh sh hF → St w0 hF Γ w → w.heap[cb]? = some (clC d X Y) := fun hF Γ w h1 h2 => (h2.frame (h1 _ hcb)).2
  intro s hS
  have hG := At.start hS
  generalize Pg.run _ s = R at hG ⊢
  unfold Fo.doA at hG
  refine fn_of_run en28 fn28 rfl rfl rfl ?_
  repeat (first | refine zck ?_ | refine zcl ?_ | refine zcm ?_ | refine zcn ?_)
  first | refine zcp (by kernel_rfl) ?_ | refine zcq PP_mixed (by kernel_rfl) (by kernel_rfl) ?_
  repeat' (refine zap rfl ?_; first | ((with_reducible refine zcv ?_); refine zan rfl ?_))
  all_goals refine zch ?_
  all_goals repeat (first | refine zck ?_ | refine zcl ?_ | refine zcm ?_ | refine zcn ?_)
  repeat (first | refine zck ?_ | refine zcl ?_ | refine zcm ?_ | refine zcn ?_)
  first | refine zcp (by kernel_rfl) ?_ | refine zcq PP_mixed (by kernel_rfl) (by kernel_rfl) ?_
  repeat' (refine zap rfl ?_; first | ((with_reducible refine zcv ?_); refine zan rfl ?_))
  all_goals refine zch ?_
  all_goals repeat (first | refine zck ?_ | refine zcl ?_ | refine zcm ?_ | refine zcn ?_)
  repeat (first | refine zck ?_ | refine zcl ?_ | refine zcm ?_ | refine zcn ?_)
  first | refine zcp (by kernel_rfl) ?_ | refine zcq PP_mixed (by kernel_rfl) (by kernel_rfl) ?_
  repeat' (refine zap rfl ?_; first | (refine reg_rem rfl rfl (by decide) ?_; rw [hd4]) | refine zad rfl hmc rfl ?_ | ((with_reducible refine zcy ?_); refine zao rfl ?_))
  all_goals refine zch ?_
  all_goals repeat (first | refine zck ?_ | refine zcl ?_ | refine zcm ?_ | refine zcn ?_)
  by_cases c0 : d % 4 = 0
  · rw [if_pos c0] at hG
    repeat' (first | refine zck ?_ | refine zcp (by kernel_rfl) ?_ | refine zcn ?_ | (refine zap rfl ?_; first | refine zad rfl hmx rfl ?_ | refine zad rfl hmc rfl ?_ | ((with_reducible refine zcu ?_); refine zan rfl ?_) | ((with_reducible refine zcv ?_); refine zan rfl ?_) | ((with_reducible refine zcx ?_); refine reg_callG [0] hG (foFind w0 p (f0 K) (f0_ok hK) X hX) rfl rfl rfl sub_nil (fun u s hG => ?_)) | ((with_reducible refine zcy ?_); refine zao rfl ?_) | ((with_reducible refine zda ?_); refine zbc rfl rfl (by omega) ?_)) | refine zch ?_ | refine zci rfl ?_)
    rw [hG.done]
    exact ret_tmp1 rfl ⟨rfl, rfl⟩
  rw [if_neg c0] at hG
  by_cases c1 : d % 4 = 1
  · rw [if_pos c1] at hG
    repeat' (first | refine zck ?_ | refine zcp (by kernel_rfl) ?_ | refine zcn ?_ | (refine zap rfl ?_; first | refine zad rfl hmx rfl ?_ | refine zad rfl hmc rfl ?_ | ((with_reducible refine zcu ?_); refine zan rfl ?_) | ((with_reducible refine zcv ?_); refine zan rfl ?_) | ((with_reducible refine zcx ?_); refine reg_callG [0] hG (foSame w0 p (f0 K) (f0_ok hK) X Y hX hY) rfl rfl rfl sub_nil (fun u s hG => ?_)) | ((with_reducible refine zcy ?_); refine zao rfl ?_) | ((with_reducible refine zda ?_); first | refine zbc rfl rfl (by omega) ?_ | refine zbd rfl rfl (by omega) ?_)) | refine zch ?_ | refine zci rfl ?_ | refine zcj rfl ?_)
    rw [hG.done]
    exact ret_tmp1 rfl ⟨rfl, rfl⟩
  rw [if_neg c1] at hG
  by_cases c2 : d % 4 = 2
  · rw [if_pos c2] at hG
    repeat' (first | refine zck ?_ | refine zcp (by kernel_rfl) ?_ | refine zcn ?_ | (refine zap rfl ?_; first | refine zad rfl hmx rfl ?_ | refine zad rfl hmc rfl ?_ | ((with_reducible refine zcu ?_); refine zan rfl ?_) | ((with_reducible refine zcv ?_); refine zan rfl ?_) | ((with_reducible refine zcx ?_); refine reg_callG [0] hG (foUnion w0 p (f0 K) (f0_ok hK) X Y hX hY) rfl rfl rfl sub_nil (fun u s hG => ?_)) | ((with_reducible refine zcy ?_); refine zao rfl ?_) | ((with_reducible refine zcz ?_); refine zan rfl ?_) | ((with_reducible refine zda ?_); first | refine zbc rfl rfl (by omega) ?_ | refine zbd rfl rfl (by omega) ?_)) | refine zch ?_ | refine zci rfl ?_ | refine zcj rfl ?_)
    rw [hG.done]
    exact ret_tmp1 rfl ⟨rfl, rfl⟩
  rw [if_neg c2] at hG
  repeat' (first | refine zck ?_ | refine zcp (by kernel_rfl) ?_ | refine zcn ?_ | (refine zap rfl ?_; first | refine zad rfl hmx rfl ?_ | ((with_reducible refine zcu ?_); refine zan rfl ?_) | ((with_reducible refine zcv ?_); refine zan rfl ?_) | ((with_reducible refine zcx ?_); refine reg_callG [0] hG (foUndo w0 p (f0 K) (f0_ok hK)) rfl rfl rfl sub_nil (fun u s hG => ?_)) | ((with_reducible refine zcy ?_); refine zao rfl ?_) | ((with_reducible refine zcz ?_); refine zan rfl ?_) | ((with_reducible refine zda ?_); refine zbd rfl rfl (by omega) ?_)) | refine zch ?_ | refine zcj rfl ?_)
  rw [hG.done]
  exact ret_tmp1 rfl ⟨rfl, rfl⟩
end
end Go.Proofs.Ytpcnbaddkblbhaa

/- The law's ForestAsks. -/
namespace Sim
open Go Go.Vc
variable {K : Int} {m : Int → Int} {k : Nat} {J : Jn} {ad : Nat → Int}
theorem doA_ok (hK : 0 ≤ K ∧ K ≤ 38) (h : Mm K m k (nC k) (tC k) J ad) (d X Y : Int) : Pg.Ok 368 ((f0 K).doA d X Y) m fun _ _ => True := by
  have hf : Pg.Ok 368 ((f0 K).find X) m fun _ _ => True := by
    by_cases hx : 1 ≤ X ∧ X ≤ k
    · exact (find_ok hK h hx.1 hx.2).mono fun _ _ _ => trivial
    · exact (find_none h hx).mono fun _ _ _ => trivial
  have hs : Pg.Ok 368 ((f0 K).same X Y) m fun _ _ => True := by
    by_cases hx : (1 ≤ X ∧ X ≤ k) ∧ (1 ≤ Y ∧ Y ≤ k)
    · exact (same_ok hK h hx.1 hx.2).mono fun _ _ _ => trivial
    · exact (same_none h hx).mono fun _ _ _ => trivial
  have hu : Pg.Ok 368 ((f0 K).union X Y) m fun _ _ => True := by
    by_cases hx : (1 ≤ X ∧ X ≤ k) ∧ (1 ≤ Y ∧ Y ≤ k)
    · by_cases he : rep J X = rep J Y
      · exact (union_same hK h hx.1 hx.2 he).mono fun _ _ _ => trivial
      · exact (union_join hK h hx.1 hx.2 he).mono fun _ _ _ => trivial
    · exact (union_none h hx).mono fun _ _ _ => trivial
  have hd : Pg.Ok 368 (f0 K).undo m fun _ _ => True := by
    cases J with
    | nil => exact (undo_none h).mono fun _ _ _ => trivial
    | cons ba J => exact (undo_ok hK h).mono fun _ _ _ => trivial
  unfold Fo.doA
  refine Pg.Ok.ite (fun _ => Pg.Ok.bind _ hf fun _ _ _ => Pg.Ok.pure trivial) fun _ => Pg.Ok.ite (fun _ => Pg.Ok.bind _ hs fun _ _ _ => Pg.Ok.pure trivial) fun _ => Pg.Ok.ite (fun _ => Pg.Ok.bind _ hu fun _ _ _ => Pg.Ok.pure trivial) fun _ => Pg.Ok.bind _ hd fun _ _ _ => Pg.Ok.pure trivial
/-- The two runs of an operation. -/
theorem doA_two (hK : 0 ≤ K ∧ K ≤ 38) (h : Mm K m k (nC k) (tC k) J ad) (d X Y : Int) {T : Int} {kn kn1 : List (Int × Wd)} (hW : WM 368 T kn m) (hk : ∀ a, lookW kn1 a = lookW kn a) :
    let s0 : Sp := ⟨kn1, [], [], 0, false⟩
    let s1 := (Pg.run ((f0 K).doA d X Y) s0).2
    Pg.Fits ((f0 K).doA d X Y) s0 ∧ s1.ended = false ∧ s1.rd.length ≤ 4096 ∧ (∀ a ∈ s1.rd, ∃ w, lookW kn a = some w) ∧ s1.puts.length ≤ 5 ∧
      ((Pg.run ((f0 K).doA d X Y) s0).1 = false → s1.puts = []) ∧
      ∀ kn2 : List (Int × Wd), (∀ a ∈ s1.rd, lookW kn2 a = lookW kn a) →
        Pg.Fits ((f0 K).doA d X Y) ⟨kn2, [], [], 0, false⟩ ∧ (Pg.run ((f0 K).doA d X Y) ⟨kn2, [], [], 0, false⟩).1 = (Pg.run ((f0 K).doA d X Y) s0).1 ∧ (Pg.run ((f0 K).doA d X Y) ⟨kn2, [], [], 0, false⟩).2.ended = false ∧ (Pg.run ((f0 K).doA d X Y) ⟨kn2, [], [], 0, false⟩).2.puts = s1.puts := by
  intro s0 s1
  have hC := Cu.start hW (s := s0) rfl rfl rfl hk
  have hb := (f0 K).bd_doA d X Y
  obtain ⟨h1, m', h2, _⟩ := hC.run hb (by decide) (doA_ok hK h d X Y)
  have hks : s1.kn = kn1 := h2.vw.kn
  have hin : ∀ a ∈ s1.rd, ∃ w, lookW kn a = some w := fun a ha => by
    have := h2.wf.rk a ha
    rw [h2.vw.kn, show s0.kn = kn1 from rfl, hk] at this
    exact Option.ne_none_iff_exists'.1 this
  refine ⟨h1, h2.vw.live, nodup_bd 4096 s1.rd h2.wf.nd (fun x hx => ?_), hin, ?_, fun hf => Pg.run_qt _ s0 ((f0 K).qt_doA d X Y) rfl hf, fun kn2 hk2 => ?_⟩
  · obtain ⟨w, hw⟩ := hin x hx
    have := (hW.ok.wd x w hw).2.2.2
    omega
  · have := Pg.run_len ((f0 K).doA d X Y) 5 s0 hb
    exact this
  · have ht : Pg.Twin s1.rd s0 ⟨kn2, [], [], 0, false⟩ := ⟨rfl, rfl, rfl, rfl, fun a ha => (hk2 a ha).trans (hk a).symm⟩
    obtain ⟨g1, g2⟩ := Pg.run_twin ((f0 K).doA d X Y) ht h2.vw.live (fun a ha => ha)
    exact ⟨Pg.fits_of _ 5 _ hb (show 0 + 5 ≤ 1099511627776 by decide), g1, g2.e2, g2.puts⟩
end Sim

/- The law's ForestAsks: the walk. -/
namespace Sim
open Go Go.Vc
theorem writes_puts {s t : Sp} (h : t.puts = s.puts) : t.writes = s.writes := by unfold Sp.writes; rw [h]
theorem known_step {kn kq : List (Int × Wd)} {l : List Int} {i : Nat} {x : Int} (h : ∀ a, lookW kq a = if a ∈ l.take i then lookW kn a else none) (hx : l[i]? = some x) {w : Wd} (hw : lookW kn x = some w) :
    ∀ a, lookW (insW kq x w) a = if a ∈ l.take (i + 1) then lookW kn a else none := by
  intro a
  rw [look_insW, List.take_add_one, hx, h a]
  by_cases ha : x = a
  · subst ha; simp [hw]
  · by_cases hm : a ∈ l.take i
    · simp [ha, hm]
    · rw [if_neg ha, if_neg hm, if_neg]
      simp only [List.mem_append, Option.toList_some, List.mem_singleton]
      exact fun hh => hh.elim hm fun e => ha e.symm
end Sim
namespace Go.Proofs.Ytpcnbaddkblbhaa
open Go.Vc Sim
set_option maxHeartbeats 8000000
theorem asksA_spec (w0 : World) (nn : Int) (hn : u8P nn) (v : Value) (l : List Cl) (hv : InSl w0 Cl.cells 3 v l) (hok : ∀ x ∈ l, x.ok) (c : Cl) (hc : c.ok) :
    FnE PP w0 [] 6 [.int .u8 nn, v, .agg (List.toArray c.cells)] [] (.bool true) [] := by
  have hr := hv.rd (sh := [])
  obtain ⟨a, cap, rfl, hmax, hmem⟩ := hv
  have hG := great_spec w0 a l.length cap
  have hA := awake_spec w0
  by_cases hl : (l.length : Int) > 100
  · rw [decide_eq_true hl] at hG
    refine fn_of_run en6 fn6 rfl rfl rfl ?_
    repeat' (first | refine zck ?_ | refine zcp (by kernel_rfl) ?_ | (refine zap rfl ?_; first | ((with_reducible refine zcu ?_); refine zan rfl ?_) | ((with_reducible refine zcv ?_); refine zan rfl ?_) | ((with_reducible refine zcx ?_); first | refine zah [] hG rfl rfl rfl sub_nil rfl ?_ | refine zah [] hA rfl rfl rfl sub_nil rfl ?_) | ((with_reducible refine zdg ?_); refine zaq (cs := [_, _, _]) rfl (fun nb => ?_))) | refine zch ?_ | refine zci rfl ?_)
    exact run_ret (leaves_nil (ends_take [] rfl (ends_one rfl rfl ⟨rfl, rfl, rfl⟩)))
  · rw [decide_eq_false hl] at hG
    have hP := played_spec w0 [] nn hn _ l hr hok (by omega)
    have hK : 0 ≤ nn % 39 ∧ nn % 39 ≤ 38 := by omega
    generalize nn % 39 = K at hK hP
    generalize plJ K l l.length = kJ at hP
    obtain ⟨k, J⟩ := kJ
    refine fn_of_run en6 fn6 rfl rfl rfl ?_
    repeat (first | refine zck ?_ | refine zcl ?_ | refine zcm ?_ | refine zcn ?_)
    first | refine zcp (by kernel_rfl) ?_ | refine zcq PP_mixed (by kernel_rfl) (by kernel_rfl) ?_
    repeat' (refine zap rfl ?_; first | ((with_reducible refine zcv ?_); refine zan rfl ?_) | ((with_reducible refine zdg ?_); refine zaq (cs := [_, _, _]) rfl (fun nb => ?_)))
    all_goals refine zch ?_
    all_goals repeat (first | refine zck ?_ | refine zcl ?_ | refine zcm ?_ | refine zcn ?_)
    revert nb; intro cb
    refine run_share [0] rfl ?_
    repeat (first | refine zck ?_ | refine zcl ?_ | refine zcm ?_ | refine zcn ?_)
    first | refine zcp (by kernel_rfl) ?_ | refine zcq PP_mixed (by kernel_rfl) (by kernel_rfl) ?_
    repeat' (refine zap rfl ?_; first | ((with_reducible refine zcu ?_); refine zan rfl ?_) | ((with_reducible refine zcx ?_); refine zah [] hG rfl rfl rfl sub_nil rfl ?_))
    all_goals refine zch ?_
    all_goals repeat (first | refine zck ?_ | refine zcl ?_ | refine zcm ?_ | refine zcn ?_)
    refine zcj rfl ?_
    repeat (first | refine zck ?_ | refine zcl ?_ | refine zcm ?_ | refine zcn ?_ | refine zco ?_)
    repeat (first | refine zck ?_ | refine zcl ?_ | refine zcm ?_ | refine zcn ?_)
    first | refine zcp (by kernel_rfl) ?_ | refine zcq PP_mixed (by kernel_rfl) (by kernel_rfl) ?_
    repeat' (refine zap rfl ?_; first | (refine zai [] hP rfl rfl rfl sub_nil ?_; rintro v Γ' ⟨⟨m, r, ad, hM⟩, wb, kn, rfl, rfl, hW⟩) | ((with_reducible refine zcu ?_); refine zan rfl ?_) | ((with_reducible refine zcv ?_); refine zan rfl ?_) | ((with_reducible refine zcz ?_); refine zan rfl ?_) | ((with_reducible refine zdd ?_); refine zae 4 rfl rfl rfl rfl rfl rfl rfl ?_) | ((with_reducible refine zdh ?_); refine zar (fun nb => ?_)))
    all_goals refine zch ?_
    all_goals repeat (first | refine zck ?_ | refine zcl ?_ | refine zcm ?_ | refine zcn ?_)
    revert nb; intro xb
    refine run_share [0] rfl ?_
    refine run_share [3] rfl ?_
    refine run_take [] rfl ?_
    repeat (first | refine zck ?_ | refine zcl ?_ | refine zcm ?_ | refine zcn ?_)
    first | refine zcp (by kernel_rfl) ?_ | refine zcq PP_mixed (by kernel_rfl) (by kernel_rfl) ?_
    repeat' (refine zap rfl ?_; first | ((with_reducible refine zcu ?_); refine zan rfl ?_) | ((with_reducible refine zdb ?_); refine zbx rfl ?_))
    all_goals refine zch ?_
    all_goals repeat (first | refine zck ?_ | refine zcl ?_ | refine zcm ?_ | refine zcn ?_)
    refine zcj rfl ?_
    repeat (first | refine zck ?_ | refine zcl ?_ | refine zcm ?_ | refine zcn ?_ | refine zco ?_)
    refine run_slots [(5, ptr cb), (7, ptr xb)] ⟨rfl, rfl, trivial⟩ (fun junk => ?_)
    repeat (first | refine zck ?_ | refine zcl ?_ | refine zcm ?_ | refine zcn ?_)
    first | refine zcp (by kernel_rfl) ?_ | refine zcq PP_mixed (by kernel_rfl) (by kernel_rfl) ?_
    repeat' (refine zap rfl ?_; first | ((with_reducible refine zcv ?_); refine zan rfl ?_) | refine zan rfl ?_)
    all_goals refine zch ?_
    all_goals repeat (first | refine zck ?_ | refine zcl ?_ | refine zcm ?_ | refine zcn ?_)
    have hN := new_sh w0 wb kn (fun q a w h => ⟨keys_look kn hW.ok.nd q a w h, (hW.ok.wd a w (keys_look kn hW.ok.nd q a w h)).1⟩)
    repeat (first | refine zck ?_ | refine zcl ?_ | refine zcm ?_ | refine zcn ?_)
    first | refine zcp (by kernel_rfl) ?_ | refine zcq PP_mixed (by kernel_rfl) (by kernel_rfl) ?_
    repeat' (refine zap rfl ?_; first | ((with_reducible refine zcv ?_); refine zan rfl ?_) | ((with_reducible refine zcw ?_); refine zaa 0 rfl rfl rfl ?_) | ((with_reducible refine zcx ?_); (refine zai [] hN rfl rfl rfl (fun p hp => by rw [List.mem_singleton.1 hp]; exact .tail _ (.head _)) ?_; rintro v Γ' ⟨p1, kn1, rfl, rfl, hk1⟩)) | ((with_reducible refine zcy ?_); refine zao rfl ?_))
    all_goals refine zch ?_
    all_goals repeat (first | refine zck ?_ | refine zcl ?_ | refine zcm ?_ | refine zcn ?_)
    obtain ⟨f1, f2, f3, f4, f5, f6, f7⟩ := doA_two hK hM c.d c.X c.Y hW hk1
    have hS1 := fun sh hcb hxb => asks1_spec w0 sh p1 cb xb wb hK r (J := J) (k := k) c.d c.X c.Y hc.1 hc.2.1.2 hc.2.2.2 hcb hxb _ f1
    generalize hR1 : Pg.run ((f0 K).doA c.d c.X c.Y) ⟨kn1, [], [], 0, false⟩ = R1 at hS1 f2 f3 f4 f5 f6 f7
    obtain ⟨v1, s1⟩ := R1
    dsimp only at hS1 f2 f3 f4 f5 f6 f7
    repeat (first | refine zck ?_ | refine zcl ?_ | refine zcm ?_ | refine zcn ?_)
    first | refine zcp (by kernel_rfl) ?_ | refine zcq PP_mixed (by kernel_rfl) (by kernel_rfl) ?_
    repeat' (refine zap rfl ?_; first | ((with_reducible refine zcu ?_); refine zan rfl ?_) | ((with_reducible refine zcv ?_); refine zan rfl ?_) | ((with_reducible refine zcx ?_); refine zah [0] (hS1 _ (.tail _ (.tail _ (.head _))) (.head _)) rfl rfl rfl (fun _ h => h) rfl ?_))
    all_goals refine zch ?_
    all_goals repeat (first | refine zck ?_ | refine zcl ?_ | refine zcm ?_ | refine zcn ?_)
    repeat (first | refine zck ?_ | refine zcl ?_ | refine zcm ?_ | refine zcn ?_)
    first | refine zcp (by kernel_rfl) ?_ | refine zcq PP_mixed (by kernel_rfl) (by kernel_rfl) ?_
    repeat' (refine zap rfl ?_; first | ((with_reducible refine zcv ?_); refine zan rfl ?_) | refine zcc (fun nb => ?_))
    all_goals refine zch ?_
    all_goals repeat (first | refine zck ?_ | refine zcl ?_ | refine zcm ?_ | refine zcn ?_)
    revert nb; intro mb
    have hRd := rds_spec w0 p1 s1 (by omega)
    have hrl : (s1.rd.mergeSort leI).length = s1.rd.length := List.length_mergeSort _
    have hrm : ∀ x, x ∈ s1.rd.mergeSort leI ↔ x ∈ s1.rd := fun x => List.mem_mergeSort
    repeat (first | refine zck ?_ | refine zcl ?_ | refine zcm ?_ | refine zcn ?_)
    first | refine zcp (by kernel_rfl) ?_ | refine zcq PP_mixed (by kernel_rfl) (by kernel_rfl) ?_
    repeat' (refine zap rfl ?_; first | ((with_reducible refine zcu ?_); refine zan rfl ?_) | ((with_reducible refine zcx ?_); first | (refine zai [0] hRd rfl rfl rfl sub_nil ?_; rintro v Γ' ⟨ra, rc, rfl, rfl⟩) | refine zce rfl ?_))
    all_goals refine zch ?_
    all_goals repeat (first | refine zck ?_ | refine zcl ?_ | refine zcm ?_ | refine zcn ?_)
    generalize hl2 : s1.rd.mergeSort leI = l2 at hrl hrm
    refine run_slots [(7, ptr xb), (9, .func (.func 28) #[] (List.toArray [ptr cb, ptr xb])), (10, spP p1), (11, .bool v1), (12, .map (some mb)), (37, .slice ra s1.rd.length rc), (38, .int .i64 (s1.rd.length : Nat)), (39, .int .i64 0)] ⟨rfl, rfl, rfl, rfl, rfl, rfl, rfl, rfl, trivial⟩ (fun junk => ?_)
    refine run_exch 1 (LstA 27 (.slice ra s1.rd.length rc) l2) rfl (fun g h => ⟨ra, rc, by rw [hrl], by rw [hrl]; exact h⟩) rfl ?_
    refine run_lend [1] rfl fun sh' hi rr => ?_
    have hcb : (cb, clC c.d c.X c.Y) ∈ sh' := hi _ (.tail _ (.tail _ (.head _)))
    have hxb : (xb, .cells (List.toArray (stC wb K r k J)) 36 (0, 0)) ∈ sh' := hi _ (.head _)
    have hwb : (wb, mapI (knM kn)) ∈ sh' := hi _ (.tail _ (.head _))
    have hmx : ∀ hF Γ w, Sh sh' hF → St w0 hF Γ w → w.heap[xb]? = some (.cells (List.toArray (stC wb K r k J)) 36 (0, 0)) := fun hF Γ w h1 h2 => (h2.frame (h1 _ hxb)).2
    refine run_loop (S := Nat × List (Int × Wd)) (fun st => [(7, ptr xb), (9, .func (.func 28) #[] (List.toArray [ptr cb, ptr xb])), (10, spP p1), (11, .bool v1), (12, .map (some mb)), (37, .slice ra s1.rd.length rc), (38, .int .i64 (s1.rd.length : Nat)), (39, .int .i64 (st.1 : Int))])
      (fun st Γ => Γ = [SpaceA p1 s1, pt mb (mapI (knM st.2))] ∧ st.1 ≤ s1.rd.length ∧ (st.2.map (·.1)).Nodup ∧ ∀ a, lookW st.2 a = if a ∈ l2.take st.1 then lookW kn a else none) (fun st => s1.rd.length - st.1) (0, []) ⟨rfl, rfl, rfl, rfl, rfl, rfl, rfl, rfl, trivial⟩ ⟨rfl, Nat.zero_le _, List.nodup_nil, fun a => by simp [lookW]⟩ ?_
    rintro ⟨i, kq⟩ Γ junk ⟨rfl, hi2, hnd, hkq⟩
    dsimp only at hi2 hnd hkq ⊢
    by_cases hlt : i < s1.rd.length
    · have hx : l2[i]? = some (l2[i]'(by omega)) := List.getElem?_eq_getElem _
      generalize l2[i]'(by omega) = x at hx
      obtain ⟨w, hw⟩ := f4 x ((hrm x).1 (List.mem_of_getElem? hx))
      obtain ⟨bb, off, cc, TT, fr, e2, hm, hrd⟩ := rr.at hx
      have hst := known_step hkq hx hw
      have hins : ins (knM kq) x (wordV ((lookW kn x).getD ⟨0, 0, 0⟩)) = knM (insW kq x w) := by rw [ins_knM, hw]; rfl
      subst e2
      repeat' (first | refine zck ?_ | refine zcp (by kernel_rfl) ?_ | refine zcm ?_ | refine zcl ?_ | refine zcn ?_ | (refine zap rfl ?_; first | refine zad rfl hmx rfl ?_ | refine zad rfl hm (hrd _ (by omega)) ?_ | refine reg_lookup_in hwb rfl rfl (valW_look kn _ _ rfl) ?_ | refine reg_mapUpdate 1 (u := wordV ((lookW kn x).getD ⟨0, 0, 0⟩)) (Γ' := [SpaceA p1 s1, pt mb (mapI (knM (insW kq x w)))]) rfl rfl rfl rfl (by rw [← hins]; rfl) ?_ | ((with_reducible refine zcu ?_); refine zan rfl ?_) | ((with_reducible refine zcv ?_); refine zan rfl ?_) | ((with_reducible refine zcy ?_); refine zao rfl ?_) | ((with_reducible refine zda ?_); first | refine zbg rfl rfl (by omega) ?_ | refine zau rfl rfl (by omega) ?_) | ((with_reducible refine zdf ?_); refine zas rfl rfl (by omega) ?_)) | refine zch ?_ | refine zci rfl ?_)
      exact cut_end ⟨rfl, (i + 1, insW kq x w), ⟨rfl, rfl, rfl, rfl, rfl, rfl, rfl, congrArg (Value.int .i64) (by dsimp only; omega), trivial⟩, ⟨rfl, hlt, insW_keys kq x w hnd, hst⟩, by dsimp only; omega⟩
    · have hil : i = s1.rd.length := by omega
      repeat' (first | refine zck ?_ | refine zcp (by kernel_rfl) ?_ | (refine zap rfl ?_; first | ((with_reducible refine zda ?_); refine zbh rfl rfl (by omega) ?_)) | refine zch ?_ | refine zcj rfl ?_)
      refine cut_exit rfl rfl ?_
      have hkk : ∀ a ∈ s1.rd, lookW kq a = lookW kn a := fun a ha => by
        rw [hkq a, List.take_of_length_le (by omega), if_pos ((hrm a).2 ha)]
      have hN2 := new_sh w0 mb kq (fun q a w h => by
        have h1 := keys_look kq hnd q a w h
        refine ⟨h1, ?_⟩
        rw [hkq a] at h1
        split at h1
        · exact (hW.ok.wd a w h1).1
        · cases h1)
      refine run_share [1] rfl ?_
      repeat (first | refine zck ?_ | refine zcl ?_ | refine zcm ?_ | refine zcn ?_ | refine zco ?_)
      repeat (first | refine zck ?_ | refine zcl ?_ | refine zcm ?_ | refine zcn ?_)
      first | refine zcp (by kernel_rfl) ?_ | refine zcq PP_mixed (by kernel_rfl) (by kernel_rfl) ?_
      repeat' (refine zap rfl ?_; first | ((with_reducible refine zcu ?_); refine zan rfl ?_) | ((with_reducible refine zcv ?_); refine zan rfl ?_) | ((with_reducible refine zcx ?_); (refine zai [] hN2 rfl rfl rfl (fun p hp => by rw [List.mem_singleton.1 hp]; exact .head _) ?_; rintro v Γ' ⟨p2, kn2, rfl, rfl, hk2⟩)))
      all_goals refine zch ?_
      all_goals repeat (first | refine zck ?_ | refine zcl ?_ | refine zcm ?_ | refine zcn ?_)
      obtain ⟨g1, g2, g3, g4⟩ := f7 kn2 (fun a ha => (hk2 a).trans (hkk a ha))
      have hS2 := fun sh hcb hxb => asks1_spec w0 sh p2 cb xb wb hK r (J := J) (k := k) c.d c.X c.Y hc.1 hc.2.1.2 hc.2.2.2 hcb hxb _ g1
      generalize hR2 : Pg.run ((f0 K).doA c.d c.X c.Y) ⟨kn2, [], [], 0, false⟩ = R2 at hS2 g2 g3 g4
      obtain ⟨v2, s2⟩ := R2
      dsimp only at hS2 g2 g3 g4
      subst g2
      have hlen2 : s2.puts.length ≤ 5 := by rw [g4]; exact f5
      have hww : (s2.writes.length : Int) = s1.writes.length := by rw [writes_puts g4]
      repeat (first | refine zck ?_ | refine zcl ?_ | refine zcm ?_ | refine zcn ?_)
      first | refine zcp (by kernel_rfl) ?_ | refine zcq PP_mixed (by kernel_rfl) (by kernel_rfl) ?_
      repeat' (refine zap rfl ?_; first | ((with_reducible refine zcu ?_); refine zan rfl ?_) | ((with_reducible refine zcv ?_); refine zan rfl ?_) | ((with_reducible refine zcx ?_); refine zah [0] (hS2 _ (.tail _ hcb) (.tail _ hxb)) rfl rfl rfl (fun _ h => h) rfl ?_))
      all_goals refine zch ?_
      all_goals repeat (first | refine zck ?_ | refine zcl ?_ | refine zcm ?_ | refine zcn ?_)
      refine run_slots [(10, spP p1), (11, .bool v2), (15, spP p2), (16, .bool v2)] ⟨rfl, rfl, rfl, rfl, trivial⟩ (fun junk => ?_)
      cases v2 with
      | true =>
        repeat' (first | refine zcp (by kernel_rfl) ?_ | (refine zap rfl ?_; first | ((with_reducible refine zct ?_); first | refine zaj rfl ?_ | refine zak rfl ?_) | ((with_reducible refine zcu ?_); refine zan rfl ?_) | ((with_reducible refine zcv ?_); refine zan rfl ?_) | ((with_reducible refine zcx ?_); first | (refine zai [0] (writes_spec w0 p2 s2 (by omega)) rfl rfl rfl sub_nil ?_; rintro v Γ' ⟨wa2, wcap2, rfl, rfl⟩) | (refine zah [1] (ended_spec w0 p1 s1) rfl rfl rfl sub_nil rfl ?_; rw [f2]) | (refine zah [1] (ended_spec w0 p2 s2) rfl rfl rfl sub_nil rfl ?_; rw [g3]) | (refine zai [2] (writes_spec w0 p1 s1 (by omega)) rfl rfl rfl sub_nil ?_; rintro v Γ' ⟨wa, wcap, rfl, rfl⟩) | refine zah [] hA rfl rfl rfl sub_nil rfl ?_ | refine zce rfl ?_) | ((with_reducible refine zda ?_); first | refine zbc rfl rfl (by omega) ?_ | refine zbb rfl rfl ?_) | ((with_reducible refine zdb ?_); refine zbx rfl ?_) | ((with_reducible refine zdc ?_); refine zbu rfl ?_)) | refine zch ?_)
        exact run_ret (leaves_nil (ends_take [] rfl (ends_one rfl rfl ⟨rfl, rfl, rfl⟩)))
      | false =>
        have hw0 : (s1.writes.length : Int) = 0 := by rw [Sp.writes_nil (f6 rfl)]; rfl
        repeat' (first | refine zcp (by kernel_rfl) ?_ | (refine zap rfl ?_; first | ((with_reducible refine zct ?_); refine zaj rfl ?_) | ((with_reducible refine zcu ?_); refine zan rfl ?_) | ((with_reducible refine zcv ?_); refine zan rfl ?_) | ((with_reducible refine zcx ?_); first | (refine zai [0] (writes_spec w0 p2 s2 (by omega)) rfl rfl rfl sub_nil ?_; rintro v Γ' ⟨wa2, wcap2, rfl, rfl⟩) | (refine zah [0] (ended_spec w0 p1 s1) rfl rfl rfl sub_nil rfl ?_; rw [f2]) | (refine zai [1] (writes_spec w0 p1 s1 (by omega)) rfl rfl rfl sub_nil ?_; rintro v Γ' ⟨wa, wcap, rfl, rfl⟩) | (refine zai [2] (writes_spec w0 p1 s1 (by omega)) rfl rfl rfl sub_nil ?_; rintro v Γ' ⟨wa, wcap, rfl, rfl⟩) | (refine zah [2] (ended_spec w0 p2 s2) rfl rfl rfl sub_nil rfl ?_; rw [g3]) | refine zah [] hA rfl rfl rfl sub_nil rfl ?_ | refine zce rfl ?_) | ((with_reducible refine zda ?_); first | refine zbc rfl rfl (by omega) ?_ | refine zbb rfl rfl ?_) | ((with_reducible refine zdb ?_); refine zbx rfl ?_) | ((with_reducible refine zdc ?_); first | refine zbu rfl ?_ | refine zbv rfl ?_)) | refine zch ?_)
        exact run_ret (leaves_nil (ends_take [] rfl (ends_one rfl rfl ⟨rfl, rfl, rfl⟩)))
end Go.Proofs.Ytpcnbaddkblbhaa

/- The forest on memories of any words: addresses stay within, and what fails writes nothing. -/
namespace Sim
open Go Go.Vc
def I64 (m : Int → Int) : Prop := ∀ a, -9223372036854775808 ≤ m a ∧ m a ≤ 9223372036854775807
theorem I64.upd {m : Int → Int} (h : I64 m) {a v : Int} (hv : -9223372036854775808 ≤ v ∧ v ≤ 9223372036854775807) : I64 (upd m a v) := fun x => by
  unfold Sim.upd
  split
  · exact hv
  · exact h x
theorem w64_bd (x : Int) : -9223372036854775808 ≤ w64 x ∧ w64 x ≤ 9223372036854775807 := by
  unfold w64
  simp only [IntKind.wrap, IntKind.bits, IntKind.signed]
  simp
  constructor <;> (split <;> omega)
/-- A node, of any word. -/
theorem node_bd {K : Int} (hK : 0 ≤ K ∧ K ≤ 38) {a : Int} (h : -9223372036854775808 ≤ a ∧ a ≤ 9223372036854775807) (hn : (f0 K).pool.node a = true) : 64 ≤ a ∧ a + 8 ≤ 368 := by
  have hn2 := hn
  unfold Pl.node f0 at hn2
  simp only [Bool.and_eq_true, decide_eq_true_eq] at hn2
  obtain ⟨⟨h1, h2⟩, h3⟩ := hn2
  have e1 : w64 (a - 64) = a - 64 := w64_in (by omega) (by omega)
  rw [e1] at h3
  have hq : 0 ≤ (a - 64).tdiv 8 ∧ (a - 64).tdiv 8 ≤ a - 64 := by
    rw [Int.tdiv_eq_ediv_of_nonneg (by omega)]
    omega
  rw [w64_in (by omega) (by omega), Int.tdiv_eq_ediv_of_nonneg (by omega)] at h3
  have := nd_bd hK ((node_iff (f0_fine hK) a (by omega) (by omega)).1 hn)
  exact this
section
open Pg
variable {K : Int} {m : Int → Int}
theorem nodeN_in (hK : 0 ≤ K ∧ K ≤ 38) {t : Int} (hb : (f0 K).nodeB t = true) : 64 ≤ Fo.nodeN t ∧ Fo.nodeN t + 8 ≤ 368 := by
  unfold Fo.nodeB at hb
  unfold Fo.nodeN
  split
  · rename_i h; rw [if_pos h] at hb; cases hb
  · rename_i h
    rw [if_neg h] at hb
    exact node_bd hK (by omega) hb
theorem cell_x (hK : 0 ≤ K ∧ K ≤ 38) {x : Int} (h1 : 1 ≤ x) (h2 : x ≤ 64) : Ok 368 ((f0 K).cell x) m fun r m' => m' = m ∧ (r.2 = true → 64 ≤ r.1 ∧ r.1 < 368) := by
  unfold Fo.cell
  refine Ok.get (by unfold f0; dsimp only; omega) (by unfold f0; dsimp only; omega) (Ok.pure ⟨rfl, fun hb => ?_⟩)
  have := nodeN_in hK hb
  dsimp only
  omega
theorem place_x (hK : 0 ≤ K ∧ K ≤ 38) {x : Int} (h1 : 1 ≤ x) (h2 : x ≤ 64) : Ok 368 ((f0 K).place x) m fun r m' => m' = m ∧ (r.2 = true → 64 ≤ r.1 ∧ r.1 + 4 ≤ 368) := by
  unfold Fo.place
  refine Ok.bind _ (cell_x hK h1 h2) ?_
  rintro c m' ⟨rfl, hc⟩
  refine Ok.ite (fun h => ?_) fun _ => Ok.pure ⟨rfl, fun h => by cases h⟩
  obtain ⟨c1, c2⟩ := hc h
  refine Ok.get (by omega) (by omega) (Ok.pure ⟨rfl, fun hb => ?_⟩)
  have := nodeN_in hK hb
  dsimp only
  omega
theorem many_x : Ok 368 (f0 K).many m fun r m' => m' = m ∧ r.1 = m 16 ∧ (r.2 = true → 0 ≤ r.1 ∧ r.1 ≤ 64) := by
  unfold Fo.many
  refine Ok.get (by unfold f0; dsimp only; omega) (by unfold f0; dsimp only; omega) (Ok.pure ⟨rfl, rfl, fun h => ?_⟩)
  rw [show (f0 K).root = 16 from rfl] at h ⊢
  simpa using h
theorem check_x (x : Int) : Ok 368 ((f0 K).check x) m fun r m' => m' = m ∧ (r = 0 → 1 ≤ x ∧ x ≤ m 16) := by
  unfold Fo.check
  refine Ok.ite (fun _ => Ok.pure ⟨rfl, fun h => by cases h⟩) fun hx => ?_
  refine Ok.get (by unfold f0; dsimp only; omega) (by unfold f0; dsimp only; omega) ?_
  rw [show (f0 K).root = 16 from rfl]
  exact Ok.ite (fun _ => Ok.pure ⟨rfl, fun h => by cases h⟩) fun hn => Ok.pure ⟨rfl, fun _ => by omega⟩
theorem climb_x {K : Int} {m : Int → Int} (hK : 0 ≤ K ∧ K ≤ 38) {n : Int} (hn : n ≤ 64) : ∀ (f : Nat) (x : Int), 1 ≤ x → x ≤ n → Ok 368 ((f0 K).climb n f x) m fun r m' => m' = m ∧ (r.2 = 0 → 1 ≤ r.1 ∧ r.1 ≤ 64)
  | 0, x, _, _ => Ok.pure ⟨rfl, fun h => by cases h⟩
  | f + 1, x, h1, h2 => by
    unfold Fo.climb
    refine Ok.bind _ (place_x hK h1 (by omega)) ?_
    rintro c m' ⟨rfl, hc⟩
    refine Ok.ite (fun h => ?_) fun _ => Ok.pure ⟨rfl, fun h => by cases h⟩
    obtain ⟨c1, c2⟩ := hc h
    refine Ok.get (by omega) (by omega) ?_
    exact Ok.ite (fun _ => Ok.pure ⟨rfl, fun _ => ⟨h1, by omega⟩⟩) fun _ => Ok.ite (fun _ => Ok.pure ⟨rfl, fun h => by cases h⟩) fun hup => Sim.climb_x hK hn f _ (by omega) (by omega)
theorem find_x (hK : 0 ≤ K ∧ K ≤ 38) (x : Int) : Ok 368 ((f0 K).find x) m fun r m' => m' = m ∧ (r.2 = 0 → 1 ≤ r.1 ∧ r.1 ≤ 64) := by
  unfold Fo.find
  refine Ok.bind _ (check_x x) ?_
  rintro e m' ⟨rfl, he⟩
  refine Ok.ite (fun h => Ok.pure ⟨rfl, fun h2 => absurd h2 h⟩) fun h => ?_
  obtain ⟨x1, x2⟩ := he (by simpa using h)
  refine Ok.bind _ many_x ?_
  rintro n m2 ⟨rfl, n1, n2⟩
  refine Ok.ite (fun h => ?_) fun _ => Ok.pure ⟨rfl, fun h => by cases h⟩
  obtain ⟨n3, n4⟩ := n2 h
  exact climb_x hK n4 65 x x1 (by omega)
theorem both_x (hK : 0 ≤ K ∧ K ≤ 38) (x y : Int) : Ok 368 ((f0 K).both x y) m fun r m' => m' = m ∧ (r.2 = 0 → (1 ≤ r.1.1 ∧ r.1.1 ≤ 64) ∧ 1 ≤ r.1.2 ∧ r.1.2 ≤ 64) := by
  unfold Fo.both
  refine Ok.bind _ (check_x x) ?_
  rintro e m' ⟨rfl, _⟩
  refine Ok.ite (fun h => Ok.pure ⟨rfl, fun h2 => absurd h2 h⟩) fun _ => ?_
  refine Ok.bind _ (check_x y) ?_
  rintro e m' ⟨rfl, _⟩
  refine Ok.ite (fun h => Ok.pure ⟨rfl, fun h2 => absurd h2 h⟩) fun _ => ?_
  refine Ok.bind _ (find_x hK x) ?_
  rintro a m' ⟨rfl, ha⟩
  refine Ok.ite (fun h => Ok.pure ⟨rfl, fun h2 => absurd h2 h⟩) fun h => ?_
  refine Ok.bind _ (find_x hK y) ?_
  rintro b m' ⟨rfl, hb⟩
  exact Ok.ite (fun h => Ok.pure ⟨rfl, fun h2 => absurd h2 h⟩) fun h2 => Ok.pure ⟨rfl, fun _ => ⟨ha (by simpa using h), hb (by simpa using h2)⟩⟩
end
end Sim

/- The forest on memories of any words: make, union, undo. -/
namespace Sim
open Go Go.Vc
section
open Pg
variable {K : Int} {m : Int → Int}
theorem pool_x (hK : 0 ≤ K ∧ K ≤ 38) (hm : I64 m) : Ok 368 (f0 K).pool.takeP m fun r m' => I64 m' ∧ (r.2 = 0 → 64 ≤ r.1 ∧ r.1 + 8 ≤ 368) ∧ m' 16 = m 16 := by
  unfold Pl.takeP
  refine Ok.get (by unfold f0; dsimp only; omega) (by unfold f0; dsimp only; omega) ?_
  rw [show (f0 K).pool.root = 1 from rfl]
  refine Ok.ite (fun _ => Ok.ite (fun hn => ?_) fun _ => Ok.pure ⟨hm, (fun h => by cases h), rfl⟩) fun _ => ?_
  · have hb := node_bd hK (hm 1) hn
    refine Ok.get (by omega) (by omega) (Ok.put (by omega) (by omega) ?_)
    unfold Pl.addP
    rw [Pg.bind_assoc]
    refine Ok.get (by unfold f0; dsimp only; omega) (by unfold f0; dsimp only; omega) ?_
    rw [Pg.bind_assoc]
    refine Ok.put (by unfold f0; dsimp only; omega) (by unfold f0; dsimp only; omega) (Ok.pure ⟨(hm.upd (hm _)).upd (w64_bd _), fun _ => hb, ?_⟩)
    rw [upd_ne (by unfold f0; dsimp only; omega), upd_ne (by omega)]
  · refine Ok.get (by omega) (by omega) ?_
    refine Ok.ite (fun _ => Ok.pure ⟨hm, (fun h => by cases h), rfl⟩) fun hn => ?_
    have hn2 : (f0 K).pool.nodes = K := rfl
    rw [hn2] at hn
    refine Ok.put (by omega) (by omega) (Ok.pure ⟨hm.upd (by omega), fun _ => ?_, upd_ne (by omega)⟩)
    rw [show (f0 K).pool.frm = 64 from rfl]
    dsimp only
    omega
theorem take_x (hK : 0 ≤ K ∧ K ≤ 38) (hm : I64 m) : Ok 368 (f0 K).take m fun r m' => I64 m' ∧ (r.2 = 0 → 64 ≤ r.1 ∧ r.1 + 8 ≤ 368) ∧ m' 16 = m 16 := by
  unfold Fo.take
  refine Ok.bind _ (pool_x hK hm) ?_
  rintro t m' ⟨h1, h2, h3⟩
  refine Ok.ite (fun h => Ok.pure ⟨h1, fun h4 => absurd h4 h, h3⟩) fun h => ?_
  refine Ok.get (by unfold f0; dsimp only; omega) (by unfold f0; dsimp only; omega) (Ok.put (by unfold f0; dsimp only; omega) (by unfold f0; dsimp only; omega) (Ok.pure ⟨h1.upd (w64_bd _), fun _ => h2 (by simpa using h), ?_⟩))
  rw [upd_ne (by unfold f0; dsimp only; omega), h3]
theorem roomN_x (hK : 0 ≤ K ∧ K ≤ 38) (hm : I64 m) {x : Int} (h1 : 1 ≤ x) (h2 : x ≤ 64) : Ok 368 ((f0 K).roomN x) m fun r m' => I64 m' := by
  unfold Fo.roomN
  refine Ok.bind _ (cell_x hK h1 h2) ?_
  rintro c m' ⟨rfl, hc⟩
  refine Ok.ite (fun h => ?_) fun _ => Ok.pure hm
  obtain ⟨c1, c2⟩ := hc h
  refine Ok.bind _ (take_x hK hm) ?_
  rintro t m2 ⟨g1, g2, g3⟩
  refine Ok.ite (fun h => Ok.pure g1) fun h => ?_
  have := g2 (by simpa using h)
  exact Ok.put (by omega) (by omega) (Ok.pure (g1.upd (by omega)))
theorem room_x (hK : 0 ≤ K ∧ K ≤ 38) (hm : I64 m) {x : Int} (h1 : 1 ≤ x) (h2 : x ≤ 64) : Ok 368 ((f0 K).room x) m fun r m' => I64 m' := by
  unfold Fo.room
  refine Ok.ite (fun _ => Ok.pure hm) fun _ => Ok.ite (fun _ => ?_) fun _ => roomN_x hK hm h1 h2
  refine Ok.bind _ (take_x hK hm) ?_
  rintro t m2 ⟨g1, g2, g3⟩
  refine Ok.ite (fun h => Ok.pure g1) fun h => ?_
  have := g2 (by simpa using h)
  exact Ok.put (by unfold f0; dsimp only; omega) (by unfold f0; dsimp only; omega) (roomN_x hK (g1.upd (by omega)) h1 h2)
theorem makeIn_x (hK : 0 ≤ K ∧ K ≤ 38) (hm : I64 m) {x : Int} (h1 : 1 ≤ x) (h2 : x ≤ 64) : Ok 368 ((f0 K).makeIn x) m fun r m' => True := by
  unfold Fo.makeIn
  refine Ok.bind _ (room_x hK hm h1 h2) ?_
  rintro e m' hm'
  refine Ok.ite (fun _ => Ok.pure trivial) fun _ => ?_
  refine Ok.bind _ (place_x hK h1 h2) ?_
  rintro c m2 ⟨rfl, hc⟩
  refine Ok.ite (fun h => ?_) fun _ => Ok.pure trivial
  obtain ⟨c1, c2⟩ := hc h
  refine Ok.put (by omega) (by omega) (Ok.put (by omega) (by omega) (Ok.put (by omega) (by omega) (Ok.put (by unfold f0; dsimp only; omega) (by unfold f0; dsimp only; omega) (Ok.get (by unfold f0; dsimp only; omega) (by unfold f0; dsimp only; omega) (Ok.put (by unfold f0; dsimp only; omega) (by unfold f0; dsimp only; omega) (Ok.pure trivial))))))
theorem make_x (hK : 0 ≤ K ∧ K ≤ 38) (hm : I64 m) : Ok 368 (f0 K).make m fun r m' => r.2 ≠ 0 → m' = m := by
  unfold Fo.make
  refine Ok.bind _ many_x ?_
  rintro n m' ⟨rfl, n1, n2⟩
  refine Ok.ite (fun h => Ok.ite (fun _ => Ok.pure fun _ => rfl) fun h64 => ?_) fun _ => Ok.pure fun _ => rfl
  obtain ⟨g1, g2⟩ := n2 h
  refine Ok.roll (fun r => r.2 ≠ 0) (fun _ _ => True) (makeIn_x hK hm (by omega) (by omega)) (fun r m' n _ hr => ⟨(0, r.2), ?_, fun _ => rfl⟩) (fun r m' n _ hr => ?_)
  · unfold Fo.after; rw [if_pos hr]
  · unfold Fo.after; rw [if_neg hr]; exact Ok.pure fun h => absurd h hr
theorem add_x {a : Int} (h1 : 0 ≤ a) (h2 : a < 368) (n : Int) : Ok 368 (Fo.add a n) m fun _ m' => True := by
  unfold Fo.add
  exact Ok.get h1 h2 (Ok.put h1 h2 (Ok.pure trivial))
theorem hang_x (x y sz : Int) {a b : Int} (ha : 64 ≤ a ∧ a + 4 ≤ 368) (hb : 64 ≤ b ∧ b + 4 ≤ 368) : Ok 368 ((f0 K).hang x a y b sz) m fun _ m' => True := by
  unfold Fo.hang
  refine Ok.put (by omega) (by omega) (Ok.get (by unfold f0; dsimp only; omega) (by unfold f0; dsimp only; omega) (Ok.put (by omega) (by omega) (Ok.put (by omega) (by omega) (Ok.put (by unfold f0; dsimp only; omega) (by unfold f0; dsimp only; omega) (Ok.bind _ (add_x (by unfold f0; dsimp only; omega) (by unfold f0; dsimp only; omega) _) fun _ _ _ => Ok.pure trivial)))))
theorem union_x (hK : 0 ≤ K ∧ K ≤ 38) (x y : Int) : Ok 368 ((f0 K).union x y) m fun r m' => (r.1 = false ∨ r.2 ≠ 0) → m' = m := by
  unfold Fo.union
  refine Ok.bind _ (both_x hK x y) ?_
  rintro r m' ⟨rfl, hr⟩
  refine Ok.ite (fun _ => Ok.pure fun _ => rfl) fun h => ?_
  obtain ⟨⟨a1, a2⟩, b1, b2⟩ := hr (by simpa using fun e => h (.inl e))
  unfold Fo.join
  refine Ok.bind _ (place_x hK a1 a2) ?_
  rintro a m' ⟨rfl, ha⟩
  refine Ok.ite (fun h1 => ?_) fun _ => Ok.pure fun _ => rfl
  have ha := ha h1
  refine Ok.get (by omega) (by omega) (Ok.bind _ (place_x hK b1 b2) ?_)
  rintro b m' ⟨rfl, hb⟩
  refine Ok.ite (fun h1 => ?_) fun _ => Ok.pure fun _ => rfl
  have hb := hb h1
  refine Ok.get (by omega) (by omega) (Ok.ite (fun _ => ?_) fun _ => ?_)
  · exact Ok.bind _ (hang_x _ _ _ hb ha) fun _ _ _ => Ok.pure fun h => h.elim (fun h => by cases h) (fun h => absurd rfl h)
  · exact Ok.bind _ (hang_x _ _ _ ha hb) fun _ _ _ => Ok.pure fun h => h.elim (fun h => by cases h) (fun h => absurd rfl h)
theorem undo_x (hK : 0 ≤ K ∧ K ≤ 38) : Ok 368 (f0 K).undo m fun r m' => (r.1 = false ∨ r.2 ≠ 0) → m' = m := by
  unfold Fo.undo
  refine Ok.get (by unfold f0; dsimp only; omega) (by unfold f0; dsimp only; omega) ?_
  refine Ok.ite (fun _ => Ok.pure fun _ => rfl) fun _ => ?_
  refine Ok.bind _ many_x ?_
  rintro n m' ⟨rfl, n1, n2⟩
  refine Ok.ite (fun h => ?_) fun _ => Ok.pure fun _ => rfl
  obtain ⟨g1, g2⟩ := n2 h.1
  refine Ok.bind _ (place_x hK h.2.1 (by omega)) ?_
  rintro a m' ⟨rfl, ha⟩
  refine Ok.ite (fun h1 => ?_) fun _ => Ok.pure fun _ => rfl
  have ha := ha h1
  refine Ok.get (by omega) (by omega) (Ok.ite (fun _ => Ok.pure fun _ => rfl) fun hup => ?_)
  refine Ok.bind _ (place_x hK (by omega) (by omega)) ?_
  rintro b m' ⟨rfl, hb⟩
  refine Ok.ite (fun h1 => ?_) fun _ => Ok.pure fun _ => rfl
  have hb := hb h1
  refine Ok.get (by omega) (by omega) (Ok.bind _ (add_x (by omega) (by omega) _) fun _ m2 _ => ?_)
  refine Ok.put (by omega) (by omega) (Ok.get (by omega) (by omega) (Ok.put (by unfold f0; dsimp only; omega) (by unfold f0; dsimp only; omega) (Ok.bind _ (add_x (by unfold f0; dsimp only; omega) (by unfold f0; dsimp only; omega) _) fun _ _ _ => Ok.pure fun h => h.elim (fun h => by cases h) (fun h => absurd rfl h))))
theorem same_x (hK : 0 ≤ K ∧ K ≤ 38) (x y : Int) : Ok 368 ((f0 K).same x y) m fun _ m' => m' = m := by
  unfold Fo.same
  exact Ok.bind _ (both_x hK x y) fun _ _ h => Ok.pure h.1
theorem size_x (hK : 0 ≤ K ∧ K ≤ 38) (x : Int) : Ok 368 ((f0 K).sizeOf x) m fun _ m' => m' = m := by
  unfold Fo.sizeOf
  refine Ok.bind _ (find_x hK x) ?_
  rintro r m' ⟨rfl, hr⟩
  refine Ok.ite (fun _ => Ok.pure rfl) fun h => ?_
  obtain ⟨a1, a2⟩ := hr (by simpa using h)
  refine Ok.bind _ (place_x hK a1 a2) ?_
  rintro a m' ⟨rfl, ha⟩
  refine Ok.ite (fun h1 => ?_) fun _ => Ok.pure rfl
  have ha := ha h1
  exact Ok.get (by omega) (by omega) (Ok.pure rfl)
end
end Sim

/- The law's ForestBroken: the operation, in a transaction. -/
namespace Go.Proofs.Ytpcnbaddkblbhaa
open Go.Vc Sim
set_option maxHeartbeats 8000000
abbrev erB (eb : Nat) (e : Int) : Asn := pt eb (.cells (List.toArray [.int .i64 e]) 49 (0, 0))
abbrev foC (K : Int) : Obj := .cells (List.toArray [.int .i64 1, .int .i64 64, .int .i64 K, .int .i64 16]) 31 (0, 0)
/-- What the operation leaves: the flag, the error, the memory. -/
structure Bt (m : Int → Int) where
  b : Bool
  e : Int
  m' : Int → Int
  ok : ¬ (e = 0 ∧ b = true) → m' = m
theorem sub_at {sh shf : Shared} (is : List Nat) (h : is.map (fun i => sh[i]?) = shf.map some) : ∀ p ∈ shf, p ∈ sh := fun p hp => by
  have h1 : some p ∈ shf.map some := List.mem_map.2 ⟨p, hp, rfl⟩
  rw [← h] at h1
  obtain ⟨i, _, hi⟩ := List.mem_map.1 h1
  exact List.mem_of_getElem? hi
section
variable {K : Int} {m : Int → Int}
theorem broken1_spec (w0 : World) (sh : Shared) (p cb fb pb eb : Nat) (hK : 0 ≤ K ∧ K ≤ 38) (hm : I64 m) (d X Y : Int) (hd : 0 ≤ d ∧ d ≤ 255) (hX : X ≤ 9223372036854775807) (hY : Y ≤ 9223372036854775807) (hcb : (cb, clC d X Y) ∈ sh) (hfb : (fb, foC K) ∈ sh) (s : Sp) (hC : Cu 368 s s m 0) :
    Vc.Fn PP w0 sh 37 [spP p, ptr cb, ptr fb, ptr pb, ptr eb] [SpaceA p s, StarsA [okB pb true, erB eb 0]]
      (fun v Γ => ∃ (st : Bt m) (s' : Sp) (j : Nat), v = .tuple #[] ∧ Γ = [SpaceA p s', StarsA [okB pb st.b, erB eb st.e]] ∧ j ≤ 50000 ∧ Cu 368 s s' st.m' j) := by
  have hd6 : d.tmod 6 = d % 6 := Int.tmod_eq_emod_of_nonneg hd.1
  have hmf : ∀ hF Γ w, Sh sh hF → St w0 hF Γ w → w.heap[fb]? = some (foC K) := fun hF Γ w h1 h2 => (h2.frame (h1 _ hfb)).2
  have hmc : ∀ hF Γ w, Sh sh hF → St w0 hF Γ w → w.heap[cb]? = some (clC d X Y) := fun hF Γ w h1 h2 => (h2.frame (h1 _ hcb)).2
  refine fn_of_run en37 fn37 rfl rfl rfl ?_
  refine run_unpack [1] rfl ?_
  repeat (first | refine zck ?_ | refine zcl ?_ | refine zcm ?_ | refine zcn ?_)
  first | refine zcp (by kernel_rfl) ?_ | refine zcq PP_mixed (by kernel_rfl) (by kernel_rfl) ?_
  repeat' (refine zap rfl ?_; first | (refine reg_rem rfl rfl (by decide) ?_; rw [hd6]) | refine zad rfl hmc rfl ?_ | ((with_reducible refine zcy ?_); refine zao rfl ?_))
  all_goals refine zch ?_
  all_goals repeat (first | refine zck ?_ | refine zcl ?_ | refine zcm ?_ | refine zcn ?_)
  by_cases c23 : d % 6 = 2 ∨ d % 6 = 3
  · have c2 : d % 6 = 2 → True := fun _ => trivial
    by_cases c2 : d % 6 = 2
    · repeat' (first | refine zcp (by kernel_rfl) ?_ | refine zcm ?_ | refine zcn ?_ | (refine zap rfl ?_; first | refine zad rfl hmf rfl ?_ | refine zad rfl hmc rfl ?_ | ((with_reducible refine zcu ?_); refine zan rfl ?_) | ((with_reducible refine zcv ?_); refine zan rfl ?_) | ((with_reducible refine zcx ?_); (refine reg_callO [2] hC ((f0 K).bd_union X Y) (union_x hK X Y) (by omega) (foUnion w0 p (f0 K) (f0_ok hK) X Y hX hY) rfl rfl rfl sub_nil ?_; rintro x s2 m2 hx hC)) | ((with_reducible refine zcy ?_); refine zao rfl ?_) | ((with_reducible refine zcz ?_); refine zan rfl ?_) | ((with_reducible refine zda ?_); refine zbc rfl rfl (by omega) ?_) | ((with_reducible refine zdd ?_); first | refine zae 1 rfl rfl rfl rfl rfl rfl rfl ?_ | refine zae 2 rfl rfl rfl rfl rfl rfl rfl ?_)) | refine zch ?_ | refine zci rfl ?_)
      exact run_nil (leaves_nil (ends_pack [0, 0, 0] rfl (ends_none rfl ⟨rfl, ⟨x.1, x.2, m2, fun h => hx (by cases h1 : x.1 <;> simp_all)⟩, s2, _, rfl, rfl, by decide, hC⟩)))
    · repeat' (first | refine zcp (by kernel_rfl) ?_ | refine zcn ?_ | (refine zap rfl ?_; first | refine zad rfl hmf rfl ?_ | refine zad rfl hmc rfl ?_ | ((with_reducible refine zcu ?_); refine zan rfl ?_) | ((with_reducible refine zcv ?_); refine zan rfl ?_) | ((with_reducible refine zcx ?_); (refine reg_callO [2] hC ((f0 K).bd_union X Y) (union_x hK X Y) (by omega) (foUnion w0 p (f0 K) (f0_ok hK) X Y hX hY) rfl rfl rfl sub_nil ?_; rintro x s2 m2 hx hC)) | ((with_reducible refine zcy ?_); refine zao rfl ?_) | ((with_reducible refine zcz ?_); refine zan rfl ?_) | ((with_reducible refine zda ?_); first | refine zbc rfl rfl (by omega) ?_ | refine zbd rfl rfl (by omega) ?_) | ((with_reducible refine zdd ?_); first | refine zae 1 rfl rfl rfl rfl rfl rfl rfl ?_ | refine zae 2 rfl rfl rfl rfl rfl rfl rfl ?_)) | refine zch ?_ | refine zci rfl ?_ | refine zcj rfl ?_)
      exact run_nil (leaves_nil (ends_pack [0, 0, 0] rfl (ends_none rfl ⟨rfl, ⟨x.1, x.2, m2, fun h => hx (by cases h1 : x.1 <;> simp_all)⟩, s2, _, rfl, rfl, by decide, hC⟩)))
  by_cases c4 : d % 6 = 4
  · repeat' (first | refine zck ?_ | refine zcp (by kernel_rfl) ?_ | refine zcn ?_ | (refine zap rfl ?_; first | refine zad rfl hmf rfl ?_ | ((with_reducible refine zcu ?_); refine zan rfl ?_) | ((with_reducible refine zcv ?_); refine zan rfl ?_) | ((with_reducible refine zcx ?_); (refine reg_callO [2] hC (f0 K).bd_undo (undo_x hK) (by omega) (foUndo w0 p (f0 K) (f0_ok hK)) rfl rfl rfl sub_nil ?_; rintro x s2 m2 hx hC)) | ((with_reducible refine zcz ?_); refine zan rfl ?_) | ((with_reducible refine zda ?_); first | refine zbc rfl rfl (by omega) ?_ | refine zbd rfl rfl (by omega) ?_) | ((with_reducible refine zdd ?_); first | refine zae 1 rfl rfl rfl rfl rfl rfl rfl ?_ | refine zae 2 rfl rfl rfl rfl rfl rfl rfl ?_)) | refine zch ?_ | refine zci rfl ?_ | refine zcj rfl ?_)
    exact run_nil (leaves_nil (ends_pack [0, 0, 0] rfl (ends_none rfl ⟨rfl, ⟨x.1, x.2, m2, fun h => hx (by cases h1 : x.1 <;> simp_all)⟩, s2, _, rfl, rfl, by decide, hC⟩)))
  by_cases c5 : d % 6 = 5
  · repeat' (first | refine zck ?_ | refine zcp (by kernel_rfl) ?_ | refine zcn ?_ | (refine zap rfl ?_; first | refine zad rfl hmf rfl ?_ | refine zad rfl hmc rfl ?_ | ((with_reducible refine zcu ?_); refine zan rfl ?_) | ((with_reducible refine zcv ?_); refine zan rfl ?_) | ((with_reducible refine zcx ?_); first | (refine reg_callO [2] hC ((f0 K).bd_find X) (find_x hK X) (by omega) (foFind w0 p (f0 K) (f0_ok hK) X hX) rfl rfl rfl sub_nil ?_; rintro x s2 m2 hx hC; rw [hx.1] at hC) | (refine reg_callO [0] hC ((f0 K).bd_same X Y) (same_x hK X Y) (by omega) (foSame w0 p (f0 K) (f0_ok hK) X Y hX hY) rfl rfl rfl sub_nil ?_; rintro x2 s3 m3 hx2 hC; rw [hx2] at hC) | (refine reg_callO [0] hC ((f0 K).bd_sizeOf Y) (size_x hK Y) (by omega) (foSize w0 p (f0 K) (f0_ok hK) Y hY) rfl rfl rfl sub_nil ?_; rintro x3 s4 m4 hx3 hC; rw [hx3] at hC)) | ((with_reducible refine zcy ?_); refine zao rfl ?_) | ((with_reducible refine zcz ?_); refine zan rfl ?_) | ((with_reducible refine zda ?_); first | refine zbc rfl rfl (by omega) ?_ | refine zbd rfl rfl (by omega) ?_) | ((with_reducible refine zdd ?_); first | refine zae 1 rfl rfl rfl rfl rfl rfl rfl ?_ | refine zae 2 rfl rfl rfl rfl rfl rfl rfl ?_)) | refine zch ?_ | refine zci rfl ?_ | refine zcj rfl ?_)
    exact run_nil (leaves_nil (ends_pack [0, 0, 0] rfl (ends_none rfl ⟨rfl, ⟨false, x.2, m, fun _ => rfl⟩, s4, _, rfl, rfl, by decide, hC⟩)))
  · repeat' (first | refine zck ?_ | refine zcp (by kernel_rfl) ?_ | refine zcn ?_ | (refine zap rfl ?_; first | refine zad rfl hmf rfl ?_ | ((with_reducible refine zcu ?_); refine zan rfl ?_) | ((with_reducible refine zcv ?_); refine zan rfl ?_) | ((with_reducible refine zcx ?_); (refine reg_callO [2] hC (f0 K).bd_make (make_x hK hm) (by omega) (foMake w0 p (f0 K) (f0_ok hK)) rfl rfl rfl sub_nil ?_; rintro x s2 m2 hx hC)) | ((with_reducible refine zcz ?_); refine zan rfl ?_) | ((with_reducible refine zda ?_); refine zbd rfl rfl (by omega) ?_) | ((with_reducible refine zdd ?_); refine zae 2 rfl rfl rfl rfl rfl rfl rfl ?_)) | refine zch ?_ | refine zcj rfl ?_)
    exact run_nil (leaves_nil (ends_pack [0, 0, 0] rfl (ends_none rfl ⟨rfl, ⟨true, x.2, m2, fun h => hx (fun h2 => h ⟨h2, rfl⟩)⟩, s2, _, rfl, rfl, by decide, hC⟩)))
end
end Go.Proofs.Ytpcnbaddkblbhaa

/- The law's ForestUndoes: what is told of all elements. -/
namespace Sim
open Go Go.Vc
def tld (J : Jn) : Nat → List Int
  | 0 => []
  | i + 1 => tld J i ++ [rep J (1 + (i : Int)), sz J (rep J (1 + (i : Int)))]
theorem tld_len (J : Jn) : ∀ i, (tld J i).length = 2 * i
  | 0 => rfl
  | i + 1 => by simp only [tld, List.length_append, tld_len J i, List.length_cons, List.length_nil]; omega
theorem tld_pre (J : Jn) {i j : Nat} (h : i ≤ j) : tld J i <+: tld J j := by
  induction j with
  | zero => rw [Nat.le_zero.1 h]; exact List.prefix_refl _
  | succ j ih =>
    by_cases e : i = j + 1
    · rw [e]; exact List.prefix_refl _
    · exact (ih (by omega)).trans (List.prefix_append _ _)
theorem tld_same (J : Jn) {i j q : Nat} (h : i ≤ j) {x : Int} (hx : (tld J i)[q]? = some x) : (tld J j)[q]? = some x := by
  obtain ⟨r, hr⟩ := tld_pre J h
  rw [← hr, List.getElem?_append_left (List.getElem?_eq_some_iff.1 hx).1]
  exact hx
theorem tld_pos (J : Jn) : ∀ i q : Nat, q < 2 * i → q % 2 = 1 → ∃ x, (tld J i)[q]? = some x ∧ 1 ≤ x
  | 0, q, h, _ => by omega
  | i + 1, q, h, h2 => by
    by_cases hq : q < 2 * i
    · obtain ⟨x, h3, h4⟩ := tld_pos J i q hq h2
      exact ⟨x, tld_same J (Nat.le_succ i) h3, h4⟩
    · refine ⟨sz J (rep J (1 + (i : Int))), ?_, sz_pos J _⟩
      have hl := tld_len J i
      simp only [tld]
      rw [List.getElem?_append_right (by omega), show q - (tld J i).length = 1 by omega]
      rfl
end Sim
namespace Go.Proofs.Ytpcnbaddkblbhaa
open Go.Vc Sim
set_option maxHeartbeats 8000000
abbrev vbC (wb : Nat) : Obj := .cells (List.toArray [.map (some wb)]) 26 (0, 0)
abbrev ubB (ub : Nat) (v : Value) : Asn := pt ub (.cells (List.toArray [v]) 41 (0, 0))
abbrev stO (wb : Nat) (K : Int) (r : Rl) (k : Nat) (J : Jn) : Obj := .cells (List.toArray (stC wb K r k J)) 36 (0, 0)
section
variable {K : Int} {m : Int → Int} {k k0 : Nat} {J J0 : Jn} {ad : Nat → Int}
theorem told1_spec (w0 : World) (sh : Shared) (p xb vb ub wb wb0 : Nat) (hK : 0 ≤ K ∧ K ≤ 38) (r : Rl) (kn : List (Int × Wd)) (T : Int) (hW : WM 368 T kn m) (s : Sp) (hC : Cu 368 s s m 0) (h : Mm K m k (nC k) (tC k) J ad) (hxb : (xb, stO wb0 K r k0 J0) ∈ sh) (hvb : (vb, vbC wb) ∈ sh) (hwb : (wb, mapI (knM kn)) ∈ sh) :
    Vc.Fn PP w0 sh 14 [spP p, ptr vb, ptr xb, ptr ub] [SpaceA p s, StarsA [ubB ub (.slice none 0 0), LstA 2 (.slice none 0 0) []]]
      (fun v Γ => ∃ (st : Option Addr × Nat) (s' : Sp) (j : Nat), v = .tuple #[] ∧ Γ = [SpaceA p s', StarsA [ubB ub (.slice st.1 (tld J k).length st.2), LstA 2 (.slice st.1 (tld J k).length st.2) (tld J k)]] ∧ j ≤ 50000 ∧ Cu 368 s s' m j) := by
  have hkl := h.le
  have hmx : ∀ hF Γ w, Sh sh hF → St w0 hF Γ w → w.heap[xb]? = some (stO wb0 K r k0 J0) := fun hF Γ w h1 h2 => (h2.frame (h1 _ hxb)).2
  have hmv : ∀ hF Γ w, Sh sh hF → St w0 hF Γ w → w.heap[vb]? = some (vbC wb) := fun hF Γ w h1 h2 => (h2.frame (h1 _ hvb)).2
  have hm16 : ((lookW kn 16).getD ⟨0, 0, 0⟩).val = (k : Int) := by rw [valW_getD, hW.val 16 (by decide) (by decide)]; exact h.many
  refine fn_of_run en14 fn14 rfl rfl rfl ?_
  refine run_unpack [1] rfl ?_
  refine run_exch 1 (SlA 2 1 none 0 0 []) rfl (fun g hg => by obtain ⟨a, c, e, h⟩ := hg; cases e; exact h) rfl ?_
  repeat (first | refine zck ?_ | refine zcl ?_ | refine zcm ?_ | refine zcn ?_)
  first | refine zcp (by kernel_rfl) ?_ | refine zcq PP_mixed (by kernel_rfl) (by kernel_rfl) ?_
  repeat' (refine zap rfl ?_; first | ((with_reducible refine zcv ?_); refine zan rfl ?_))
  all_goals refine zch ?_
  all_goals repeat (first | refine zck ?_ | refine zcl ?_ | refine zcm ?_ | refine zcn ?_)
  refine run_slots [(0, spP p), (1, ptr vb), (2, ptr xb), (3, ptr ub), (5, .int .i64 1)] ⟨rfl, rfl, rfl, rfl, rfl, trivial⟩ (fun junk => ?_)
  refine run_loop (S := Nat × Sp × Option Addr × Nat) (fun st => [(0, spP p), (1, ptr vb), (2, ptr xb), (3, ptr ub), (5, .int .i64 (1 + (st.1 : Int)))])
    (fun st Γ => Γ = [ubB ub (.slice st.2.2.1 (tld J st.1).length st.2.2.2), SlA 2 1 st.2.2.1 (tld J st.1).length st.2.2.2 (intsV (tld J st.1)), SpaceA p st.2.1] ∧ Cu 368 s st.2.1 m 0 ∧ st.1 ≤ k) (fun st => k - st.1) (0, s, none, 0) ⟨rfl, rfl, rfl, rfl, rfl, trivial⟩ ⟨rfl, hC, Nat.zero_le _⟩ ?_
  rintro ⟨i, s1, a, cap⟩ Γ junk ⟨rfl, hC, hi⟩
  dsimp only at hC hi ⊢
  by_cases hik : i < k
  · have hx1 : (1 : Int) ≤ 1 + i := by omega
    have hx2 : 1 + (i : Int) ≤ k := by omega
    have hln := tld_len J i
    have hln2 := tld_len J (i + 1)
    repeat (first | refine zck ?_ | refine zcl ?_ | refine zcm ?_ | refine zcn ?_)
    first | refine zcp (by kernel_rfl) ?_ | refine zcq PP_mixed (by kernel_rfl) (by kernel_rfl) ?_
    repeat' (refine zap rfl ?_; first | refine zad rfl hmv rfl ?_ | refine reg_lookup_in hwb rfl rfl (valW_look kn _ _ rfl) ?_ | (refine reg_fieldV rfl rfl ?_; rw [hm16]) | ((with_reducible refine zcu ?_); refine zan rfl ?_) | ((with_reducible refine zda ?_); refine zbi rfl rfl (by omega) ?_))
    all_goals refine zch ?_
    all_goals repeat (first | refine zck ?_ | refine zcl ?_ | refine zcm ?_ | refine zcn ?_)
    refine zci rfl ?_
    repeat (first | refine zck ?_ | refine zcl ?_ | refine zcm ?_ | refine zcn ?_ | refine zco ?_)
    repeat (first | refine zck ?_ | refine zcl ?_ | refine zcm ?_ | refine zcn ?_)
    first | refine zcp (by kernel_rfl) ?_ | refine zcq PP_mixed (by kernel_rfl) (by kernel_rfl) ?_
    repeat' (refine zap rfl ?_; first | refine zad rfl hmx rfl ?_ | ((with_reducible refine zcu ?_); refine zan rfl ?_) | ((with_reducible refine zcv ?_); refine zan rfl ?_) | ((with_reducible refine zcx ?_); (refine reg_callO [2] hC ((f0 K).bd_find (1 + (i : Int))) (find_ok hK h hx1 hx2) (by omega) (foFind w0 p (f0 K) (f0_ok hK) (1 + (i : Int)) (by omega)) rfl rfl rfl sub_nil ?_; rintro x s2 m2 ⟨rfl, em⟩ hC; rw [em] at hC)) | ((with_reducible refine zcy ?_); refine zao rfl ?_) | ((with_reducible refine zcz ?_); refine zan rfl ?_))
    all_goals refine zch ?_
    all_goals repeat (first | refine zck ?_ | refine zcl ?_ | refine zcm ?_ | refine zcn ?_)
    repeat (first | refine zck ?_ | refine zcl ?_ | refine zcm ?_ | refine zcn ?_)
    first | refine zcp (by kernel_rfl) ?_ | refine zcq PP_mixed (by kernel_rfl) (by kernel_rfl) ?_
    repeat' (refine zap rfl ?_; first | refine zad rfl hmx rfl ?_ | ((with_reducible refine zcu ?_); refine zan rfl ?_) | ((with_reducible refine zcv ?_); refine zan rfl ?_) | ((with_reducible refine zcx ?_); (refine reg_callO [0] hC ((f0 K).bd_sizeOf (1 + (i : Int))) (size_ok hK h hx1 hx2) (by omega) (foSize w0 p (f0 K) (f0_ok hK) (1 + (i : Int)) (by omega)) rfl rfl rfl sub_nil ?_; rintro x s3 m3 ⟨rfl, em⟩ hC; rw [em] at hC)) | ((with_reducible refine zcy ?_); refine zao rfl ?_) | ((with_reducible refine zcz ?_); refine zan rfl ?_))
    all_goals refine zch ?_
    all_goals repeat (first | refine zck ?_ | refine zcl ?_ | refine zcm ?_ | refine zcn ?_)
    refine run_slots [(0, spP p), (1, ptr vb), (2, ptr xb), (3, ptr ub), (5, .int .i64 (1 + (i : Int))), (6, .int .i64 (rep J (1 + (i : Int)))), (8, .int .i64 (sz J (rep J (1 + (i : Int)))))] ⟨rfl, rfl, rfl, rfl, rfl, rfl, rfl, trivial⟩ (fun junk => ?_)
    repeat' (first | refine zcp (by kernel_rfl) ?_ | refine zcn ?_ | (refine zap rfl ?_; first | refine reg_buildSlice rfl rfl rfl rfl rfl rfl (fun nb2 => ?_) | refine reg_append 2 3 rfl rfl rfl rfl rfl rfl rfl rfl (by omega) (fun _ _ => rfl) (fun a' cap' => ?_) | ((with_reducible refine zcu ?_); refine zan rfl ?_) | ((with_reducible refine zcv ?_); refine zan rfl ?_) | ((with_reducible refine zcw ?_); refine zab 1 rfl rfl rfl ?_) | ((with_reducible refine zda ?_); refine zau rfl rfl (by omega) ?_) | ((with_reducible refine zdd ?_); refine zae 1 rfl rfl rfl rfl rfl rfl rfl ?_)) | refine zch ?_)
    have e1 : (tld J i).length + 2 = (tld J (i + 1)).length := by omega
    have e2 : intsV (tld J i) ++ [.int .i64 (rep J (1 + (i : Int))), .int .i64 (sz J (rep J (1 + (i : Int))))] = intsV (tld J (i + 1)) := by simp only [tld, intsV, List.map_append, List.map_cons, List.map_nil]
    refine run_take [1, 1, 0] rfl ?_
    exact cut_end ⟨rfl, (i + 1, s3, a', cap'), ⟨rfl, rfl, rfl, rfl, congrArg (Value.int .i64) (by dsimp only; omega), trivial⟩, ⟨by dsimp only; rw [← e1, ← e2]; rfl, hC, by dsimp only; omega⟩, by dsimp only; omega⟩
  · have hil : i = k := by omega
    subst hil
    repeat' (first | refine zck ?_ | refine zcp (by kernel_rfl) ?_ | (refine zap rfl ?_; first | refine zad rfl hmv rfl ?_ | refine reg_lookup_in hwb rfl rfl (valW_look kn _ _ rfl) ?_ | (refine reg_fieldV rfl rfl ?_; rw [hm16]) | ((with_reducible refine zcu ?_); refine zan rfl ?_) | ((with_reducible refine zda ?_); refine zbj rfl rfl (by omega) ?_)) | refine zch ?_ | refine zcj rfl ?_)
    refine cut_exit rfl rfl ?_
    refine run_exch 1 (LstA 2 (.slice a (tld J i).length cap) (tld J i)) rfl LstA.ofSl rfl ?_
    repeat' (first | refine zck ?_ | (refine zap rfl ?_; first | ((with_reducible refine zcu ?_); refine zan rfl ?_)) | refine zch ?_)
    exact run_nil (leaves_nil (ends_pack [2, 0, 0] rfl (ends_none rfl ⟨rfl, (a, cap), s1, 0, rfl, rfl, by decide, hC⟩)))
theorem told_spec (w0 : World) (sh : Shared) (xb wb wb0 : Nat) (hK : 0 ≤ K ∧ K ≤ 38) (r : Rl) (kn : List (Int × Wd)) (T : Int) (hT : T ≤ 1000000) (hW : WM 368 T kn m) (h : Mm K m k (nC k) (tC k) J ad) (hxb : (xb, stO wb0 K r k0 J0) ∈ sh) :
    Vc.Fn PP w0 ((wb, mapI (knM kn)) :: sh) 12 [.map (some wb), ptr xb] []
      (fun v Γ => ∃ (st : Option Addr × Nat), v = .slice st.1 (tld J k).length st.2 ∧ Γ = [LstA 2 v (tld J k)]) := by
  refine fn_of_run en12 fn12 rfl rfl rfl ?_
  repeat (first | refine zck ?_ | refine zcl ?_ | refine zcm ?_ | refine zcn ?_)
  first | refine zcp (by kernel_rfl) ?_ | refine zcq PP_mixed (by kernel_rfl) (by kernel_rfl) ?_
  repeat' (refine zap rfl ?_; first | ((with_reducible refine zcv ?_); refine zan rfl ?_) | ((with_reducible refine zdg ?_); refine zaq (cs := [_]) rfl (fun nb => ?_)))
  all_goals refine zch ?_
  all_goals repeat (first | refine zck ?_ | refine zcl ?_ | refine zcm ?_ | refine zcn ?_)
  revert nb; intro vb
  refine run_share [0] rfl ?_
  repeat (first | refine zck ?_ | refine zcl ?_ | refine zcm ?_ | refine zcn ?_)
  first | refine zcp (by kernel_rfl) ?_ | refine zcq PP_mixed (by kernel_rfl) (by kernel_rfl) ?_
  repeat' (refine zap rfl ?_; first | ((with_reducible refine zdh ?_); refine zar (fun nb => ?_)))
  all_goals refine zch ?_
  all_goals repeat (first | refine zck ?_ | refine zcl ?_ | refine zcm ?_ | refine zcn ?_)
  revert nb; intro ub
  refine run_emp (A := LstA 2 (.slice none 0 0) []) ⟨none, 0, rfl, SlA_nil⟩ ?_
  refine run_pack [0, 0] rfl ?_
  have hD := done_mem (σ := Option Addr × Nat) w0 ((vb, vbC wb) :: (wb, mapI (knM kn)) :: sh) wb kn 368 T m hT hW 14 (List.toArray [ptr vb, ptr xb, ptr ub]) (StarsA [ubB ub (.slice none 0 0), LstA 2 (.slice none 0 0) []]) (fun st => StarsA [ubB ub (.slice st.1 (tld J k).length st.2), LstA 2 (.slice st.1 (tld J k).length st.2) (tld J k)]) (fun _ => m)
    (fun p s hC _ => (told1_spec w0 _ p xb vb ub wb wb0 hK r kn T hW s hC h (.tail _ (.tail _ hxb)) (.head _) (.tail _ (.head _))).mono (fun v Γ ⟨st, s', j, e1, e2, e3, e4⟩ => ⟨st, s', j, e1, e2, e3, e4⟩))
  repeat (first | refine zck ?_ | refine zcl ?_ | refine zcm ?_ | refine zcn ?_)
  first | refine zcp (by kernel_rfl) ?_ | refine zcq PP_mixed (by kernel_rfl) (by kernel_rfl) ?_
  repeat' (refine zap rfl ?_; first | refine zaa 0 rfl rfl rfl ?_ | ((with_reducible refine zcx ?_); (refine zai [0] hD rfl rfl rfl (fun p hp => by rcases List.mem_cons.1 hp with e | hp <;> first | (subst e; exact .tail _ (.head _)) | exact hp) ?_; rintro v Γ' ⟨st, nb, wa, wl, wc, kn2, rfl, rfl, hW2⟩)) | refine zan rfl ?_)
  all_goals refine zch ?_
  all_goals repeat (first | refine zck ?_ | refine zcl ?_ | refine zcm ?_ | refine zcn ?_)
  refine run_unpack [1] rfl ?_
  repeat' (first | refine zcp (by kernel_rfl) ?_ | (refine zap rfl ?_; first | ((with_reducible refine zcv ?_); refine zan rfl ?_) | ((with_reducible refine zcw ?_); refine zab 0 rfl rfl rfl ?_)) | refine zch ?_)
  exact run_ret (leaves_nil (ends_take [1] rfl (ends_one rfl rfl ⟨rfl, st, rfl, rfl⟩)))
end
end Go.Proofs.Ytpcnbaddkblbhaa

/- The law's ForestUndoes: one operation in a transaction. -/
namespace Go.Proofs.Ytpcnbaddkblbhaa
open Go.Vc Sim
set_option maxHeartbeats 8000000
abbrev pbC (x y : Int) : Obj := .cells (List.toArray [.int .u8 x, .int .u8 y]) 55 (0, 0)
abbrev nbC (k : Nat) : Obj := .cells (List.toArray [.int .i64 (k : Int)]) 2 (0, 0)
section
variable {K : Int} {m : Int → Int} {k k0 : Nat} {J J0 : Jn} {ad : Nat → Int}
/-- A memory that fulfils Q. -/
abbrev Qm (Q : (Int → Int) → Prop) := { m' : Int → Int // Q m' }
theorem un2_spec (w0 : World) (sh : Shared) (p xb wb0 : Nat) (hK : 0 ≤ K ∧ K ≤ 38) (r : Rl) (Q : (Int → Int) → Prop) (hU : Pg.Ok 368 (f0 K).make m fun _ m' => Q m') (s : Sp) (hC : Cu 368 s s m 0) (hxb : (xb, stO wb0 K r k0 J0) ∈ sh) :
    Vc.Fn PP w0 sh 17 [spP p, ptr xb] [SpaceA p s, StarsA []]
      (fun v Γ => ∃ (st : Qm Q) (s' : Sp) (j : Nat), v = .tuple #[] ∧ Γ = [SpaceA p s', StarsA []] ∧ j ≤ 50000 ∧ Cu 368 s s' st.1 j) := by
  have hmx : ∀ hF Γ w, Sh sh hF → St w0 hF Γ w → w.heap[xb]? = some (stO wb0 K r k0 J0) := fun hF Γ w h1 h2 => (h2.frame (h1 _ hxb)).2
  refine fn_of_run en17 fn17 rfl rfl rfl ?_
  repeat' (first | refine zcp (by kernel_rfl) ?_ | (refine zap rfl ?_; first | refine zad rfl hmx rfl ?_ | ((with_reducible refine zcu ?_); refine zan rfl ?_) | ((with_reducible refine zcx ?_); (refine reg_callO [0] hC (f0 K).bd_make hU (by omega) (foMake w0 p (f0 K) (f0_ok hK)) rfl rfl rfl sub_nil ?_; rintro x s2 m2 hQ hC)) | ((with_reducible refine zcy ?_); refine zao rfl ?_)) | refine zch ?_)
  exact run_nil (leaves_nil (ends_none rfl ⟨⟨m2, hQ⟩, s2, _, rfl, rfl, by decide, hC⟩))
theorem un3_spec (w0 : World) (sh : Shared) (p xb wb0 pb nb jb eb : Nat) (hK : 0 ≤ K ∧ K ≤ 38) (r : Rl) (Q : (Int → Int) → Prop) (b : Bool) (x y : Int) (hx : 0 ≤ x ∧ x ≤ 255) (hy : 0 ≤ y ∧ y ≤ 255) (hk : 0 < k) (hk2 : k ≤ 64) (hU : Pg.Ok 368 ((f0 K).union (1 + x % k) (1 + y % k)) m fun r m' => r = (b, 0) ∧ Q m') (s : Sp) (hC : Cu 368 s s m 0) (hxb : (xb, stO wb0 K r k0 J0) ∈ sh) (hpb : (pb, pbC x y) ∈ sh) (hnb : (nb, nbC k) ∈ sh) :
    Vc.Fn PP w0 sh 19 [spP p, ptr xb, ptr pb, ptr nb, ptr jb, ptr eb] [SpaceA p s, StarsA [okB jb false, erB eb 0]]
      (fun v Γ => ∃ (st : Qm Q) (s' : Sp) (j : Nat), v = .tuple #[] ∧ Γ = [SpaceA p s', StarsA [okB jb b, erB eb 0]] ∧ j ≤ 50000 ∧ Cu 368 s s' st.1 j) := by
  have hmx : ∀ hF Γ w, Sh sh hF → St w0 hF Γ w → w.heap[xb]? = some (stO wb0 K r k0 J0) := fun hF Γ w h1 h2 => (h2.frame (h1 _ hxb)).2
  have hmp : ∀ hF Γ w, Sh sh hF → St w0 hF Γ w → w.heap[pb]? = some (pbC x y) := fun hF Γ w h1 h2 => (h2.frame (h1 _ hpb)).2
  have hmn : ∀ hF Γ w, Sh sh hF → St w0 hF Γ w → w.heap[nb]? = some (nbC k) := fun hF Γ w h1 h2 => (h2.frame (h1 _ hnb)).2
  have hx0 := Int.emod_nonneg x (show (k : Int) ≠ 0 by omega)
  have hx1 := Int.emod_lt_of_pos x (show 0 < (k : Int) by omega)
  have hy0 := Int.emod_nonneg y (show (k : Int) ≠ 0 by omega)
  have hy1 := Int.emod_lt_of_pos y (show 0 < (k : Int) by omega)
  generalize hxt : x % (k : Int) = X at hx0 hx1 hU
  generalize hyt : y % (k : Int) = Y at hy0 hy1 hU
  refine fn_of_run en19 fn19 rfl rfl rfl ?_
  refine run_unpack [1] rfl ?_
  repeat' (first | refine zcq PP_mixed (by kernel_rfl) (by kernel_rfl) ?_ | (refine zap rfl ?_; first | refine zad rfl hmx rfl ?_ | refine zad rfl hmp rfl ?_ | refine zad rfl hmn rfl ?_ | refine zbz rfl (by omega) ?_ | (refine zay rfl rfl (by omega) ?_; first | rw [hxt] | rw [hyt]) | ((with_reducible refine zcu ?_); refine zan rfl ?_) | ((with_reducible refine zcx ?_); (refine reg_callO [2] hC ((f0 K).bd_union (1 + X) (1 + Y)) hU (by omega) (foUnion w0 p (f0 K) (f0_ok hK) (1 + X) (1 + Y) (by omega) (by omega)) rfl rfl rfl sub_nil ?_; rintro x s2 m2 ⟨rfl, hQ⟩ hC)) | ((with_reducible refine zcy ?_); refine zao rfl ?_) | ((with_reducible refine zcz ?_); refine zan rfl ?_) | ((with_reducible refine zda ?_); refine zau rfl rfl (by omega) ?_) | ((with_reducible refine zdd ?_); first | refine zae 1 rfl rfl rfl rfl rfl rfl rfl ?_ | refine zae 2 rfl rfl rfl rfl rfl rfl rfl ?_) | ((with_reducible refine zdf ?_); refine zat rfl rfl (by omega) ?_)) | refine zch ?_)
  exact run_nil (leaves_nil (ends_pack [0, 0, 0] rfl (ends_none rfl ⟨rfl, ⟨m2, hQ⟩, s2, _, rfl, rfl, by decide, hC⟩)))
theorem un4_spec (w0 : World) (sh : Shared) (p xb wb0 ub : Nat) (hK : 0 ≤ K ∧ K ≤ 38) (r : Rl) (Q : (Int → Int) → Prop) (hU : Pg.Ok 368 (f0 K).undo m fun r m' => r = (true, 0) ∧ Q m') (s : Sp) (hC : Cu 368 s s m 0) (hxb : (xb, stO wb0 K r k0 J0) ∈ sh) :
    Vc.Fn PP w0 sh 22 [spP p, ptr xb, ptr ub] [SpaceA p s, okB ub false]
      (fun v Γ => ∃ (st : Qm Q) (s' : Sp) (j : Nat), v = .tuple #[] ∧ Γ = [SpaceA p s', okB ub true] ∧ j ≤ 50000 ∧ Cu 368 s s' st.1 j) := by
  have hmx : ∀ hF Γ w, Sh sh hF → St w0 hF Γ w → w.heap[xb]? = some (stO wb0 K r k0 J0) := fun hF Γ w h1 h2 => (h2.frame (h1 _ hxb)).2
  refine fn_of_run en22 fn22 rfl rfl rfl ?_
  repeat' (first | refine zcp (by kernel_rfl) ?_ | (refine zap rfl ?_; first | refine zad rfl hmx rfl ?_ | ((with_reducible refine zcu ?_); refine zan rfl ?_) | ((with_reducible refine zcx ?_); (refine reg_callO [0] hC (f0 K).bd_undo hU (by omega) (foUndo w0 p (f0 K) (f0_ok hK)) rfl rfl rfl sub_nil ?_; rintro x s2 m2 ⟨rfl, hQ⟩ hC)) | ((with_reducible refine zcy ?_); refine zao rfl ?_) | ((with_reducible refine zcz ?_); refine zan rfl ?_) | ((with_reducible refine zdd ?_); refine zae 1 rfl rfl rfl rfl rfl rfl rfl ?_)) | refine zch ?_)
  exact run_nil (leaves_nil (ends_none rfl ⟨⟨m2, hQ⟩, s2, _, rfl, rfl, by decide, hC⟩))
end
end Go.Proofs.Ytpcnbaddkblbhaa

/- The law's ForestUndoes: the stack of what was told. -/
namespace Sim
open Go Go.Vc
def snaps : Jn → List Nat → List (List Int)
  | _ :: J, h :: H => tld J h :: snaps J H
  | _, _ => []
theorem snaps_len : ∀ (J : Jn) (H : List Nat), H.length ≤ J.length → (snaps J H).length = H.length
  | [], [], _ => rfl
  | [], _ :: _, h => absurd h (by simp)
  | _ :: _, [], _ => rfl
  | _ :: J, _ :: H, h => by
    simp only [snaps, List.length_cons] at h ⊢
    rw [snaps_len J H (by omega)]
theorem snaps_at : ∀ (J : Jn) (H : List Nat) (j h : Nat), H.length ≤ J.length → H[j]? = some h → (snaps J H)[j]? = some (tld (J.drop (j + 1)) h)
  | [], [], j, h, _, hh => by simp at hh
  | [], _ :: _, _, _, h, _ => absurd h (by simp)
  | _ :: _, [], j, h, _, hh => by simp at hh
  | _ :: J, h0 :: H, 0, h, _, hh => by
    simp at hh; subst hh
    simp [snaps]
  | _ :: J, h0 :: H, j + 1, h, hl, hh => by
    simp only [List.length_cons] at hl
    have := snaps_at J H j h (by omega) (by simpa using hh)
    simpa [snaps] using this
theorem snaps_join (ba : Int × Int) (J : Jn) (H : List Nat) (k : Nat) : (snaps (ba :: J) (k :: H)).reverse = (snaps J H).reverse ++ [tld J k] := by simp [snaps]
theorem snaps_rev (J : Jn) (H : List Nat) (j h : Nat) (hl : H.length ≤ J.length) (hh : H[j]? = some h) : (snaps J H).reverse[H.length - 1 - j]? = some (tld (J.drop (j + 1)) h) := by
  have hj := (List.getElem?_eq_some_iff.1 hh).1
  have hs := snaps_len J H hl
  rw [List.getElem?_reverse (by omega), hs, show H.length - 1 - (H.length - 1 - j) = j by omega]
  exact snaps_at J H j h hl hh
end Sim

