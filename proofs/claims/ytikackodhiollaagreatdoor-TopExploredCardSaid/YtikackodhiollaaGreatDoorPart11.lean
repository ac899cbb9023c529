import Derived.Test.YtikackodhiollaaGreatDoorPart10
import Derived.Test.YtikackodhiollaaGreatDoorKit
/- Own work: lemmas of this claim. -/
namespace Sim.Tx
open Go Go.Vc Sim
theorem tn_le : ∀ {m n : Nat}, m ≤ n → tn m ≤ tn n
 | 0, _, _ => Nat.zero_le _
 | m + 1, 0, h => absurd h (Nat.not_succ_le_zero _)
 | m + 1, n + 1, h => by
   have := tn_le (Nat.le_of_succ_le_succ h)
   show 1 + 3 * tn m ≤ 1 + 3 * tn n
   omega
theorem wgt_le (a : Wd) (x : AO × Gots) : wgt a x ≤ 6 := by
 unfold wgt
 split
 · exact Nat.le_refl _
 · split <;> decide
 · exact Nat.zero_le _
theorem sum_le (f : AO × Gots → Nat) (h : ∀ x, f x ≤ 6) : ∀ l : List (AO × Gots), (l.map f).sum ≤ 6 * l.length
 | [] => Nat.le_refl _
 | x :: l => by
   have h1 := sum_le f h l
   have h2 := h x
   rw [List.map_cons, List.sum_cons, List.length_cons]
   omega
theorem mu_le {L : List AO} {a : Wd} (h : Of L a) : a.mu ≤ 18 := by
 have h1 := sum_le (wgt a) (wgt_le a) a.ts
 have h2 : a.ts.length ≤ 3 := by rw [← List.length_map (f := (·.1)), h.1]; exact h.2
 unfold Wd.mu
 omega
theorem tn_small {n : Nat} (h : n ≤ 19) : tn n ≤ 2000000000 := Nat.le_trans (tn_le h) (by decide)
end Sim.Tx
namespace Go.Vc
theorem Fn.from {P : Program} {w0 : World} {sh : Shared} {f : FuncId} {args : List Value} {Γ Γ' : List Asn} {R : Value → List Asn → Prop} (h : Fn P w0 sh f args Γ R) (hΓ : ∀ g, Stars Γ' g → Stars Γ g) : Fn P w0 sh f args Γ' R :=
 ⟨h.enters, fun hF w hsh ⟨g, hs, hd, hsat⟩ => h.calls hF w hsh ⟨g, hΓ g hs, hd, hsat⟩⟩
end Go.Vc
namespace Go.Proofs.YtikackodhiollaaGreatDoor
variable (w0 : World)
open Go.Vc Sim Sim.Tx
set_option maxHeartbeats 8000000
def ToldR (q : Bool) (mf : GM ByteArray) (r : Value) (Γ : List Asn) : Prop :=
 ∃ (acc : List ByteArray) (a : Option Addr) (c : Nat) (n e : Int), r = .tuple #[.slice a acc.length c, .int .i64 n, .int .i64 e] ∧ Γ = [SlA 9 1 a acc.length c (strsV (sortB acc))] ∧ ((q = false ∧ e = 15) ∨ (q = true ∧ e = 0 ∧ ToldS mf acc))
theorem sortB_nil : strsV (sortB []) = [] := by
 show strsV (List.mergeSort [] _) = []
 rw [List.mergeSort_nil]
 rfl
theorem told_any (sh : Shared) (kb rs rf : Nat) (most : Int) (hk : (kb, wkO most rs rf) ∈ sh) (q : Bool) (ml mf : GM ByteArray) (h : q = true → (mf.map (·.1)).Nodup ∧ mf.length ≤ 60000) :
   Vc.Fn PP w0 sh 16 [.pointer (some ⟨kb, 0, none⟩), .bool q] [MapG kvS rs ml, MapG kvS rf mf] (ToldR q mf) := by
 cases q with
 | true =>
   obtain ⟨hn, hb⟩ := h rfl
   exact Fn.mono (exTold w0 sh kb rs rf most hk ml mf hn hb) (fun r Γ ⟨acc, a, c, h1, h2, h3⟩ => ⟨acc, a, c, _, _, h2, h3, .inr ⟨rfl, rfl, h1⟩⟩)
 | false =>
   refine zep en16 fn16 rfl rfl rfl ?_
   repeat (first|refine zck ?_|refine zcl ?_|refine zcm ?_|refine zcn ?_)
   first|refine zcp (by kernel_rfl) ?_|refine zcq PP_mixed (by kernel_rfl) (by kernel_rfl) ?_
   repeat' (refine zap rfl ?_; first|refine zan rfl ?_)
   all_goals (refine zch ?_; repeat (first|refine zck ?_|refine zcl ?_|refine zcm ?_|refine zcn ?_))
   first|refine zcp (by kernel_rfl) ?_|refine zcq PP_mixed (by kernel_rfl) (by kernel_rfl) ?_
   repeat' (refine zap rfl ?_; first|refine zan rfl ?_|refine zbx rfl ?_)
   all_goals (refine zch ?_; repeat (first|refine zck ?_|refine zcl ?_|refine zcm ?_|refine zcn ?_))
   refine zci rfl ?_
   repeat (first|refine zck ?_|refine zcl ?_|refine zcm ?_|refine zcn ?_|refine zco ?_)
   refine run_nilslice 9 1 ?_
   refine zec [2] rfl ?_
   repeat (first|refine zck ?_|refine zcl ?_|refine zcm ?_|refine zcn ?_)
   first|refine zcp (by kernel_rfl) ?_|refine zcq PP_mixed (by kernel_rfl) (by kernel_rfl) ?_
   repeat' (refine zap rfl ?_; first|refine zan rfl ?_)
   all_goals (refine zch ?_; repeat (first|refine zck ?_|refine zcl ?_|refine zcm ?_|refine zcn ?_))
   exact ret_tmp3 rfl ⟨[], none, 0, _, _, rfl, by rw [sortB_nil]; rfl, .inl ⟨rfl, rfl⟩⟩
def AllR (most : Nat) (a : Tx.Wd) (r : Value) (Γ : List Asn) : Prop :=
 ∃ (acc : List ByteArray) (ad : Option Addr) (c : Nat) (n e : Int), r = .tuple #[.slice ad acc.length c, .int .i64 n, .int .i64 e] ∧ Γ = [SlA 9 1 ad acc.length c (strsV (sortB acc))] ∧ ((e = 15 ∧ AllF gr most (a.mu + 1) a ([], [])) ∨ (e = 0 ∧ acc.length ≤ most ∧ acc.Nodup ∧ ∃ S, Tx.All gr (a.mu + 1) a ([], []) S ∧ ∀ o, o ∈ acc ↔ o ∈ S.2))
theorem expAll (ht : TabOk w0) (L : List AO) (most : Nat) (hmost : most ≤ 10000) (sh : Shared) (W : WoS) (a : Tx.Wd) (cnt : Nat) (hc : cnt ≤ 800) (hL : Of L a) (hW : RdWo w0 sh W a cnt) :
   Vc.Fn PP w0 sh 7 [woV W, .int .i64 most] [] (AllR most a) := by
 have hmu := mu_le hL
 have hA := fun kb rs rf sh' (hs : ∀ p ∈ sh, p ∈ sh') hk => exAll w0 ht L kb rs rf most hmost (a.mu + 1) sh' W a cnt [] [] ([], []) hL (Nat.lt_succ_self _) (by omega) (hW.mono hs (Nat.le_refl _)) hk Rel.nil (Nat.zero_le _)
 unfold AllFn at hA
 dsimp only [woV] at hA ⊢
 refine zep en7 fn7 rfl rfl rfl ?_
 repeat (first|refine zck ?_|refine zcl ?_|refine zcm ?_|refine zcn ?_)
 first|refine zcp (by kernel_rfl) ?_|refine zcq PP_mixed (by kernel_rfl) (by kernel_rfl) ?_
 repeat' (refine zap rfl ?_; first|refine zaq (cs := [_, _, _, _, _, _, _, _, _]) rfl (fun t2 => ?_)|refine zan rfl ?_)
 all_goals (refine zch ?_; repeat (first|refine zck ?_|refine zcl ?_|refine zcm ?_|refine zcn ?_))
 refine zeb [0] rfl ?_
 repeat (first|refine zck ?_|refine zcl ?_|refine zcm ?_|refine zcn ?_)
 first|refine zcp (by kernel_rfl) ?_|refine zcq PP_mixed (by kernel_rfl) (by kernel_rfl) ?_
 repeat' (refine zap rfl ?_; first|refine zan rfl ?_|(refine zai [] (exBegun w0 most) rfl rfl rfl zdj ?_; rintro v Γ ⟨kb, rs, rf, rfl, rfl⟩))
 all_goals (refine zch ?_; repeat (first|refine zck ?_|refine zcl ?_|refine zcm ?_|refine zcn ?_))
 repeat (first|refine zck ?_|refine zcl ?_|refine zcm ?_|refine zcn ?_|refine zco ?_)
 refine zeb [0] rfl ?_
 repeat (first|refine zck ?_|refine zcl ?_|refine zcm ?_|refine zcn ?_)
 first|refine zcp (by kernel_rfl) ?_|refine zcq PP_mixed (by kernel_rfl) (by kernel_rfl) ?_
 repeat' (refine zap rfl ?_; first|refine zan rfl ?_|refine zaa 1 rfl rfl rfl ?_|(refine zai [0, 0] (hA kb rs rf _ (fun p hp => .tail _ (.tail _ hp)) (.head _)) rfl rfl rfl (fun _ hp => hp) ?_; rintro v Γ ⟨q, ml, mf, S, rfl, hq1, hq2, rfl⟩)|(refine zai [0, 0] (told_any w0 _ kb rs rf most (.head _) q ml mf (fun hq => ⟨(hq1 hq).2.1.nd, by have h1 := (hq1 hq).2.1.few; have h2 := (hq1 hq).2.2; omega⟩)) rfl rfl rfl (fun _ hp => hp) ?_; rintro v Γ ⟨acc, ad, c, n, e, rfl, rfl, hT⟩))
 all_goals (refine zch ?_; repeat (first|refine zck ?_|refine zcl ?_|refine zcm ?_|refine zcn ?_))
 repeat (first|refine zck ?_|refine zcl ?_|refine zcm ?_|refine zcn ?_|refine zco ?_)
 refine ret_tmp3 rfl ⟨acc, ad, c, n, e, rfl, rfl, ?_⟩
 rcases hT with ⟨h1, h2⟩ | ⟨h1, h2, h3⟩
 · exact .inl ⟨h2, hq2 h1⟩
 · obtain ⟨g1, g2, g3⟩ := hq1 h1
   exact .inr ⟨h2, by have := g2.few; have := h3.2.2; omega, h3.1, S, g1, fun o => (h3.2.1 o).trans (g2.found o)⟩
def RedR (most : Nat) (a : Tx.Wd) (r : Value) (Γ : List Asn) : Prop :=
 ∃ (acc : List ByteArray) (ad : Option Addr) (c : Nat) (n e : Int), r = .tuple #[.slice ad acc.length c, .int .i64 n, .int .i64 e] ∧ Γ = [SlA 9 1 ad acc.length c (strsV (sortB acc))] ∧ (e = 15 ∨ (e = 0 ∧ acc.length ≤ most ∧ acc.Nodup ∧ ∃ S, Tx.Some' gr (a.mu + 1) a [] ([], []) S ∧ ∀ o, o ∈ acc ↔ o ∈ S.2))
theorem expRed (ht : TabOk w0) (L : List AO) (most : Nat) (hmost : most ≤ 10000) (sh : Shared) (W : WoS) (a : Tx.Wd) (cnt : Nat) (hc : cnt ≤ 800) (hL : Of L a) (hW : RdWo w0 sh W a cnt) :
   Vc.Fn PP w0 sh 8 [woV W, .int .i64 most] [] (RedR most a) := by
 have hmu := mu_le hL
 have hA := fun kb rs rf r sh' (hs : ∀ p ∈ sh, p ∈ sh') hk => exSome w0 ht L kb rs rf most hmost (a.mu + 1) 0 sh' W a cnt r [] [] [] [] ([], []) hL (Nat.lt_succ_self _) (by omega) (hW.mono hs (Nat.le_refl _)) hk StOk.nil (fun z hz => by cases hz) (RelZ.nil L) (Nat.zero_le _) (by have := tn_small (n := a.mu + 1) (by omega); omega)
 unfold SomeFn at hA
 dsimp only [woV] at hA ⊢
 refine zep en8 fn8 rfl rfl rfl ?_
 repeat (first|refine zck ?_|refine zcl ?_|refine zcm ?_|refine zcn ?_)
 first|refine zcp (by kernel_rfl) ?_|refine zcq PP_mixed (by kernel_rfl) (by kernel_rfl) ?_
 repeat' (refine zap rfl ?_; first|refine zaq (cs := [_, _, _, _, _, _, _, _, _]) rfl (fun t2 => ?_)|refine zan rfl ?_)
 all_goals (refine zch ?_; repeat (first|refine zck ?_|refine zcl ?_|refine zcm ?_|refine zcn ?_))
 refine zeb [0] rfl ?_
 repeat (first|refine zck ?_|refine zcl ?_|refine zcm ?_|refine zcn ?_)
 first|refine zcp (by kernel_rfl) ?_|refine zcq PP_mixed (by kernel_rfl) (by kernel_rfl) ?_
 repeat' (refine zap rfl ?_; first|refine zan rfl ?_|(refine zai [] (exBegun w0 most) rfl rfl rfl zdj ?_; rintro v Γ ⟨kb, rs, rf, rfl, rfl⟩))
 all_goals (refine zch ?_; repeat (first|refine zck ?_|refine zcl ?_|refine zcm ?_|refine zcn ?_))
 repeat (first|refine zck ?_|refine zcl ?_|refine zcm ?_|refine zcn ?_|refine zco ?_)
 refine zeb [0] rfl ?_
 repeat (first|refine zck ?_|refine zcl ?_|refine zcm ?_|refine zcn ?_)
 first|refine zcp (by kernel_rfl) ?_|refine zcq PP_mixed (by kernel_rfl) (by kernel_rfl) ?_
 repeat' (refine zap rfl ?_; first|refine zcc (fun nb => ?_)|refine zan rfl ?_|refine zaa 1 rfl rfl rfl ?_|(refine zai [0, 0, 0] (Fn.from (hA kb rs rf nb _ (fun p hp => .tail _ (.tail _ hp)) (.head _)) (fun g hg => Stars.emp_cons (A := entsA []) rfl (Stars.exchAt (mapG_make nb) (j := 2) rfl rfl hg))) rfl rfl rfl (fun _ hp => hp) ?_; rintro v Γ ⟨q, ents, mf, rfl, hq1, rfl⟩)|(refine zai [1, 1] (told_any w0 _ kb rs rf most (.head _) q (seenG ents) mf (fun hq => let ⟨S, g1, g2, g3⟩ := hq1 hq; ⟨g2.nd, by have h1 := g2.few; omega⟩)) rfl rfl rfl (fun _ hp => hp) ?_; rintro v Γ ⟨acc, ad, c, n, e, rfl, rfl, hT⟩))
 all_goals (refine zch ?_; repeat (first|refine zck ?_|refine zcl ?_|refine zcm ?_|refine zcn ?_))
 repeat (first|refine zck ?_|refine zcl ?_|refine zcm ?_|refine zcn ?_|refine zco ?_)
 refine zec [0] rfl ?_
 refine ret_tmp3 rfl ⟨acc, ad, c, n, e, rfl, rfl, ?_⟩
 rcases hT with ⟨h1, h2⟩ | ⟨h1, h2, h3⟩
 · exact .inl h2
 · obtain ⟨S, g1, g2, g3⟩ := hq1 h1
   exact .inr ⟨h2, by have := g2.few; have := h3.2.2; omega, h3.1, S, g1, fun o => (h3.2.1 o).trans (g2.found o)⟩
end Go.Proofs.YtikackodhiollaaGreatDoor
namespace Go.Proofs.YtikackodhiollaaGreatDoor
variable (w0 : World)
open Go.Vc Sim Sim.Tx
set_option maxHeartbeats 8000000
abbrev cdE (o : AO) : List Value := [codeI o false false false 0 0]
def row0 (o : AO) : TR := ⟨o, [], false, 0, 0, none, 0⟩
abbrev woC (m : MacS) (ta : Option Addr) (i tc nv k : Nat) : List Value := [.slice m.q.pa 2 m.q.pc, .slice m.q.va 3 m.q.vc, .slice m.l.fa 2 m.l.fc, .slice m.l.la 1 m.l.lc, .map none, .slice m.sa 3 m.sc, .int .i64 0, .slice ta i tc, .slice (some ⟨nv, 0, none⟩) k k]
abbrev woZ : List Value := [.slice none 0 0, .slice none 0 0, .slice none 0 0, .slice none 0 0, .map none, .slice none 0 0, .int .i64 0, .slice none 0 0, .slice none 0 0]
theorem rep_flat (n : Nat) : (List.replicate n false).flatMap boE = List.replicate n (Value.bool false) := by
 induction n with
 | zero => rfl
 | succ n ih => rw [List.replicate_succ, List.flatMap_cons, ih, List.replicate_succ]; rfl
theorem rep_cl (s : Shared) (nv n : Nat) (T : TypeId) (fr : Nat × Nat) (h : (nv, Obj.cells (List.toArray (List.replicate n (Value.bool false))) T fr) ∈ s) : RdCl w0 s 1 (some ⟨nv, 0, none⟩) n ((List.replicate n false).flatMap boE) := by
 rw [rep_flat]
 refine .inr ⟨nv, 0, List.replicate n (Value.bool false), T, fr, rfl, fun hF Γ w hsh hst => (hst.frame (hsh _ h)).2, ?_, ?_⟩
 · rw [List.drop_zero, Nat.mul_one, List.take_of_length_le (by rw [List.length_replicate]; exact Nat.le_refl _)]
 · rw [List.length_replicate]; omega
theorem taskMake (sh : Shared) (m : MacS) (x y : Int) (hx : I64 x) (hy : I64 y) (hm : RdMac w0 sh m x y 0) (ca : Option Addr) (cc : Nat) (L : List AO) (hok : ∀ o ∈ L, o.ok) (hL : L.length ≤ 3) (hl : RdSl w0 sh cdE 1 (.slice ca L.length cc) L) :
   Vc.Fn PP w0 sh 14 [macV m, .slice ca L.length cc] [] (fun r Γ => ∃ W : WoS, r = .tuple #[woV W, .int .i64 0] ∧ Γ = [RdO sh (fun s => RdWo w0 s W ⟨x, y, L.map fun o => (o, [])⟩ 0)]) := by
 have hSz := macSize w0 m
 refine zep en14 fn14 rfl rfl rfl ?_
 refine run_kept ?_
 repeat (first|refine zck ?_|refine zcl ?_|refine zcm ?_|refine zcn ?_)
 first|refine zcp (by kernel_rfl) ?_|refine zcq PP_mixed (by kernel_rfl) (by kernel_rfl) ?_
 repeat' (refine zap rfl ?_; first|refine zaq (cs := [_, _, _, _, _, _, _]) rfl (fun t2 => ?_)|refine zar (fun t4 => ?_)|refine zan rfl ?_)
 all_goals (refine zch ?_; repeat (first|refine zck ?_|refine zcl ?_|refine zcm ?_|refine zcn ?_))
 refine run_shareK [0] rfl ?_
 repeat (first|refine zck ?_|refine zcl ?_|refine zcm ?_|refine zcn ?_|refine zco ?_)
 repeat (first|refine zck ?_|refine zcl ?_|refine zcm ?_|refine zcn ?_)
 first|refine zcp (by kernel_rfl) ?_|refine zcq PP_mixed (by kernel_rfl) (by kernel_rfl) ?_
 repeat' (refine zap rfl ?_; first|refine zan rfl ?_|refine zaa 0 rfl rfl rfl ?_|refine zah [] hSz rfl rfl rfl zdj rfl ?_)
 all_goals (refine zch ?_; repeat (first|refine zck ?_|refine zcl ?_|refine zcm ?_|refine zcn ?_))
 repeat (first|refine zck ?_|refine zcl ?_|refine zcm ?_|refine zcn ?_|refine zco ?_)
 repeat (first|refine zck ?_|refine zcl ?_|refine zcm ?_|refine zcn ?_)
 first|refine zcp (by kernel_rfl) ?_|refine zcq PP_mixed (by kernel_rfl) (by kernel_rfl) ?_
 repeat' (refine zap rfl ?_; first|refine zan rfl ?_|refine zce rfl ?_|refine zbl rfl rfl (by omega) ?_)
 all_goals (refine zch ?_; repeat (first|refine zck ?_|refine zcl ?_|refine zcm ?_|refine zcn ?_))
 refine zcj rfl ?_
 repeat (first|refine zck ?_|refine zcl ?_|refine zcm ?_|refine zcn ?_|refine zco ?_)
 refine run_draw [.quiet, .quiet, .quiet, .loud, .quiet, .loud, .loud] PP_mixed (by kernel_rfl) (by kernel_rfl) ?_
 repeat' (refine zap rfl ?_; first|refine reg_makeSlice rfl rfl rfl (by omega) (by decide) (fun nv => ?_)|refine zcb rfl ?_|refine zar (fun t8 => ?_)|refine zae 2 rfl rfl rfl rfl rfl rfl rfl ?_|refine zan rfl ?_|refine zaa 0 rfl rfl rfl ?_|refine zce rfl ?_)
 refine zch ?_
 repeat (first|refine zck ?_|refine zcl ?_|refine zcm ?_|refine zcn ?_|refine zco ?_)
 repeat (first|refine zck ?_|refine zcl ?_|refine zcm ?_|refine zcn ?_)
 first|refine zcp (by kernel_rfl) ?_|refine zcq PP_mixed (by kernel_rfl) (by kernel_rfl) ?_
 repeat' (refine zap rfl ?_; first|refine zan rfl ?_|refine zce rfl ?_)
 all_goals (refine zch ?_; repeat (first|refine zck ?_|refine zcl ?_|refine zcm ?_|refine zcn ?_))
 refine run_nilslice 91 11 ?_
 refine run_loop (S := Nat × Option Addr × Nat) (fun s => [(1, .slice ca L.length cc), (4, .pointer (some ⟨t4, 0, none⟩)), (8, .pointer (some ⟨t8, 0, none⟩)), (26, .slice ca L.length cc), (27, .int .i64 L.length), (28, .int .i64 s.1)])
   (fun s Γ => Γ = [pt t4 (.cells (List.toArray woZ) 45 (0, 0)), pt nv (.cells (List.toArray (List.replicate L.length (.bool false))) 4 (0, 0)), pt t8 (.cells (List.toArray (woC m s.2.1 s.1 s.2.2 nv L.length)) 45 (0, 0)), SlA 91 11 s.2.1 s.1 s.2.2 (((L.take s.1).map row0).flatMap trE)] ∧ s.1 ≤ L.length)
   (fun s => L.length - s.1) (0, none, 0) ⟨rfl, rfl, rfl, rfl, rfl, rfl, trivial⟩ ⟨rfl, Nat.zero_le _⟩ ?_
 rintro ⟨j, ta, tc⟩ Γ junk ⟨rfl, hj⟩
 dsimp only at hj ⊢
 by_cases he : j = L.length
 · subst he
   repeat (first|refine zck ?_|refine zcl ?_|refine zcm ?_|refine zcn ?_)
   first|refine zcp (by kernel_rfl) ?_|refine zcq PP_mixed (by kernel_rfl) (by kernel_rfl) ?_
   repeat' (refine zap rfl ?_; first|refine zbh rfl rfl (by omega) ?_)
   all_goals (refine zch ?_; repeat (first|refine zck ?_|refine zcl ?_|refine zcm ?_|refine zcn ?_))
   refine zcj rfl ?_
   refine zer rfl rfl ?_
   repeat (first|refine zck ?_|refine zcl ?_|refine zcm ?_|refine zcn ?_|refine zco ?_)
   repeat (first|refine zck ?_|refine zcl ?_|refine zcm ?_|refine zcn ?_)
   first|refine zcp (by kernel_rfl) ?_|refine zcq PP_mixed (by kernel_rfl) (by kernel_rfl) ?_
   repeat' (refine zap rfl ?_; first|refine zae 0 rfl rfl rfl rfl rfl rfl rfl ?_|refine zan rfl ?_|refine zab 2 rfl rfl rfl ?_)
   all_goals (refine zch ?_; repeat (first|refine zck ?_|refine zcl ?_|refine zcm ?_|refine zcn ?_))
   repeat (first|refine zck ?_|refine zcl ?_|refine zcm ?_|refine zcn ?_|refine zco ?_)
   refine run_shareK [1] rfl ?_
   refine run_shareA [2] (fun s => RdCl w0 s 11 ta L.length (((L.take L.length).map row0).flatMap trE) ∧ L.length ≤ tc) RdO.ofCl rfl ?_
   intro bl hs hv
   rw [List.take_length] at hv
   exact retK [] (fun s => RdWo w0 s ⟨m, ta, tc, some ⟨nv, 0, none⟩, L.length, L.length⟩ ⟨x, y, L.map fun o => (o, [])⟩ 0) (fun s hs3 =>
     ⟨hm.mono (fun p hp => hs3 _ (hs _ (.tail _ (.tail _ hp)))) (Nat.le_refl _), ⟨L.map row0, by rw [List.map_map]; rfl, hv.1.mono hs3, fun z hz => by
       obtain ⟨o, ho, rfl⟩ := List.mem_map.1 hz
       exact ⟨.inl ⟨rfl, rfl, rfl⟩, Nat.le_refl _, Nat.le_refl _, ⟨Int.le_refl _, Int.le_refl _⟩, hok o ho, fun p hp => by cases hp⟩⟩, hv.2, rep_cl w0 s nv L.length _ _ (hs3 _ (hs _ (.head _))), Nat.le_refl _, by dsimp only; rw [List.length_map], by dsimp only; rw [List.length_map]; exact hL, hx, hy⟩) rfl (zen rfl (zeo 0 rfl rfl rfl) rfl ⟨rfl, _, rfl, rfl⟩)
 · obtain ⟨o, ho⟩ : ∃ o, L[j]? = some o := ⟨_, List.getElem?_eq_getElem (by omega)⟩
   obtain ⟨bb, off, cc2, T, fr, ea, e2, _, e3⟩ := hl.cells ho
   subst ea
   have hS := start_spec w0 o
   repeat (first|refine zck ?_|refine zcl ?_|refine zcm ?_|refine zcn ?_)
   first|refine zcp (by kernel_rfl) ?_|refine zcq PP_mixed (by kernel_rfl) (by kernel_rfl) ?_
   repeat' (refine zap rfl ?_; first|refine zbg rfl rfl (by omega) ?_)
   all_goals (refine zch ?_; repeat (first|refine zck ?_|refine zcl ?_|refine zcm ?_|refine zcn ?_))
   refine zci rfl ?_
   repeat (first|refine zck ?_|refine zcl ?_|refine zcm ?_|refine zcn ?_|refine zco ?_)
   repeat (first|refine zck ?_|refine zcl ?_|refine zcm ?_|refine zcn ?_)
   first|refine zcp (by kernel_rfl) ?_|refine zcq PP_mixed (by kernel_rfl) (by kernel_rfl) ?_
   repeat' (refine zap rfl ?_; first|refine zas rfl rfl (by omega) ?_|refine zad rfl (fun hF Γ w h1 h2 => e2 hF Γ w (fun p hp => h1 p (.tail _ hp)) h2) (e3 0 _ rfl _ (by omega)) ?_|refine zan rfl ?_)
   all_goals (refine zch ?_; repeat (first|refine zck ?_|refine zcl ?_|refine zcm ?_|refine zcn ?_))
   repeat (first|refine zck ?_|refine zcl ?_|refine zcm ?_|refine zcn ?_|refine zco ?_)
   refine run_drawT [2] [(.quiet, 0), (.quiet, 1), (.quiet, 2), (.loud, 3), (.loud, 4), (.loud, 5)] [(.quiet, 6), (.loud, 7)] PP_mixed (by kernel_rfl) (by kernel_rfl) rfl ?_
   repeat' (refine zap rfl ?_; first|refine zdt rfl rfl rfl rfl rfl rfl (fun nb2 => ?_)|refine zan rfl ?_|refine zaa 0 rfl rfl rfl ?_|refine zah [] hS rfl rfl rfl zdj rfl ?_|refine zdz 2 3 (new := trE (row0 o)) rfl rfl rfl rfl rfl rfl rfl rfl (by omega) (fun _ _ => rfl) (fun a1 c1 => ?_)|refine zao rfl ?_)
   refine reg_turn ?_
   repeat' (refine zap rfl ?_; first|refine zae 0 rfl rfl rfl rfl rfl rfl rfl ?_|refine zao rfl ?_)
   refine zch ?_
   repeat (first|refine zck ?_|refine zcl ?_|refine zcm ?_|refine zcn ?_|refine zco ?_)
   refine zec [1, 1, 0, 0] rfl ?_
   repeat (first|refine zck ?_|refine zcl ?_|refine zcm ?_|refine zcn ?_)
   first|refine zcp (by kernel_rfl) ?_|refine zcq PP_mixed (by kernel_rfl) (by kernel_rfl) ?_
   repeat' (refine zap rfl ?_; first|refine zan rfl ?_|refine zau rfl rfl (by omega) ?_)
   all_goals (refine zch ?_; repeat (first|refine zck ?_|refine zcl ?_|refine zcm ?_|refine zcn ?_))
   refine zeq ⟨rfl, (j + 1, a1, c1), ⟨rfl, rfl, rfl, rfl, rfl, zes (by omega), trivial⟩, ⟨?_, by dsimp only; omega⟩, by dsimp only; omega⟩
   dsimp only
   rw [take_snoc ho, List.map_append, List.flatMap_append, show List.flatMap trE (List.map row0 [o]) = trE (row0 o) from List.append_nil _]
   rfl
end Go.Proofs.YtikackodhiollaaGreatDoor
namespace Go.Vc
theorem Fn.kept {P : Program} {w0 : World} {sh : Shared} {Γ : List Asn} {f : FuncId} {args : List Value} {A : Asn} {ψ : Shared → Prop} {ι : Type} {R : ι → Value → Prop} {φ : ι → Shared → Prop} (hen : Enters P f) (hA : ∀ g, A g → RdO sh ψ g)
   (h : ∀ sh', (∀ p ∈ sh, p ∈ sh') → ψ sh' → Fn P w0 sh' f args Γ fun r Γ' => ∃ i, R i r ∧ Γ' = [RdO sh' (φ i)]) :
   Fn P w0 sh f args (A :: Γ) fun r Γ' => ∃ i, R i r ∧ Γ' = [RdO sh (φ i)] := by
 refine ⟨hen, fun hF w hsh hst => ?_⟩
 have h1 : St w0 hF (Γ ++ [A]) w := hst.perm (List.perm_append_comm (l₁ := [_]))
 obtain ⟨g, hg, hdj, hst2⟩ := h1.split
 obtain ⟨bl, hb0, hψ⟩ := hA g (Stars.one.1 hg)
 have hb : Back sh (sh ++ bl) g := Back.more hb0
 refine ((h (sh ++ bl) (fun _ hp => List.mem_append_left _ hp) hψ).calls _ w (hb.sh hdj hsh) hst2).mono ?_
 rintro e w' ⟨r, Γ', he, ⟨i, h4, rfl⟩, h5⟩
 have h6 := h5.join (Γ' := [fun h => ∀ p ∈ bl, h p.1 = some p.2]) (Stars.one.2 hb0) hdj
 obtain ⟨g', ⟨g1, g2, hd, rfl, ⟨bl2, k1, k2⟩, hs2⟩, hdj2, hsat⟩ := h6
 refine ⟨r, _, he, ⟨i, h4, rfl⟩, g1.or g2, Stars.one.2 ⟨bl ++ bl2, fun p hp => ?_, by rw [← List.append_assoc]; exact k2⟩, hdj2, hsat⟩
 rcases List.mem_append.1 hp with hp | hp
 · exact or_right hd (Stars.one.1 hs2 p hp)
 · exact or_left (k1 p hp)
end Go.Vc
namespace Go.Proofs.YtikackodhiollaaGreatDoor
variable (w0 : World)
open Go.Vc Sim Sim.Tx
set_option maxHeartbeats 8000000
abbrev opE (o : AO) : List Value := [.int .i64 o.kd, .int .i64 (plI o.pl), .int .i64 o.N]
abbrev pairV (x y : Int) : Value := .agg (List.toArray [.int .i64 x, .int .i64 y])
theorem pair_rd (sh : Shared) (nb : Nat) (x y : Int) (g : Heap) (hg : pt nb (.cells (List.toArray (wdE x ++ wdE y)) 61 (0, 0)) g) : RdO sh (fun s => RdSl w0 s wdE 3 (.slice (some ⟨nb, 0, none⟩) 2 2) [x, y]) g := by
 refine RdO.mono (φ := fun s => (nb, Obj.cells (List.toArray (wdE x ++ wdE y)) 61 (0, 0)) ∈ s) (fun s _ hs => ?_) g (RdO.ofPt g hg)
 have hc : RdCl w0 s 3 (some ⟨nb, 0, none⟩) 2 (wdE x ++ wdE y) := .inr ⟨nb, 0, wdE x ++ wdE y, _, _, rfl, fun hF Γ w hsh hst => (hst.frame (hsh _ hs)).2, rfl, Nat.le_refl _⟩
 exact RdCl.sl (l := [x, y]) (cap := 2) (fun _ _ => rfl) hc (Nat.le_refl _)
theorem tpWorld (sh : Shared) (x y : Int) (hx : I64 x) (hy : I64 y) (la : Option Addr) (lc : Nat) (L : List AO) (hok : ∀ o ∈ L, o.ok) (hL : L.length ≤ 3) (hl : RdSl w0 sh opE 3 (.slice la L.length lc) L) :
   Vc.Fn PP w0 sh 6 [pairV x y, .slice la L.length lc] [] (fun r Γ => ∃ W : WoS, r = .tuple #[woV W, .bool true] ∧ Γ = [RdO sh (fun s => RdWo w0 s W (Tx.begin (x, y) L) 0)]) := by
 have hMa := fun (sh' : Shared) (nb : Nat) => Fn.kept (w0 := w0) (sh := sh') (Γ := []) (A := pt nb (.cells (List.toArray (wdE x ++ wdE y)) 61 (0, 0))) (ψ := fun s => RdSl w0 s wdE 3 (.slice (some ⟨nb, 0, none⟩) 2 2) [x, y]) (ι := MacS) (R := fun m r => r = .tuple #[macV m, .int .i64 0]) (φ := fun m s => RdMac w0 s m x y 0) en12
   (fun g hg => pair_rd w0 sh' nb x y g hg) (fun sh'' hs hψ => macNew w0 sh'' ⟨nb, 0, none⟩ 2 x y hx hy hψ)
 refine zep en6 fn6 rfl rfl rfl ?_
 refine run_kept ?_
 repeat (first|refine zck ?_|refine zcl ?_|refine zcm ?_|refine zcn ?_)
 first|refine zcp (by kernel_rfl) ?_|refine zcq PP_mixed (by kernel_rfl) (by kernel_rfl) ?_
 repeat' (refine zap rfl ?_; first|refine zaq (cs := [_, _]) rfl (fun t2 => ?_)|refine zar (fun t4 => ?_)|refine zan rfl ?_)
 all_goals (refine zch ?_; repeat (first|refine zck ?_|refine zcl ?_|refine zcm ?_|refine zcn ?_))
 refine run_shareK [0] rfl ?_
 repeat (first|refine zck ?_|refine zcl ?_|refine zcm ?_|refine zcn ?_|refine zco ?_)
 repeat (first|refine zck ?_|refine zcl ?_|refine zcm ?_|refine zcn ?_)
 first|refine zcp (by kernel_rfl) ?_|refine zcq PP_mixed (by kernel_rfl) (by kernel_rfl) ?_
 repeat' (refine zap rfl ?_; first|refine zcb rfl ?_|refine zar (fun t6 => ?_)|refine zdt rfl rfl rfl rfl rfl rfl (fun nb2 => ?_)|refine zan rfl ?_|refine zaa 0 rfl rfl rfl ?_|(refine zai [1] (hMa _ _) rfl rfl rfl (fun _ hp => hp) ?_; rintro v Γ ⟨m, rfl, rfl⟩)|refine zae 2 rfl rfl rfl rfl rfl rfl rfl ?_|refine zat rfl rfl (by omega) ?_)
 all_goals (refine zch ?_; repeat (first|refine zck ?_|refine zcl ?_|refine zcm ?_|refine zcn ?_))
 repeat (first|refine zck ?_|refine zcl ?_|refine zcm ?_|refine zcn ?_|refine zco ?_)
 refine run_shareK [2] rfl ?_
 refine run_shareO [0] (fun _ hp => .tail _ hp) rfl ?_
 intro bl hs hu hm
 have hm := hm.mono hu (Nat.le_refl _)
 repeat (first|refine zck ?_|refine zcl ?_|refine zcm ?_|refine zcn ?_)
 first|refine zcp (by kernel_rfl) ?_|refine zcq PP_mixed (by kernel_rfl) (by kernel_rfl) ?_
 repeat' (refine zap rfl ?_; first|refine zan rfl ?_)
 all_goals (refine zch ?_; repeat (first|refine zck ?_|refine zcl ?_|refine zcm ?_|refine zcn ?_))
 repeat (first|refine zck ?_|refine zcl ?_|refine zcm ?_|refine zcn ?_|refine zco ?_)
 repeat (first|refine zck ?_|refine zcl ?_|refine zcm ?_|refine zcn ?_)
 first|refine zcp (by kernel_rfl) ?_|refine zcq PP_mixed (by kernel_rfl) (by kernel_rfl) ?_
 repeat' (refine zap rfl ?_; first|refine zan rfl ?_|refine zce rfl ?_)
 all_goals (refine zch ?_; repeat (first|refine zck ?_|refine zcl ?_|refine zcm ?_|refine zcn ?_))
 refine run_nilslice 64 1 ?_
 refine run_loop (S := Nat × Option Addr × Nat) (fun s => [(4, .pointer (some ⟨t4, 0, none⟩)), (6, .pointer (some ⟨t6, 0, none⟩)), (7, .int .i64 0), (8, .slice s.2.1 s.1 s.2.2), (26, .slice la L.length lc), (27, .int .i64 L.length), (28, .int .i64 s.1)])
   (fun s Γ => Γ = [pt t4 (.cells (List.toArray woZ) 45 (0, 0)), SlA 64 1 s.2.1 s.1 s.2.2 ((L.take s.1).flatMap cdE)] ∧ s.1 ≤ L.length)
   (fun s => L.length - s.1) (0, none, 0) ⟨rfl, rfl, rfl, rfl, rfl, rfl, rfl, trivial⟩ ⟨rfl, Nat.zero_le _⟩ ?_
 rintro ⟨j, ta, tc⟩ Γ junk ⟨rfl, hj⟩
 dsimp only at hj ⊢
 by_cases he : j = L.length
 · subst he
   repeat (first|refine zck ?_|refine zcl ?_|refine zcm ?_|refine zcn ?_)
   first|refine zcp (by kernel_rfl) ?_|refine zcq PP_mixed (by kernel_rfl) (by kernel_rfl) ?_
   repeat' (refine zap rfl ?_; first|refine zbh rfl rfl (by omega) ?_)
   all_goals (refine zch ?_; repeat (first|refine zck ?_|refine zcl ?_|refine zcm ?_|refine zcn ?_))
   refine zcj rfl ?_
   refine zer rfl rfl ?_
   repeat (first|refine zck ?_|refine zcl ?_|refine zcm ?_|refine zcn ?_|refine zco ?_)
   refine run_shareA [1] (fun s => RdSl w0 s cdE 1 (.slice ta L.length tc) (L.take L.length)) (RdO.ofSl (fun _ _ => rfl) (by rw [List.take_length])) rfl ?_
   intro bl2 hs2 hc
   rw [List.take_length] at hc
   have hMk := taskMake w0 _ m x y hx hy (hm.mono hs2 (Nat.le_refl _)) ta tc L hok hL hc
   repeat (first|refine zck ?_|refine zcl ?_|refine zcm ?_|refine zcn ?_)
   first|refine zcp (by kernel_rfl) ?_|refine zcq PP_mixed (by kernel_rfl) (by kernel_rfl) ?_
   repeat' (refine zap rfl ?_; first|refine zar (fun t13 => ?_)|refine zan rfl ?_|refine zaa 0 rfl rfl rfl ?_|(refine zai [] hMk rfl rfl rfl (fun _ hp => hp) ?_; rintro v Γ ⟨W, rfl, rfl⟩)|refine zae 2 rfl rfl rfl rfl rfl rfl rfl ?_)
   all_goals (refine zch ?_; repeat (first|refine zck ?_|refine zcl ?_|refine zcm ?_|refine zcn ?_))
   repeat (first|refine zck ?_|refine zcl ?_|refine zcm ?_|refine zcn ?_|refine zco ?_)
   refine run_shareK [2] rfl ?_
   repeat (first|refine zck ?_|refine zcl ?_|refine zcm ?_|refine zcn ?_)
   first|refine zcp (by kernel_rfl) ?_|refine zcq PP_mixed (by kernel_rfl) (by kernel_rfl) ?_
   repeat' (refine zap rfl ?_; first|refine zae 1 rfl rfl rfl rfl rfl rfl rfl ?_|refine zaj rfl ?_|refine zan rfl ?_|refine zaa 0 rfl rfl rfl ?_|refine zbc rfl rfl (by omega) ?_|refine zbu rfl ?_)
   all_goals (refine zch ?_; repeat (first|refine zck ?_|refine zcl ?_|refine zcm ?_|refine zcn ?_))
   repeat (first|refine zck ?_|refine zcl ?_|refine zcm ?_|refine zcn ?_|refine zco ?_)
   refine run_shareO [0] (fun _ hp => .tail _ hp) rfl ?_
   intro bl3 hs3 hu3 hw
   exact retK [] (fun s => RdWo w0 s W (Tx.begin (x, y) L) 0) (fun s hs4 => hw.mono (fun p hp => hs4 p (hu3 p hp)) (Nat.le_refl _)) rfl (zen rfl (zeo 0 rfl rfl rfl) rfl ⟨rfl, W, rfl, rfl⟩)
 · obtain ⟨o, ho⟩ : ∃ o, L[j]? = some o := ⟨_, List.getElem?_eq_getElem (by omega)⟩
   obtain ⟨bb, off, cc2, T, fr, ea, e2, e3, _⟩ := hl.cells ho
   subst ea
   have hN := new_spec w0 o (hok o (List.mem_of_getElem? ho))
   repeat (first|refine zck ?_|refine zcl ?_|refine zcm ?_|refine zcn ?_)
   first|refine zcp (by kernel_rfl) ?_|refine zcq PP_mixed (by kernel_rfl) (by kernel_rfl) ?_
   repeat' (refine zap rfl ?_; first|refine zbg rfl rfl (by omega) ?_)
   all_goals (refine zch ?_; repeat (first|refine zck ?_|refine zcl ?_|refine zcm ?_|refine zcn ?_))
   refine zci rfl ?_
   repeat (first|refine zck ?_|refine zcl ?_|refine zcm ?_|refine zcn ?_|refine zco ?_)
   repeat (first|refine zck ?_|refine zcl ?_|refine zcm ?_|refine zcn ?_)
   first|refine zcp (by kernel_rfl) ?_|refine zcq PP_mixed (by kernel_rfl) (by kernel_rfl) ?_
   repeat' (refine zap rfl ?_; first|refine zar (fun t10 => ?_)|refine zas rfl rfl (by omega) ?_|refine zad rfl (fun hF Γ w h1 h2 => e2 hF Γ w (fun p hp => h1 p (hs _ (.tail _ (.tail _ hp)))) h2) (e3 _ (by omega)) ?_|refine zae 2 rfl rfl rfl rfl rfl rfl rfl ?_)
   all_goals (refine zch ?_; repeat (first|refine zck ?_|refine zcl ?_|refine zcm ?_|refine zcn ?_))
   repeat (first|refine zck ?_|refine zcl ?_|refine zcm ?_|refine zcn ?_|refine zco ?_)
   repeat (first|refine zck ?_|refine zcl ?_|refine zcm ?_|refine zcn ?_)
   first|refine zcp (by kernel_rfl) ?_|refine zcq PP_mixed (by kernel_rfl) (by kernel_rfl) ?_
   repeat' (refine zap rfl ?_; first|refine zan rfl ?_|refine zab 2 rfl rfl rfl ?_|refine zah [] hN rfl rfl rfl zdj rfl ?_)
   all_goals (refine zch ?_; repeat (first|refine zck ?_|refine zcl ?_|refine zcm ?_|refine zcn ?_))
   repeat (first|refine zck ?_|refine zcl ?_|refine zcm ?_|refine zcn ?_|refine zco ?_)
   repeat (first|refine zck ?_|refine zcl ?_|refine zcm ?_|refine zcn ?_)
   first|refine zcp (by kernel_rfl) ?_|refine zcq PP_mixed (by kernel_rfl) (by kernel_rfl) ?_
   repeat' (refine zap rfl ?_; first|refine zan rfl ?_|refine zbf rfl rfl (by omega) ?_)
   all_goals (refine zch ?_; repeat (first|refine zck ?_|refine zcl ?_|refine zcm ?_|refine zcn ?_))
   refine zcj rfl ?_
   repeat (first|refine zck ?_|refine zcl ?_|refine zcm ?_|refine zcn ?_|refine zco ?_)
   refine zec [0, 0] rfl ?_
   repeat (first|refine zck ?_|refine zcl ?_|refine zcm ?_|refine zcn ?_)
   first|refine zcp (by kernel_rfl) ?_|refine zcq PP_mixed (by kernel_rfl) (by kernel_rfl) ?_
   repeat' (refine zap rfl ?_; first|refine zdt rfl rfl rfl rfl rfl rfl (fun nb2 => ?_)|refine zan rfl ?_|refine zdz 1 2 (new := cdE o) rfl rfl rfl rfl rfl rfl rfl rfl (by omega) (fun _ _ => rfl) (fun a1 c1 => ?_))
   all_goals (refine zch ?_; repeat (first|refine zck ?_|refine zcl ?_|refine zcm ?_|refine zcn ?_))
   refine zec [0, 0] rfl ?_
   repeat (first|refine zck ?_|refine zcl ?_|refine zcm ?_|refine zcn ?_|refine zco ?_)
   repeat (first|refine zck ?_|refine zcl ?_|refine zcm ?_|refine zcn ?_)
   first|refine zcp (by kernel_rfl) ?_|refine zcq PP_mixed (by kernel_rfl) (by kernel_rfl) ?_
   repeat' (refine zap rfl ?_; first|refine zan rfl ?_|refine zau rfl rfl (by omega) ?_)
   all_goals (refine zch ?_; repeat (first|refine zck ?_|refine zcl ?_|refine zcm ?_|refine zcn ?_))
   refine zeq ⟨rfl, (j + 1, a1, c1), ⟨rfl, rfl, rfl, rfl, rfl, rfl, zes (by omega), trivial⟩, ⟨?_, by dsimp only; omega⟩, by dsimp only; omega⟩
   dsimp only
   rw [take_snoc ho, List.flatMap_append, show List.flatMap cdE [o] = cdE o from List.append_nil _]
end Go.Proofs.YtikackodhiollaaGreatDoor
namespace Sim.Tx
open Go Go.Vc Sim
def GoodS (ml : GM ByteArray) : Prop := (ml.map (·.1)).Nodup ∧ ∀ p ∈ ml, p.2 = .bool true
theorem insG_vals {κ : Type} [DecidableEq κ] (x : κ) : ∀ {ml : GM κ}, (∀ p ∈ ml, p.2 = Value.bool true) → ∀ p ∈ insG ml x (.bool true), p.2 = Value.bool true
 | [], _, p, hp => by rw [List.mem_singleton.1 hp]
 | (a, v) :: ml, h, p, hp => by
   unfold insG at hp
   split at hp
   · rcases List.mem_cons.1 hp with rfl | hp
     · rfl
     · exact h p (.tail _ hp)
   · rcases List.mem_cons.1 hp with rfl | hp
     · exact h _ (.head _)
     · exact insG_vals x (fun q hq => h q (.tail _ hq)) p hp
theorem GoodS.ins {ml : GM ByteArray} (h : GoodS ml) (x : ByteArray) : GoodS (insG ml x (.bool true)) := ⟨insG_nodup h.1 _ _, insG_vals x h.2⟩
theorem lookG_inM {κ : Type} [DecidableEq κ] {x : κ} : ∀ {ml : GM κ}, x ∈ ml.map (·.1) → ∃ v, lookG ml x = some v ∧ (x, v) ∈ ml
 | [], h => by cases h
 | (a, v) :: ml, h => by
   unfold lookG
   by_cases e : a = x
   · subst e; exact ⟨v, if_pos rfl, .head _⟩
   · rw [if_neg e]
     rcases List.mem_cons.1 h with h | h
     · exact absurd h.symm e
     · obtain ⟨u, h1, h2⟩ := lookG_inM h
       exact ⟨u, h1, .tail _ h2⟩
theorem GoodS.look {ml : GM ByteArray} (h : GoodS ml) {x : ByteArray} (hx : x ∈ ml.map (·.1)) : (lookG ml x).getD (.bool false) = .bool true := by
 obtain ⟨v, h1, h2⟩ := lookG_inM hx
 rw [h1, Option.getD_some]
 exact h.2 _ h2
def fals : List Bool → Nat
 | [] => 0
 | b :: l => (if b = true then 0 else 1) + fals l
theorem fals_set : ∀ {d : List Bool} {i : Nat}, d[i]? = some false → fals (d.set i true) + 1 = fals d
 | [], _, h => by simp at h
 | b :: l, 0, h => by
   simp at h
   subst h
   simp [fals]
   omega
 | b :: l, i + 1, h => by
   have h2 : l[i]? = some false := by simpa using h
   have := fals_set h2
   simp only [List.set_cons_succ, fals]
   omega
def OrdB (L : List AO) (d : List Bool) (w : Int × Int) (i : Nat) (o : ByteArray) : Prop :=
 ∃ j, j < i ∧ ∃ p, L[j]? = some p ∧ d[j]? = some false ∧ ∃ f, Ord L (d.set j true) (ap p w) f ∧ o = wtext f.1 f.2
theorem ordB_succ_true {L : List AO} {d : List Bool} {w : Int × Int} {i : Nat} {o : ByteArray} (h : d[i]? = some true) : OrdB L d w (i + 1) o ↔ OrdB L d w i o := by
 constructor
 · rintro ⟨j, hj, p, h1, h2, h3⟩
   by_cases e : j = i
   · subst e; rw [h] at h2; cases h2
   · exact ⟨j, by omega, p, h1, h2, h3⟩
 · rintro ⟨j, hj, h1⟩
   exact ⟨j, by omega, h1⟩
theorem ordB_succ_false {L : List AO} {d : List Bool} {w : Int × Int} {i : Nat} {o : ByteArray} {p : AO} (hp : L[i]? = some p) (h : d[i]? = some false) : OrdB L d w (i + 1) o ↔ OrdB L d w i o ∨ ∃ f, Ord L (d.set i true) (ap p w) f ∧ o = wtext f.1 f.2 := by
 constructor
 · rintro ⟨j, hj, q, h1, h2, h3⟩
   by_cases e : j = i
   · subst e; rw [hp] at h1; cases h1; exact .inr h3
   · exact .inl ⟨j, by omega, q, h1, h2, h3⟩
 · rintro (⟨j, hj, h1⟩ | h3)
   · exact ⟨j, by omega, h1⟩
   · exact ⟨i, by omega, p, hp, h, h3⟩
theorem ord_last {L : List AO} {d : List Bool} {w : Int × Int} (hd : ∀ i, i < L.length → d[i]? = some true) (o : ByteArray) : (∃ f, Ord L d w f ∧ o = wtext f.1 f.2) ↔ o = wtext w.1 w.2 := by
 constructor
 · rintro ⟨f, h, rfl⟩
   cases h with
   | last _ => rfl
   | step h1 h2 _ =>
     rw [hd _ (List.getElem?_eq_some_iff.1 h1).1] at h2
     cases h2
 · rintro rfl
   exact ⟨w, .last hd, rfl⟩
theorem ord_more {L : List AO} {d : List Bool} {w : Int × Int} (hd : ¬ ∀ i, i < L.length → d[i]? = some true) (o : ByteArray) : (∃ f, Ord L d w f ∧ o = wtext f.1 f.2) ↔ OrdB L d w L.length o := by
 constructor
 · rintro ⟨f, h, rfl⟩
   cases h with
   | last h => exact absurd h hd
   | step h1 h2 h3 => exact ⟨_, (List.getElem?_eq_some_iff.1 h1).1, _, h1, h2, _, h3, rfl⟩
 · rintro ⟨j, _, p, h1, h2, f, h3, rfl⟩
   exact ⟨f, .step h1 h2 h3, rfl⟩
theorem ordB_none {L : List AO} {d : List Bool} {w : Int × Int} {n : Nat} (hd : ∀ i, i < n → d[i]? = some true) (o : ByteArray) : ¬ OrdB L d w n o := by
 rintro ⟨j, hj, p, _, h2, _⟩
 rw [hd j hj] at h2
 cases h2
end Sim.Tx
namespace Go.Proofs.YtikackodhiollaaGreatDoor
open Go.Vc Sim Sim.Tx
set_option maxHeartbeats 8000000
theorem allOne_bo (d : List Bool) : allOne (d.flatMap boE) = true := by
 induction d with
 | nil => rfl
 | cons b d ih => rw [List.flatMap_cons]; show (oneC (Value.bool b) && allOne (d.flatMap boE)) = true; rw [ih]; rfl
def OrdFn (w0 : World) (sh : Shared) (L : List AO) (la : Option Addr) (lc rr : Nat) (x y : Int) (da : Option Addr) (dc : Nat) (d : List Bool) (ml : GM ByteArray) : Prop :=
 Vc.Fn PP w0 sh 9 [pairV x y, .slice la L.length lc, .slice da L.length dc, .map (some rr)] [MapG kvS rr ml]
   (fun r Γ => ∃ ml', r = .tuple #[] ∧ Γ = [MapG kvS rr ml'] ∧ (GoodS ml → GoodS ml') ∧ ∀ o, o ∈ ml'.map (·.1) ↔ o ∈ ml.map (·.1) ∨ ∃ f, Ord L d (x, y) f ∧ o = wtext f.1 f.2)
theorem tpOrders (w0 : World) (ht : TabOk w0) (L : List AO) (hok : ∀ o ∈ L, o.ok) (hL : L.length ≤ 3) (la : Option Addr) (lc rr : Nat) : ∀ (k : Nat) (sh : Shared) (x y : Int) (da : Option Addr) (dc : Nat) (d : List Bool) (ml : GM ByteArray), fals d < k → I64 x → I64 y →
   RdSl w0 sh opE 3 (.slice la L.length lc) L → d.length = L.length → RdSl w0 sh boE 1 (.slice da L.length dc) d → OrdFn w0 sh L la lc rr x y da dc d ml
 | 0, _, _, _, _, _, _, _, h, _, _, _, _, _ => absurd h (Nat.not_lt_zero _)
 | k + 1, sh, x, y, da, dc, d, ml, hk, hx, hy, hl, hd, hdr => by
   unfold OrdFn
   have hTx := wText w0 ht x hx
   have hTy := wText w0 ht y hy
   have hnx := numB_size hx
   have hny := numB_size hy
   have h32 : (bs [32]).size = 1 := rfl
   refine zep en9 fn9 rfl rfl rfl ?_
   repeat (first|refine zck ?_|refine zcl ?_|refine zcm ?_|refine zcn ?_)
   first|refine zcp (by kernel_rfl) ?_|refine zcq PP_mixed (by kernel_rfl) (by kernel_rfl) ?_
   repeat' (refine zap rfl ?_; first|refine zaq (cs := [_, _]) rfl (fun t4 => ?_))
   all_goals (refine zch ?_; repeat (first|refine zck ?_|refine zcl ?_|refine zcm ?_|refine zcn ?_))
   refine zeb [1] rfl ?_
   repeat (first|refine zck ?_|refine zcl ?_|refine zcm ?_|refine zcn ?_|refine zco ?_)
   repeat (first|refine zck ?_|refine zcl ?_|refine zcm ?_|refine zcn ?_)
   first|refine zcp (by kernel_rfl) ?_|refine zcq PP_mixed (by kernel_rfl) (by kernel_rfl) ?_
   repeat' (refine zap rfl ?_; first|refine zan rfl ?_)
   all_goals (refine zch ?_; repeat (first|refine zck ?_|refine zcl ?_|refine zcm ?_|refine zcn ?_))
   repeat (first|refine zck ?_|refine zcl ?_|refine zcm ?_|refine zcn ?_|refine zco ?_)
   repeat (first|refine zck ?_|refine zcl ?_|refine zcm ?_|refine zcn ?_)
   first|refine zcp (by kernel_rfl) ?_|refine zcq PP_mixed (by kernel_rfl) (by kernel_rfl) ?_
   repeat' (refine zap rfl ?_; first|refine zan rfl ?_|refine zce rfl ?_)
   all_goals (refine zch ?_; repeat (first|refine zck ?_|refine zcl ?_|refine zcm ?_|refine zcn ?_))
   refine run_loop (S := Nat × Bool × GM ByteArray) (fun s => [(1, .slice la L.length lc), (2, .slice da L.length dc), (3, .map (some rr)), (4, .pointer (some ⟨t4, 0, none⟩)), (8, .bool s.2.1), (13, .slice la L.length lc), (14, .int .i64 L.length), (15, .int .i64 s.1)])
     (fun s Γ => Γ = [MapG kvS rr s.2.2] ∧ s.1 ≤ L.length ∧ (s.2.1 = true ↔ ∀ j, j < s.1 → d[j]? = some true) ∧ (GoodS ml → GoodS s.2.2) ∧ ∀ o, o ∈ s.2.2.map (·.1) ↔ o ∈ ml.map (·.1) ∨ OrdB L d (x, y) s.1 o)
     (fun s => L.length - s.1) (0, true, ml) ⟨rfl, rfl, rfl, rfl, rfl, rfl, rfl, rfl, trivial⟩ ⟨rfl, Nat.zero_le _, ⟨fun _ j hj => absurd hj (Nat.not_lt_zero _), fun _ => rfl⟩, id, fun o => ⟨.inl, fun h => h.elim id fun ⟨j, hj, _⟩ => absurd hj (Nat.not_lt_zero _)⟩⟩ ?_
   rintro ⟨i, last, ml1⟩ Γ junk ⟨rfl, hi, hlast, hnd, hml⟩
   dsimp only at hi hlast hnd hml ⊢
   by_cases he : i = L.length
   · subst he
     repeat (first|refine zck ?_|refine zcl ?_|refine zcm ?_|refine zcn ?_)
     first|refine zcp (by kernel_rfl) ?_|refine zcq PP_mixed (by kernel_rfl) (by kernel_rfl) ?_
     repeat' (refine zap rfl ?_; first|refine zbh rfl rfl (by omega) ?_)
     all_goals (refine zch ?_; repeat (first|refine zck ?_|refine zcl ?_|refine zcm ?_|refine zcn ?_))
     refine zcj rfl ?_
     refine zer rfl rfl ?_
     repeat (first|refine zck ?_|refine zcl ?_|refine zcm ?_|refine zcn ?_|refine zco ?_)
     repeat (first|refine zck ?_|refine zcl ?_|refine zcm ?_|refine zcn ?_)
     first|refine zcp (by kernel_rfl) ?_|refine zcq PP_mixed (by kernel_rfl) (by kernel_rfl) ?_
     repeat' (refine zap rfl ?_; first|refine zan rfl ?_)
     all_goals (refine zch ?_; repeat (first|refine zck ?_|refine zcl ?_|refine zcm ?_|refine zcn ?_))
     cases last with
     | true =>
       have hall := hlast.1 rfl
       refine zci rfl ?_
       repeat (first|refine zck ?_|refine zcl ?_|refine zcm ?_|refine zcn ?_|refine zco ?_)
       refine run_draw [.quiet, .quiet, .quiet, .quiet, .loud, .quiet, .quiet, .quiet, .quiet, .loud, .quiet, .loud] PP_mixed (by kernel_rfl) (by kernel_rfl) ?_
       repeat' (refine zap rfl ?_; first|refine reg_addS (a := numB x) (b := bs [32]) rfl rfl (by omega) ?_|refine reg_addS (a := numB x ++ bs [32]) (b := numB y) rfl rfl (by rw [ByteArray.size_append]; omega) ?_|refine zcb rfl ?_|refine reg_mapUpdateG (kv := kvS) (a := wtext x y) (u := .bool true) 0 rfl rfl rfl rfl rfl ?_|refine zan rfl ?_|refine zaa 0 rfl rfl rfl ?_|refine zah [] hTx rfl rfl rfl zdj rfl ?_|refine zah [] hTy rfl rfl rfl zdj rfl ?_|refine zat rfl rfl (by omega) ?_)
       refine zch ?_
       repeat (first|refine zck ?_|refine zcl ?_|refine zcm ?_|refine zcn ?_|refine zco ?_)
       refine run_nil (zek (ends_none rfl ⟨_, rfl, rfl, fun h => (hnd h).ins _, fun o => ?_⟩))
       rw [insG_keys, hml, ord_last hall]
       exact ⟨fun h => h.elim .inr (fun h => h.elim .inl (fun h => absurd h (ordB_none hall o))), fun h => h.elim (fun h => .inr (.inl h)) .inl⟩
     | false =>
       refine zcj rfl ?_
       repeat (first|refine zck ?_|refine zcl ?_|refine zcm ?_|refine zcn ?_|refine zco ?_)
       have hno : ¬ ∀ j, j < L.length → d[j]? = some true := fun h => by cases hlast.2 h
       refine run_nil (zek (ends_none rfl ⟨ml1, rfl, rfl, hnd, fun o => ?_⟩))
       rw [hml, ord_more hno]
   · obtain ⟨o, ho⟩ : ∃ o, L[i]? = some o := ⟨_, List.getElem?_eq_getElem (by omega)⟩
     obtain ⟨b, hb⟩ : ∃ b, d[i]? = some b := ⟨_, List.getElem?_eq_getElem (by omega)⟩
     obtain ⟨bb, off, cc, T, fr, ea, e2, e3, _⟩ := hl.cells ho
     obtain ⟨bb', off', cc', T', fr', ea', f2, _, f3⟩ := hdr.cells hb
     have hoo := hok o (List.mem_of_getElem? ho)
     subst ea
     have hea : da = some ⟨bb', off', none⟩ := ea'
     subst hea
     repeat (first|refine zck ?_|refine zcl ?_|refine zcm ?_|refine zcn ?_)
     first|refine zcp (by kernel_rfl) ?_|refine zcq PP_mixed (by kernel_rfl) (by kernel_rfl) ?_
     repeat' (refine zap rfl ?_; first|refine zbg rfl rfl (by omega) ?_)
     all_goals (refine zch ?_; repeat (first|refine zck ?_|refine zcl ?_|refine zcm ?_|refine zcn ?_))
     refine zci rfl ?_
     repeat (first|refine zck ?_|refine zcl ?_|refine zcm ?_|refine zcn ?_|refine zco ?_)
     repeat (first|refine zck ?_|refine zcl ?_|refine zcm ?_|refine zcn ?_)
     first|refine zcp (by kernel_rfl) ?_|refine zcq PP_mixed (by kernel_rfl) (by kernel_rfl) ?_
     repeat' (refine zap rfl ?_; first|refine zas rfl rfl (by omega) ?_|refine zar (fun t10 => ?_)|refine zad rfl (fun hF Γ w h1 h2 => e2 hF Γ w (fun p hp => h1 p (.tail _ hp)) h2) (e3 _ (by omega)) ?_|refine zan rfl ?_|refine zae 1 rfl rfl rfl rfl rfl rfl rfl ?_)
     all_goals (refine zch ?_; repeat (first|refine zck ?_|refine zcl ?_|refine zcm ?_|refine zcn ?_))
     repeat (first|refine zck ?_|refine zcl ?_|refine zcm ?_|refine zcn ?_|refine zco ?_)
     repeat (first|refine zck ?_|refine zcl ?_|refine zcm ?_|refine zcn ?_)
     first|refine zcp (by kernel_rfl) ?_|refine zcq PP_mixed (by kernel_rfl) (by kernel_rfl) ?_
     repeat' (refine zap rfl ?_; first|refine zas rfl rfl (by omega) ?_|refine zad rfl (fun hF Γ w h1 h2 => f2 hF Γ w (fun p hp => h1 p (.tail _ hp)) h2) (f3 0 _ rfl _ (by omega)) ?_|refine zan rfl ?_)
     all_goals (refine zch ?_; repeat (first|refine zck ?_|refine zcl ?_|refine zcm ?_|refine zcn ?_))
     cases b with
     | true =>
       refine zci rfl ?_
       refine zcs rfl ?_
       refine zec [0] rfl ?_
       repeat (first|refine zck ?_|refine zcl ?_|refine zcm ?_|refine zcn ?_|refine zco ?_)
       repeat (first|refine zck ?_|refine zcl ?_|refine zcm ?_|refine zcn ?_)
       first|refine zcp (by kernel_rfl) ?_|refine zcq PP_mixed (by kernel_rfl) (by kernel_rfl) ?_
       repeat' (refine zap rfl ?_; first|refine zan rfl ?_|refine zau rfl rfl (by omega) ?_)
       all_goals (refine zch ?_; repeat (first|refine zck ?_|refine zcl ?_|refine zcm ?_|refine zcn ?_))
       refine zeq ⟨rfl, (i + 1, last, ml1), ⟨rfl, rfl, rfl, rfl, rfl, rfl, rfl, zes (by omega), trivial⟩, ⟨rfl, by dsimp only; omega, ?_, hnd, fun z => (hml z).trans (by dsimp only; rw [ordB_succ_true hb])⟩, by dsimp only; omega⟩
       refine hlast.trans ⟨fun h j hj => ?_, fun h j hj => h j (by omega)⟩
       by_cases e : j = i
       · subst e; exact hb
       · exact h j (by omega)
     | false =>
       refine zcj rfl ?_
       repeat (first|refine zck ?_|refine zcl ?_|refine zcm ?_|refine zcn ?_|refine zco ?_)
       obtain ⟨kd, pl, N⟩ := o
       cases pl with
       | false =>
         have hfx : I64 (AO.fn ⟨kd, false, N⟩ x) := I64.fn (o := ⟨kd, false, N⟩) hoo.2.2 hx
         have hDo := do_spec w0 ⟨kd, false, N⟩ hoo x
         generalize hfv : AO.fn ⟨kd, false, N⟩ x = fv at hfx hDo
         have hap : ap ⟨kd, false, N⟩ (x, y) = (fv, y) := by unfold ap; rw [← hfv]; rfl
         repeat (first|refine zck ?_|refine zcl ?_|refine zcm ?_|refine zcn ?_)
         first|refine zcp (by kernel_rfl) ?_|refine zcq PP_mixed (by kernel_rfl) (by kernel_rfl) ?_
         repeat' (refine zap rfl ?_; first|refine zan rfl ?_)
         all_goals (refine zch ?_; repeat (first|refine zck ?_|refine zcl ?_|refine zcm ?_|refine zcn ?_))
         repeat (first|refine zck ?_|refine zcl ?_|refine zcm ?_|refine zcn ?_|refine zco ?_)
         repeat (first|refine zck ?_|refine zcl ?_|refine zcm ?_|refine zcn ?_)
         first|refine zcp (by kernel_rfl) ?_|refine zcq PP_mixed (by kernel_rfl) (by kernel_rfl) ?_
         repeat' (refine zap rfl ?_; first|refine zar (fun t11 => ?_)|refine zaa 0 rfl rfl rfl ?_|refine zae 2 rfl rfl rfl rfl rfl rfl rfl ?_)
         all_goals (refine zch ?_; repeat (first|refine zck ?_|refine zcl ?_|refine zcm ?_|refine zcn ?_))
         repeat (first|refine zck ?_|refine zcl ?_|refine zcm ?_|refine zcn ?_|refine zco ?_)
         refine zeb [1] rfl ?_
         refine run_draw [.quiet, .quiet, .quiet, .quiet, .quiet, .quiet, .quiet, .loud, .quiet, .quiet, .quiet, .quiet, .loud] PP_mixed (by kernel_rfl) (by kernel_rfl) ?_
         repeat' (refine zap rfl ?_; first|refine zat (ix := 0) rfl rfl (by decide) ?_|refine zae 1 rfl rfl rfl rfl rfl rfl rfl ?_|refine zan rfl ?_|refine zaa 0 rfl rfl rfl ?_|refine zaa 1 rfl rfl rfl ?_|refine zah [] hDo rfl rfl rfl zdj rfl ?_|refine zao rfl ?_)
         refine zch ?_
         repeat (first|refine zck ?_|refine zcl ?_|refine zcm ?_|refine zcn ?_|refine zco ?_)
         repeat (first|refine zck ?_|refine zcl ?_|refine zcm ?_|refine zcn ?_)
         first|refine zcp (by kernel_rfl) ?_|refine zcq PP_mixed (by kernel_rfl) (by kernel_rfl) ?_
         repeat' (refine zap rfl ?_; first|refine zdt rfl rfl rfl rfl rfl rfl (fun nb => ?_)|refine zan rfl ?_|(refine reg_own 2 rfl rfl (len := 0) (cap := 0) (sz := 1) ⟨rfl, Nat.le_refl _, Nat.le_refl _⟩ rfl ?_; refine reg_append_rdE 2 rfl rfl (hdr.mono fun p hp => .tail _ (.tail _ hp)) (by decide) (allOne_bo d) rfl rfl (by omega) (fun _ _ => rfl) (fun a3 c3 => ?_)))
         all_goals (refine zch ?_; repeat (first|refine zck ?_|refine zcl ?_|refine zcm ?_|refine zcn ?_))
         repeat (first|refine zck ?_|refine zcl ?_|refine zcm ?_|refine zcn ?_|refine zco ?_)
         rw [show 0 + d.length = L.length by omega]
         refine run_sl_cases 2 rfl (fun _ hn => by omega) (fun nb3 q1 q2 q3 => ?_)
         subst q1
         repeat (first|refine zck ?_|refine zcl ?_|refine zcm ?_|refine zcn ?_)
         first|refine zcp (by kernel_rfl) ?_|refine zcq PP_mixed (by kernel_rfl) (by kernel_rfl) ?_
         repeat' (refine zap rfl ?_; first|refine zas rfl rfl (by omega) ?_|refine zaf 2 rfl rfl rfl rfl rfl (wr_flat (enc := boE) (q := 1) (y := true) (fun _ _ => rfl) hb rfl _ (by omega)) rfl ?_|refine zan rfl ?_)
         all_goals (refine zch ?_; repeat (first|refine zck ?_|refine zcl ?_|refine zcm ?_|refine zcn ?_))
         repeat (first|refine zck ?_|refine zcl ?_|refine zcm ?_|refine zcn ?_|refine zco ?_)
         refine run_shareP [2] (fun s => RdSl w0 s boE 1 (.slice (some ⟨nb3, 0, none⟩) L.length c3) (d.set i true)) (RdO.ofSl (fun _ _ => rfl) (by rw [List.length_set, hd])) rfl ?_
         intro bl hs hdr2
         have hfs := fals_set hb
         have hIH := tpOrders w0 ht L hok hL (some ⟨bb, off, none⟩) lc rr k _ fv y (some ⟨nb3, 0, none⟩) c3 (d.set i true) ml1 (by omega) hfx hy (hl.mono fun p hp => hs p (.tail _ (.tail _ hp))) (by rw [List.length_set, hd]) hdr2
         unfold OrdFn at hIH
         repeat (first|refine zck ?_|refine zcl ?_|refine zcm ?_|refine zcn ?_)
         first|refine zcp (by kernel_rfl) ?_|refine zcq PP_mixed (by kernel_rfl) (by kernel_rfl) ?_
         repeat' (refine zap rfl ?_; first|refine zan rfl ?_|refine zab 1 rfl rfl rfl ?_|(refine zai [0] hIH rfl rfl rfl (fun _ hp => hp) ?_; rintro v Γ ⟨ml2, rfl, rfl, hn2, hm2⟩))
         all_goals (refine zch ?_; repeat (first|refine zck ?_|refine zcl ?_|refine zcm ?_|refine zcn ?_))
         repeat (first|refine zck ?_|refine zcl ?_|refine zcm ?_|refine zcn ?_|refine zco ?_)
         refine zec [0] rfl ?_
         repeat (first|refine zck ?_|refine zcl ?_|refine zcm ?_|refine zcn ?_)
         first|refine zcp (by kernel_rfl) ?_|refine zcq PP_mixed (by kernel_rfl) (by kernel_rfl) ?_
         repeat' (refine zap rfl ?_; first|refine zan rfl ?_|refine zau rfl rfl (by omega) ?_)
         all_goals (refine zch ?_; repeat (first|refine zck ?_|refine zcl ?_|refine zcm ?_|refine zcn ?_))
         refine zeq ⟨rfl, (i + 1, false, ml2), ⟨rfl, rfl, rfl, rfl, rfl, rfl, rfl, zes (by omega), trivial⟩, ⟨rfl, by dsimp only; omega, ⟨fun h => (by cases h), fun h => (by have := h i (Nat.lt_succ_self _); rw [hb] at this; cases this)⟩, fun h => hn2 (hnd h), fun z => ?_⟩, by dsimp only; omega⟩
         dsimp only
         rw [hm2, hml, ordB_succ_false ho hb, hap]
         exact or_assoc
       | true =>
         have hfx : I64 (AO.fn ⟨kd, true, N⟩ y) := I64.fn (o := ⟨kd, true, N⟩) hoo.2.2 hy
         have hDo := do_spec w0 ⟨kd, true, N⟩ hoo y
         generalize hfv : AO.fn ⟨kd, true, N⟩ y = fv at hfx hDo
         have hap : ap ⟨kd, true, N⟩ (x, y) = (x, fv) := by unfold ap; rw [← hfv]; rfl
         repeat (first|refine zck ?_|refine zcl ?_|refine zcm ?_|refine zcn ?_)
         first|refine zcp (by kernel_rfl) ?_|refine zcq PP_mixed (by kernel_rfl) (by kernel_rfl) ?_
         repeat' (refine zap rfl ?_; first|refine zan rfl ?_)
         all_goals (refine zch ?_; repeat (first|refine zck ?_|refine zcl ?_|refine zcm ?_|refine zcn ?_))
         repeat (first|refine zck ?_|refine zcl ?_|refine zcm ?_|refine zcn ?_|refine zco ?_)
         repeat (first|refine zck ?_|refine zcl ?_|refine zcm ?_|refine zcn ?_)
         first|refine zcp (by kernel_rfl) ?_|refine zcq PP_mixed (by kernel_rfl) (by kernel_rfl) ?_
         repeat' (refine zap rfl ?_; first|refine zar (fun t11 => ?_)|refine zaa 0 rfl rfl rfl ?_|refine zae 2 rfl rfl rfl rfl rfl rfl rfl ?_)
         all_goals (refine zch ?_; repeat (first|refine zck ?_|refine zcl ?_|refine zcm ?_|refine zcn ?_))
         repeat (first|refine zck ?_|refine zcl ?_|refine zcm ?_|refine zcn ?_|refine zco ?_)
         refine zeb [1] rfl ?_
         refine run_draw [.quiet, .quiet, .quiet, .quiet, .quiet, .quiet, .quiet, .loud, .quiet, .quiet, .quiet, .quiet, .loud] PP_mixed (by kernel_rfl) (by kernel_rfl) ?_
         repeat' (refine zap rfl ?_; first|refine zat (ix := 1) rfl rfl (by decide) ?_|refine zae 1 rfl rfl rfl rfl rfl rfl rfl ?_|refine zan rfl ?_|refine zaa 0 rfl rfl rfl ?_|refine zaa 1 rfl rfl rfl ?_|refine zah [] hDo rfl rfl rfl zdj rfl ?_|refine zao rfl ?_)
         refine zch ?_
         repeat (first|refine zck ?_|refine zcl ?_|refine zcm ?_|refine zcn ?_|refine zco ?_)
         repeat (first|refine zck ?_|refine zcl ?_|refine zcm ?_|refine zcn ?_)
         first|refine zcp (by kernel_rfl) ?_|refine zcq PP_mixed (by kernel_rfl) (by kernel_rfl) ?_
         repeat' (refine zap rfl ?_; first|refine zdt rfl rfl rfl rfl rfl rfl (fun nb => ?_)|refine zan rfl ?_|(refine reg_own 2 rfl rfl (len := 0) (cap := 0) (sz := 1) ⟨rfl, Nat.le_refl _, Nat.le_refl _⟩ rfl ?_; refine reg_append_rdE 2 rfl rfl (hdr.mono fun p hp => .tail _ (.tail _ hp)) (by decide) (allOne_bo d) rfl rfl (by omega) (fun _ _ => rfl) (fun a3 c3 => ?_)))
         all_goals (refine zch ?_; repeat (first|refine zck ?_|refine zcl ?_|refine zcm ?_|refine zcn ?_))
         repeat (first|refine zck ?_|refine zcl ?_|refine zcm ?_|refine zcn ?_|refine zco ?_)
         rw [show 0 + d.length = L.length by omega]
         refine run_sl_cases 2 rfl (fun _ hn => by omega) (fun nb3 q1 q2 q3 => ?_)
         subst q1
         repeat (first|refine zck ?_|refine zcl ?_|refine zcm ?_|refine zcn ?_)
         first|refine zcp (by kernel_rfl) ?_|refine zcq PP_mixed (by kernel_rfl) (by kernel_rfl) ?_
         repeat' (refine zap rfl ?_; first|refine zas rfl rfl (by omega) ?_|refine zaf 2 rfl rfl rfl rfl rfl (wr_flat (enc := boE) (q := 1) (y := true) (fun _ _ => rfl) hb rfl _ (by omega)) rfl ?_|refine zan rfl ?_)
         all_goals (refine zch ?_; repeat (first|refine zck ?_|refine zcl ?_|refine zcm ?_|refine zcn ?_))
         repeat (first|refine zck ?_|refine zcl ?_|refine zcm ?_|refine zcn ?_|refine zco ?_)
         refine run_shareP [2] (fun s => RdSl w0 s boE 1 (.slice (some ⟨nb3, 0, none⟩) L.length c3) (d.set i true)) (RdO.ofSl (fun _ _ => rfl) (by rw [List.length_set, hd])) rfl ?_
         intro bl hs hdr2
         have hfs := fals_set hb
         have hIH := tpOrders w0 ht L hok hL (some ⟨bb, off, none⟩) lc rr k _ x fv (some ⟨nb3, 0, none⟩) c3 (d.set i true) ml1 (by omega) hx hfx (hl.mono fun p hp => hs p (.tail _ (.tail _ hp))) (by rw [List.length_set, hd]) hdr2
         unfold OrdFn at hIH
         repeat (first|refine zck ?_|refine zcl ?_|refine zcm ?_|refine zcn ?_)
         first|refine zcp (by kernel_rfl) ?_|refine zcq PP_mixed (by kernel_rfl) (by kernel_rfl) ?_
         repeat' (refine zap rfl ?_; first|refine zan rfl ?_|refine zab 1 rfl rfl rfl ?_|(refine zai [0] hIH rfl rfl rfl (fun _ hp => hp) ?_; rintro v Γ ⟨ml2, rfl, rfl, hn2, hm2⟩))
         all_goals (refine zch ?_; repeat (first|refine zck ?_|refine zcl ?_|refine zcm ?_|refine zcn ?_))
         repeat (first|refine zck ?_|refine zcl ?_|refine zcm ?_|refine zcn ?_|refine zco ?_)
         refine zec [0] rfl ?_
         repeat (first|refine zck ?_|refine zcl ?_|refine zcm ?_|refine zcn ?_)
         first|refine zcp (by kernel_rfl) ?_|refine zcq PP_mixed (by kernel_rfl) (by kernel_rfl) ?_
         repeat' (refine zap rfl ?_; first|refine zan rfl ?_|refine zau rfl rfl (by omega) ?_)
         all_goals (refine zch ?_; repeat (first|refine zck ?_|refine zcl ?_|refine zcm ?_|refine zcn ?_))
         refine zeq ⟨rfl, (i + 1, false, ml2), ⟨rfl, rfl, rfl, rfl, rfl, rfl, rfl, zes (by omega), trivial⟩, ⟨rfl, by dsimp only; omega, ⟨fun h => (by cases h), fun h => (by have := h i (Nat.lt_succ_self _); rw [hb] at this; cases this)⟩, fun h => hn2 (hnd h), fun z => ?_⟩, by dsimp only; omega⟩
         dsimp only
         rw [hm2, hml, ordB_succ_false ho hb, hap]
         exact or_assoc
end Go.Proofs.YtikackodhiollaaGreatDoor
namespace Sim.Tx
open Go Go.Vc Sim
theorem idx_none : ∀ {l : List UInt8} {c : UInt8}, c ∉ l → Lib.indexByte l c = -1
 | [], _, _ => rfl
 | b :: l, c, h => by
   have hb : (b == c) = false := by simp; exact fun e => h (e ▸ .head _)
   unfold Lib.indexByte
   rw [hb, idx_none (fun hm => h (.tail _ hm))]
   rfl
theorem idx_mid : ∀ {l r : List UInt8} {c : UInt8}, c ∉ l → Lib.indexByte (l ++ c :: r) c = l.length
 | [], r, c, _ => by simp [Lib.indexByte]
 | b :: l, r, c, h => by
   have hb : (b == c) = false := by simp; exact fun e => h (e ▸ .head _)
   rw [List.cons_append]
   unfold Lib.indexByte
   rw [hb, idx_mid (fun hm => h (.tail _ hm))]
   have : (((l.length : Int)) == -1) = false := by simp
   rw [this]
   simp
theorem app_semi (p q : ByteArray) : (p ++ (bs [59] ++ q)).data.toList = p.data.toList ++ 59 :: q.data.toList := by
 rw [ByteArray.data_append, ByteArray.data_append, Array.toList_append, Array.toList_append]
 rfl
theorem app_pre (p r : ByteArray) : (p ++ r).extract 0 p.size = p := by
 apply ByteArray.ext
 apply Array.ext'
 rw [ByteArray.data_extract, ByteArray.data_append]
 simp
 exact List.take_of_length_le (Nat.le_refl _)
end Sim.Tx
namespace Go.Proofs.YtikackodhiollaaGreatDoor
variable (w0 : World)
open Go.Vc Sim Sim.Tx
set_option maxHeartbeats 8000000
theorem idx_ext (args : Array Value) (w : World) : (callFunc 112 args).run PP w = ((Extern.BytealgIndexByte.indexByte args).run PP w).andThen fun v w' => .ok (.value v) w' := by
 rw [PP_def]
 exact run_callFunc_extern Tryz.func112 (by kernel_rfl) (by kernel_rfl) (by kernel_rfl) (by kernel_rfl) args w
theorem slIndexByte (s : ByteArray) : FnE PP w0 [] 77 [.string s, .int .u8 59] [] (.int .i64 (Lib.indexByte s.data.toList 59)) [] := by
 refine zep en77 fn77 rfl rfl rfl ?_
 repeat (first|refine zck ?_|refine zcl ?_|refine zcm ?_|refine zcn ?_)
 first|refine zcp (by kernel_rfl) ?_|refine zcq PP_mixed (by kernel_rfl) (by kernel_rfl) ?_
 repeat' (refine zap rfl ?_; first|refine zan rfl ?_)
 all_goals (refine zch ?_; repeat (first|refine zck ?_|refine zcl ?_|refine zcm ?_|refine zcn ?_))
 first|refine zcp (by kernel_rfl) ?_|refine zcq PP_mixed (by kernel_rfl) (by kernel_rfl) ?_
 repeat' (refine zap rfl ?_; first|refine zan rfl ?_|refine reg_indexByte idx_ext rfl rfl ?_)
 all_goals (refine zch ?_; repeat (first|refine zck ?_|refine zcl ?_|refine zcm ?_|refine zcn ?_))
 exact zej rfl ⟨rfl, rfl⟩
theorem slIndex (s : ByteArray) (hs : s ≠ bs [59]) : FnE PP w0 [] 42 [.string s, .string (bs [59])] [] (.int .i64 (Lib.indexByte s.data.toList 59)) [] := by
 have hI := slIndexByte w0 s
 refine zep en42 fn42 rfl rfl rfl ?_
 repeat (first|refine zck ?_|refine zcl ?_|refine zcm ?_|refine zcn ?_)
 first|refine zcp (by kernel_rfl) ?_|refine zcq PP_mixed (by kernel_rfl) (by kernel_rfl) ?_
 repeat' (refine zap rfl ?_; first|refine zan rfl ?_)
 all_goals (refine zch ?_; repeat (first|refine zck ?_|refine zcl ?_|refine zcm ?_|refine zcn ?_))
 first|refine zcp (by kernel_rfl) ?_|refine zcq PP_mixed (by kernel_rfl) (by kernel_rfl) ?_
 repeat' (refine zap rfl ?_; first|refine zdy rfl ?_|refine zan rfl ?_)
 all_goals (refine zch ?_; repeat (first|refine zck ?_|refine zcl ?_|refine zcm ?_|refine zcn ?_))
 repeat (first|refine zck ?_|refine zcl ?_|refine zcm ?_|refine zcn ?_|refine zco ?_)
 repeat (first|refine zck ?_|refine zcl ?_|refine zcm ?_|refine zcn ?_)
 first|refine zcp (by kernel_rfl) ?_|refine zcq PP_mixed (by kernel_rfl) (by kernel_rfl) ?_
 repeat' (refine zap rfl ?_; first|refine zdr rfl rfl (Ne.symm hs) ?_|refine zaj rfl ?_|refine zan rfl ?_|refine zbo rfl rfl ?_|refine zbv rfl ?_)
 all_goals (refine zch ?_; repeat (first|refine zck ?_|refine zcl ?_|refine zcm ?_|refine zcn ?_))
 refine zcj rfl ?_
 repeat (first|refine zck ?_|refine zcl ?_|refine zcm ?_|refine zcn ?_|refine zco ?_)
 repeat (first|refine zck ?_|refine zcl ?_|refine zcm ?_|refine zcn ?_)
 first|refine zcp (by kernel_rfl) ?_|refine zcq PP_mixed (by kernel_rfl) (by kernel_rfl) ?_
 repeat' (refine zap rfl ?_; first|refine zan rfl ?_|refine zbo rfl rfl ?_)
 all_goals (refine zch ?_; repeat (first|refine zck ?_|refine zcl ?_|refine zcm ?_|refine zcn ?_))
 refine zci rfl ?_
 repeat (first|refine zck ?_|refine zcl ?_|refine zcm ?_|refine zcn ?_|refine zco ?_)
 repeat (first|refine zck ?_|refine zcl ?_|refine zcm ?_|refine zcn ?_)
 first|refine zcp (by kernel_rfl) ?_|refine zcq PP_mixed (by kernel_rfl) (by kernel_rfl) ?_
 repeat' (refine zap rfl ?_; first|refine reg_index_str rfl rfl (by decide) (show (bs [59])[0]? = some 59 from rfl) ?_|refine zan rfl ?_|refine zah [] hI rfl rfl rfl zdj rfl ?_)
 all_goals (refine zch ?_; repeat (first|refine zck ?_|refine zcl ?_|refine zcm ?_|refine zcn ?_))
 exact zej rfl ⟨rfl, rfl⟩
theorem slCut (p r : ByteArray) (hp : (59 : UInt8) ∉ p.data.toList) (hr : Tx.Rest r) (hne : p ++ r ≠ bs [59]) (hsz : p.size ≤ 1000000) : Vc.Fn PP w0 [] 21 [.string (p ++ r), .string (bs [59])] [] (fun v Γ => ∃ a b, v = .tuple #[.string p, .string a, .bool b] ∧ Γ = []) := by
 have hI := slIndex w0 (p ++ r) hne
 rcases hr with rfl | ⟨q, rfl⟩
 · have e0 : p ++ bs [] = p := ByteArray.append_empty
   rw [e0] at hI ⊢
   rw [idx_none hp] at hI
   refine zep en21 fn21 rfl rfl rfl ?_
   repeat (first|refine zck ?_|refine zcl ?_|refine zcm ?_|refine zcn ?_)
   first|refine zcp (by kernel_rfl) ?_|refine zcq PP_mixed (by kernel_rfl) (by kernel_rfl) ?_
   repeat' (refine zap rfl ?_; first|refine zan rfl ?_)
   all_goals (refine zch ?_; repeat (first|refine zck ?_|refine zcl ?_|refine zcm ?_|refine zcn ?_))
   first|refine zcp (by kernel_rfl) ?_|refine zcq PP_mixed (by kernel_rfl) (by kernel_rfl) ?_
   repeat' (refine zap rfl ?_; first|refine zan rfl ?_|refine zah [] hI rfl rfl rfl zdj rfl ?_)
   all_goals (refine zch ?_; repeat (first|refine zck ?_|refine zcl ?_|refine zcm ?_|refine zcn ?_))
   repeat (first|refine zck ?_|refine zcl ?_|refine zcm ?_|refine zcn ?_|refine zco ?_)
   repeat (first|refine zck ?_|refine zcl ?_|refine zcm ?_|refine zcn ?_)
   first|refine zcp (by kernel_rfl) ?_|refine zcq PP_mixed (by kernel_rfl) (by kernel_rfl) ?_
   repeat' (refine zap rfl ?_; first|refine zbt rfl rfl ?_|refine zan rfl ?_)
   all_goals (refine zch ?_; repeat (first|refine zck ?_|refine zcl ?_|refine zcm ?_|refine zcn ?_))
   refine zcj rfl ?_
   repeat (first|refine zck ?_|refine zcl ?_|refine zcm ?_|refine zcn ?_|refine zco ?_)
   repeat (first|refine zck ?_|refine zcl ?_|refine zcm ?_|refine zcn ?_)
   first|refine zcp (by kernel_rfl) ?_|refine zcq PP_mixed (by kernel_rfl) (by kernel_rfl) ?_
   repeat' (refine zap rfl ?_; first|refine zan rfl ?_)
   all_goals (refine zch ?_; repeat (first|refine zck ?_|refine zcl ?_|refine zcm ?_|refine zcn ?_))
   exact ret_tmp3 rfl ⟨_, _, rfl, rfl⟩
 · have hix : Lib.indexByte (p ++ (bs [59] ++ q)).data.toList 59 = p.size := by
     rw [app_semi, idx_mid hp]
     rfl
   rw [hix] at hI
   have h59 : (bs [59]).size = 1 := rfl
   have hpre : (p ++ (bs [59] ++ q)).extract 0 p.size = p := app_pre _ _
   have hsz2 : (p ++ (bs [59] ++ q)).size = p.size + (1 + q.size) := by rw [ByteArray.size_append, ByteArray.size_append]; rfl
   refine zep en21 fn21 rfl rfl rfl ?_
   repeat (first|refine zck ?_|refine zcl ?_|refine zcm ?_|refine zcn ?_)
   first|refine zcp (by kernel_rfl) ?_|refine zcq PP_mixed (by kernel_rfl) (by kernel_rfl) ?_
   repeat' (refine zap rfl ?_; first|refine zan rfl ?_)
   all_goals (refine zch ?_; repeat (first|refine zck ?_|refine zcl ?_|refine zcm ?_|refine zcn ?_))
   first|refine zcp (by kernel_rfl) ?_|refine zcq PP_mixed (by kernel_rfl) (by kernel_rfl) ?_
   repeat' (refine zap rfl ?_; first|refine zan rfl ?_|refine zah [] hI rfl rfl rfl zdj rfl ?_)
   all_goals (refine zch ?_; repeat (first|refine zck ?_|refine zcl ?_|refine zcm ?_|refine zcn ?_))
   repeat (first|refine zck ?_|refine zcl ?_|refine zcm ?_|refine zcn ?_|refine zco ?_)
   repeat (first|refine zck ?_|refine zcl ?_|refine zcm ?_|refine zcn ?_)
   first|refine zcp (by kernel_rfl) ?_|refine zcq PP_mixed (by kernel_rfl) (by kernel_rfl) ?_
   repeat' (refine zap rfl ?_; first|refine zbt rfl rfl ?_|refine zan rfl ?_)
   all_goals (refine zch ?_; repeat (first|refine zck ?_|refine zcl ?_|refine zcm ?_|refine zcn ?_))
   refine zci (congrArg Value.bool (decide_eq_true (by omega))) ?_
   repeat (first|refine zck ?_|refine zcl ?_|refine zcm ?_|refine zcn ?_|refine zco ?_)
   generalize hS : p ++ (bs [59] ++ q) = S at hpre hsz2 ⊢
   refine run_draw [.quiet, .quiet, .quiet, .quiet, .quiet, .quiet, .quiet, .quiet, .quiet, .quiet, .quiet, .quiet] PP_mixed (by kernel_rfl) (by kernel_rfl) ?_
   repeat' (refine zap rfl ?_; first|refine reg_preSe (z := (p.size : Int)) (s := S) (r := p) rfl rfl (by omega) hpre ?_|refine reg_sufS (s := S) rfl rfl (by omega) ?_|refine zan rfl ?_|refine zdy rfl ?_|refine zau rfl rfl (by omega) ?_)
   refine zch ?_
   repeat (first|refine zck ?_|refine zcl ?_|refine zcm ?_|refine zcn ?_|refine zco ?_)
   exact ret_tmp3 rfl ⟨_, _, rfl, rfl⟩
end Go.Proofs.YtikackodhiollaaGreatDoor
namespace Sim.Tx
open Go Go.Vc Sim
theorem allF_one {o : AO} {most : Nat} : ∀ (n : Nat) (a : Wd) (S : List ByteArray × List ByteArray), Of [o] a → AllF gr most n a S → most < S.1.length + n
 | 0, _, _, _, h => h.elim
 | n + 1, a, S, ha, ⟨x, _, _, h⟩ => by
   rcases h with h | ⟨l1, s, l2, S1, e, hK, hF⟩
   · omega
   · have hl : (gr.st a).length ≤ 1 := by
       have h1 : a.steps.length ≤ (List.range a.ts.length).length := List.length_filter_le _ _
       rw [List.length_range] at h1
       have h2 := congrArg List.length ha.1
       rw [List.length_map] at h2
       have h3 : [o].length = 1 := rfl
       show a.steps.length ≤ 1
       omega
     have hs : s ∈ a.steps := by show s ∈ gr.st a; rw [e]; exact List.mem_append_right _ (.head _)
     rw [e, List.length_append, List.length_cons] at hl
     have h0 : l1 = [] := List.length_eq_zero_iff.1 (by omega)
     subst h0
     have hK : S1 = (x :: S.1, toldBy gr a S.2) := hK
     subst hK
     have := allF_one n (a.aft s) _ (aft_next ha hs).1 hF
     simp only [List.length_cons] at this
     omega
theorem out_semi : ∀ {l : List (AO × Gots)} (s : ByteArray), l ≠ [] → ∃ q, l.foldl taskB s = s ++ (bs [59] ++ q)
 | [], _, h => absurd rfl h
 | x :: l, s, _ => by
   obtain ⟨q, hq⟩ := task_form x s
   obtain ⟨r, hr, _⟩ := out_form l (taskB s x)
   exact ⟨q ++ r, by rw [List.foldl_cons, hr, hq]; simp only [ByteArray.append_assoc]⟩
theorem ends_semi {L : List AO} {a : Wd} {x : ByteArray} (h : Ends gr a x) : Of L a → L ≠ [] → ∃ v w q, x = wtext v w ++ (bs [59] ++ q) := by
 induction h with
 | @here a h =>
   intro ha hne
   have hts : a.ts ≠ [] := fun e => hne (by rw [← ha.1, e]; rfl)
   obtain ⟨q, hq⟩ := out_semi (wtext a.w0 a.w1) hts
   exact ⟨_, _, q, hq⟩
 | @step a s x hs _ ih => exact fun ha hne => ih (aft_next ha hs).1 hne
theorem ends_uniq {o : AO} {a : Wd} {x : ByteArray} (h : Ends gr a x) : Of [o] a → ∀ y, Ends gr a y → x = y := by
 induction h with
 | @here a h =>
   intro _ y hy
   cases hy with
   | here _ => rfl
   | step hs _ => rw [h] at hs; cases hs
 | @step a s x hs _ ih =>
   intro ha y hy
   have hl : (gr.st a).length ≤ 1 := by
     have h1 : a.steps.length ≤ (List.range a.ts.length).length := List.length_filter_le _ _
     rw [List.length_range] at h1
     have h2 := congrArg List.length ha.1
     rw [List.length_map] at h2
     have h3 : [o].length = 1 := rfl
     show a.steps.length ≤ 1
     omega
   cases hy with
   | here h => rw [h] at hs; cases hs
   | @step _ s' _ hs' h' =>
     have : s = s' := by
       cases hst : gr.st a with
       | nil => rw [hst] at hs; cases hs
       | cons z l =>
         rw [hst] at hs hs' hl
         have h0 : l = [] := List.length_eq_zero_iff.1 (by simp only [List.length_cons] at hl; omega)
         subst h0
         rw [List.mem_singleton.1 hs, List.mem_singleton.1 hs']
     subst this
     exact ih (aft_next ha hs).1 y h'
theorem all_ends {L : List AO} {a : Wd} (ha : Of L a) {n : Nat} {S : List ByteArray × List ByteArray} (h1 : All gr n a ([], []) S) (o : ByteArray) : o ∈ S.2 ↔ Ends gr a o :=
 ⟨fun h => (all_sound (gr_ok L) n a _ _ ha h1 o h).resolve_left (fun h => by cases h), (all_spec (gr_ok L) n a _ _ ha (fun x hx => by cases hx) h1).2 o⟩
theorem itoa_no59 (v : Int) : (59 : UInt8) ∉ Lib.itoa v := fun h => by
 have := itoa_byte v _ h
 have h59 : (59 : UInt8).toNat = 59 := rfl
 omega
theorem wtext_no59 (v w : Int) : (59 : UInt8) ∉ (wtext v w).data.toList := by
 unfold wtext numB
 rw [ByteArray.data_append, ByteArray.data_append, Array.toList_append, Array.toList_append]
 intro h
 rcases List.mem_append.1 h with h | h
 · rcases List.mem_append.1 h with h | h
   · exact itoa_no59 v h
   · have h : (59 : UInt8) ∈ [(32 : UInt8)] := h
     simp at h
 · exact itoa_no59 w h
end Sim.Tx
namespace Go.Proofs.YtikackodhiollaaGreatDoor
variable (w0 : World)
open Go.Vc Sim Sim.Tx
set_option maxHeartbeats 8000000
theorem strCut (p r : ByteArray) (hp : (59 : UInt8) ∉ p.data.toList) (hr : Tx.Rest r) (hne : p ++ r ≠ bs [59]) (hsz : p.size ≤ 1000000) : Vc.Fn PP w0 [] 10 [.string (p ++ r), .string (bs [59])] [] (fun v Γ => ∃ a b, v = .tuple #[.string p, .string a, .bool b] ∧ Γ = []) := by
 have hC := slCut w0 p r hp hr hne hsz
 refine zep en10 fn10 rfl rfl rfl ?_
 repeat (first|refine zck ?_|refine zcl ?_|refine zcm ?_|refine zcn ?_)
 first|refine zcp (by kernel_rfl) ?_|refine zcq PP_mixed (by kernel_rfl) (by kernel_rfl) ?_
 repeat' (refine zap rfl ?_; first|refine zan rfl ?_)
 all_goals (refine zch ?_; repeat (first|refine zck ?_|refine zcl ?_|refine zcm ?_|refine zcn ?_))
 first|refine zcp (by kernel_rfl) ?_|refine zcq PP_mixed (by kernel_rfl) (by kernel_rfl) ?_
 repeat' (refine zap rfl ?_; first|refine zan rfl ?_|(refine zai [] hC rfl rfl rfl zdj ?_; rintro v Γ ⟨a, b, rfl, rfl⟩))
 all_goals (refine zch ?_; repeat (first|refine zck ?_|refine zcl ?_|refine zcm ?_|refine zcn ?_))
 exact ret_tmp3 rfl ⟨_, _, rfl, rfl⟩
theorem slPrefix (p r : ByteArray) : FnE PP w0 [] 22 [.string (p ++ r), .string p] [] (.bool true) [] := by
 have hpre : (p ++ r).extract 0 p.size = p := app_pre _ _
 have hsz2 : (p ++ r).size = p.size + r.size := ByteArray.size_append
 generalize hS : p ++ r = S at hpre hsz2 ⊢
 refine zep en22 fn22 rfl rfl rfl ?_
 repeat (first|refine zck ?_|refine zcl ?_|refine zcm ?_|refine zcn ?_)
 first|refine zcp (by kernel_rfl) ?_|refine zcq PP_mixed (by kernel_rfl) (by kernel_rfl) ?_
 repeat' (refine zap rfl ?_; first|refine zan rfl ?_)
 all_goals (refine zch ?_; repeat (first|refine zck ?_|refine zcl ?_|refine zcm ?_|refine zcn ?_))
 first|refine zcp (by kernel_rfl) ?_|refine zcq PP_mixed (by kernel_rfl) (by kernel_rfl) ?_
 repeat' (refine zap rfl ?_; first|refine reg_preSe (z := (p.size : Int)) (s := S) (r := p) rfl rfl (by omega) hpre ?_|refine zbm rfl rfl (by omega) ?_|refine zds rfl rfl rfl ?_|refine zaj rfl ?_|refine zan rfl ?_|refine zdy rfl ?_|refine zbu rfl ?_)
 all_goals (refine zch ?_; repeat (first|refine zck ?_|refine zcl ?_|refine zcm ?_|refine zcn ?_))
 exact zej rfl ⟨rfl, rfl⟩
theorem strPrefix (p r : ByteArray) : FnE PP w0 [] 11 [.string (p ++ r), .string p] [] (.bool true) [] := by
 have hC := slPrefix w0 p r
 refine zep en11 fn11 rfl rfl rfl ?_
 repeat (first|refine zck ?_|refine zcl ?_|refine zcm ?_|refine zcn ?_)
 first|refine zcp (by kernel_rfl) ?_|refine zcq PP_mixed (by kernel_rfl) (by kernel_rfl) ?_
 repeat' (refine zap rfl ?_; first|refine zan rfl ?_)
 all_goals (refine zch ?_; repeat (first|refine zck ?_|refine zcl ?_|refine zcm ?_|refine zcn ?_))
 first|refine zcp (by kernel_rfl) ?_|refine zcq PP_mixed (by kernel_rfl) (by kernel_rfl) ?_
 repeat' (refine zap rfl ?_; first|refine zan rfl ?_|refine zah [] hC rfl rfl rfl zdj rfl ?_)
 all_goals (refine zch ?_; repeat (first|refine zck ?_|refine zcl ?_|refine zcm ?_|refine zcn ?_))
 exact zej rfl ⟨rfl, rfl⟩
end Go.Proofs.YtikackodhiollaaGreatDoor
namespace Go.Proofs.YtikackodhiollaaGreatDoor
variable (w0 : World)
open Go.Vc Sim Sim.Tx
set_option maxHeartbeats 8000000
def oA : AO := ⟨0, false, 2⟩
theorem oA_ok : oA.ok := ⟨⟨by decide, by decide⟩, fun h => (by cases h), by decide, by decide⟩
theorem awake_acc {S : List ByteArray × List ByteArray} {n : Nat} (h : Tx.All gr n (Tx.begin (5, 0) [oA]) ([], []) S) {acc : List ByteArray} (hn : acc.Nodup) (ha : ∀ o, o ∈ acc ↔ o ∈ S.2) : ∃ r, acc = [wtext 7 0 ++ (bs [59] ++ r)] := by
 have hB : Of [oA] (Tx.begin (5, 0) [oA]) := begin_of _ (by decide)
 have hE := all_ends hB h
 have hO : Ord [oA] (none' [oA]) (5, 0) (7, 0) := .step (i := 0) (o := oA) rfl rfl (.last fun i hi => by
   have : i = 0 := by have h1 : [oA].length = 1 := rfl; omega
   subst this; rfl)
 obtain ⟨x, r, h3, h4, h5⟩ := ord_ends hO (Tx.begin (5, 0) [oA]) hB rfl (begin_dn (5, 0) [oA]) (fun i o g hx _ => by
   have hx : ([oA].map fun o => (o, ([] : Gots)))[i]? = some (o, g) := hx
   rw [List.getElem?_map] at hx
   cases hl : [oA][i]? with
   | none => rw [hl] at hx; cases hx
   | some z => rw [hl] at hx; cases hx; rfl)
 have hx : x ∈ acc := (ha x).2 ((hE x).2 h3)
 have hall : ∀ y ∈ acc, y = x := fun y hy => ends_uniq ((hE y).1 ((ha y).1 hy)) hB x h3
 obtain ⟨v, w, q, h6⟩ := ends_semi h3 hB (by simp)
 have hr : ∃ q, r = bs [59] ++ q := by
   rcases h5 with rfl | h5
   · exfalso
     have e : (wtext 7 0).data.toList = (wtext v w).data.toList ++ 59 :: q.data.toList := by
       rw [← app_semi, ← h6, h4, show wtext 7 0 ++ bs [] = wtext 7 0 from ByteArray.append_empty]
     exact wtext_no59 7 0 (by rw [e]; exact List.mem_append_right _ (.head _))
   · exact h5
 obtain ⟨q2, rfl⟩ := hr
 refine ⟨q2, ?_⟩
 rw [← h4]
 cases acc with
 | nil => cases hx
 | cons y l =>
   have hy := hall y (.head _)
   subst hy
   cases l with
   | nil => rfl
   | cons z l =>
     have := hall z (.tail _ (.head _))
     subst this
     exact absurd (.head _) (List.nodup_cons.1 hn).1
theorem sortB_one (x : ByteArray) : strsV (sortB [x]) = [Value.string x] := by
 show strsV (List.mergeSort [x.data.toList] _) = _
 rw [List.mergeSort_singleton]
 rfl
theorem opA_rd (sh : Shared) (nb : Nat) (g : Heap) (hg : pt nb (.cells (List.toArray (opE oA)) 26 (0, 0)) g) : RdO sh (fun s => RdSl w0 s opE 3 (.slice (some ⟨nb, 0, none⟩) 1 1) [oA]) g := by
 refine RdO.mono (φ := fun s => (nb, Obj.cells (List.toArray (opE oA)) 26 (0, 0)) ∈ s) (fun s _ hs => ?_) g (RdO.ofPt g hg)
 have hc : RdCl w0 s 3 (some ⟨nb, 0, none⟩) 1 (opE oA) := .inr ⟨nb, 0, opE oA, _, _, rfl, fun hF Γ w hsh hst => (hst.frame (hsh _ hs)).2, rfl, Nat.le_refl _⟩
 exact RdCl.sl (l := [oA]) (cap := 1) (fun _ _ => rfl) hc (Nat.le_refl _)
theorem tpAwake (ht : TabOk w0) : FnE PP w0 [] 4 [] [] (.bool true) [] := by
 have hB : Of [oA] (Tx.begin (5, 0) [oA]) := begin_of _ (by decide)
 have hW := fun (sh : Shared) (nb : Nat) => Fn.kept (w0 := w0) (sh := sh) (Γ := []) (A := pt nb (.cells (List.toArray (opE oA)) 26 (0, 0))) (ψ := fun s => RdSl w0 s opE 3 (.slice (some ⟨nb, 0, none⟩) 1 1) [oA]) (ι := WoS) (R := fun W r => r = .tuple #[woV W, .bool true]) (φ := fun W s => RdWo w0 s W (Tx.begin (5, 0) [oA]) 0) en6
   (fun g hg => opA_rd w0 sh nb g hg) (fun sh' _ hl => tpWorld w0 sh' 5 0 (by unfold I64; decide) (by unfold I64; decide) (some ⟨nb, 0, none⟩) 1 [oA] (fun o ho => by rw [List.mem_singleton.1 ho]; exact oA_ok) (by decide) hl)
 refine zep en4 fn4 rfl rfl rfl ?_
 repeat (first|refine zck ?_|refine zcl ?_|refine zcm ?_|refine zcn ?_)
 first|refine zcp (by kernel_rfl) ?_|refine zcq PP_mixed (by kernel_rfl) (by kernel_rfl) ?_
 repeat' (refine zap rfl ?_; first|refine zan rfl ?_)
 all_goals (refine zch ?_; repeat (first|refine zck ?_|refine zcl ?_|refine zcm ?_|refine zcn ?_))
 first|refine zcp (by kernel_rfl) ?_|refine zcq PP_mixed (by kernel_rfl) (by kernel_rfl) ?_
 repeat' (refine zap rfl ?_; first|refine zcb rfl ?_|refine zar (fun t1 => ?_)|refine zdt rfl rfl rfl rfl rfl rfl (fun nb2 => ?_)|refine zan rfl ?_|(refine zai [0] (hW _ _) rfl rfl rfl (fun _ hp => hp) ?_; rintro v Γ ⟨W, rfl, rfl⟩)|refine zae 1 rfl rfl rfl rfl rfl rfl rfl ?_|refine zex rfl ?_)
 all_goals (refine zch ?_; repeat (first|refine zck ?_|refine zcl ?_|refine zcm ?_|refine zcn ?_))
 repeat (first|refine zck ?_|refine zcl ?_|refine zcm ?_|refine zcn ?_|refine zco ?_)
 refine run_shareQ [0] (fun _ hp => hp) rfl ?_
 intro bl hs hu hw
 have hAl := expAll w0 ht [oA] 50 (by decide) _ W (Tx.begin (5, 0) [oA]) 0 (by decide) hB hw
 repeat (first|refine zck ?_|refine zcl ?_|refine zcm ?_|refine zcn ?_)
 first|refine zcp (by kernel_rfl) ?_|refine zcq PP_mixed (by kernel_rfl) (by kernel_rfl) ?_
 repeat' (refine zap rfl ?_; first|refine zan rfl ?_|refine zab 0 rfl rfl rfl ?_|(refine zai [] hAl rfl rfl rfl hu ?_; rintro v Γ ⟨acc, ad, c, n, e, rfl, rfl, hr⟩))
 all_goals (refine zch ?_; repeat (first|refine zck ?_|refine zcl ?_|refine zcm ?_|refine zcn ?_))
 repeat (first|refine zck ?_|refine zcl ?_|refine zcm ?_|refine zcn ?_|refine zco ?_)
 have hok : e = 0 ∧ ∃ r, acc = [wtext 7 0 ++ (bs [59] ++ r)] := by
   rcases hr with ⟨_, hF⟩ | ⟨h0, _, hn, S, hS, hm⟩
   · have := allF_one _ _ _ hB hF
     have h18 := mu_le hB
     simp only [List.length_nil] at this
     omega
   · exact ⟨h0, awake_acc hS hn hm⟩
 obtain ⟨rfl, r, rfl⟩ := hok
 have e7 : wtext 7 0 ++ (bs [59] ++ r) = bs [55, 32, 48, 59] ++ r := by
   have h7 : wtext 7 0 = bs [55, 32, 48] := by
     unfold wtext numB
     simp [Lib.itoa, Lib.decDigits]
     rfl
   rw [h7, ← ByteArray.append_assoc]
   rfl
 rw [e7, sortB_one]
 have hP := strPrefix w0 (bs [55, 32, 48, 59]) r
 refine run_shareP [0] (fun s => RdCl w0 s 1 ad 1 [Value.string (bs [55, 32, 48, 59] ++ r)] ∧ 1 ≤ c) RdO.ofCl rfl ?_
 intro bl3 hs3 hc3
 have hrs : RdSl w0 _ encY 1 (.slice ad 1 c) [bs [55, 32, 48, 59] ++ r] := RdCl.sl (l := [bs [55, 32, 48, 59] ++ r]) (fun _ _ => rfl) hc3.1 hc3.2
 obtain ⟨bb, off, cc, T, fr, ea, e2, _, e3⟩ := hrs.cells (i := 0) rfl
 subst ea
 repeat (first|refine zck ?_|refine zcl ?_|refine zcm ?_|refine zcn ?_)
 first|refine zcp (by kernel_rfl) ?_|refine zcq PP_mixed (by kernel_rfl) (by kernel_rfl) ?_
 repeat' (refine zap rfl ?_; first|refine zas rfl rfl ⟨Int.le_refl _, by rw [List.length_singleton]; decide⟩ ?_|refine zad rfl e2 (e3 0 _ rfl _ (by omega)) ?_|refine zaj rfl ?_|refine zan rfl ?_|refine zah [] hP rfl rfl rfl zdj rfl ?_|refine zce rfl ?_|refine zbc rfl rfl (by omega) ?_|refine zbo rfl rfl ?_|refine zbu rfl ?_)
 all_goals (refine zch ?_; repeat (first|refine zck ?_|refine zcl ?_|refine zcm ?_|refine zcn ?_))
 exact zeg (zek (zel [] rfl (zem rfl rfl ⟨rfl, rfl, rfl⟩)))
end Go.Proofs.YtikackodhiollaaGreatDoor
