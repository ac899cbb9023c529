import Derived.Test.YtikackodhiollaaGreatDoorPart5
import Derived.Test.YtikackodhiollaaGreatDoorKit
/- Own work: lemmas of this claim. -/
namespace Sim.Tx
open Go Go.Vc Sim
def put2 {α : Type} (b : Bool) (x y z : α) : α × α := if b = true then (x, z) else (z, y)
theorem RdHs.add {w0 : World} {sh s : Shared} {ms : List Ms} {cnt : Nat} {a : Option Addr} {c : Nat} {w th : Int} {m1 : Option Nat} (hmok : ∀ m ∈ ms, RdVw w0 sh m.vw ∧ I64 m.v ∧ I64 m.th) (hlen : ms.length ≤ cnt + 1) (up : ∀ p ∈ sh, p ∈ s) (hv1 : RdVw w0 s m1) (hw : I64 w) (ht : I64 th)
   (h : RdCl w0 s 5 a (ms.length + 1) (ms.flatMap msgE ++ msgE ⟨w, th, m1⟩)) (hc : ms.length + 1 ≤ c) : RdHs w0 s ⟨a, ms.length + 1, c⟩ w (cnt + 1) := by
 refine ⟨ms ++ [⟨w, th, m1⟩], by rw [List.length_append]; rfl, ?_, by rw [List.length_append]; exact hc, fun m hm => ?_, by rw [List.length_append, List.length_singleton]; omega, ⟨w, th, m1⟩, ?_, rfl⟩
 · have e1 : (ms ++ [(⟨w, th, m1⟩ : Ms)]).flatMap msgE = ms.flatMap msgE ++ msgE ⟨w, th, m1⟩ := by rw [List.flatMap_append]; rfl
   rw [e1, List.length_append]
   exact h
 · rcases List.mem_append.1 hm with hm | hm
   · exact ⟨(hmok m hm).1.mono up, (hmok m hm).2⟩
   · rw [List.mem_singleton.1 hm]
     exact ⟨hv1, hw, ht⟩
 · rw [List.length_append, List.length_singleton, Nat.add_sub_cancel, List.getElem?_append_right (Nat.le_refl _), Nat.sub_self]
   rfl
end Sim.Tx
namespace Go.Proofs.YtikackodhiollaaGreatDoor
variable (w0 : World)
open Go.Vc Sim Sim.Tx
set_option maxHeartbeats 8000000
def AddsF (w0 : World) (sh : Shared) (q : MemS) (h0 h1 : Hs) (b : Bool) (t : Nat) (w : Int) (cnt : Nat) : Prop :=
 Vc.Fn PP w0 sh 177 [memQ q, .int .i64 ((t : Int) + 1), .int .i64 (plI b), wordV w, .bool true] []
   (fun r Γ => ∃ q', r = memQ q' ∧ Γ = [RdO sh (fun s => ∃ h' vs', RdMem w0 s q' (put2 b h0 h1 h').1 (put2 b h0 h1 h').2 vs' ∧ RdHs w0 s h' w (cnt + 1))])
theorem memAdds (sh : Shared) (q : MemS) (h0 h1 : Hs) (vs : List (Option Nat)) (hq : RdMem w0 sh q h0 h1 vs) (b : Bool) (x : Int) (cnt : Nat) (hc : cnt ≤ 1000) (ms : List Ms) (hms : RdMs w0 sh (pick2 b h0 h1) x cnt ms) (t : Nat) (ht : t < 3) (w : Int) (hw : I64 w) :
   AddsF w0 sh q h0 h1 b t w cnt := by
 unfold AddsF
 obtain ⟨i, hi01, hpl⟩ : ∃ i : Nat, (i = 0 ∧ b = false ∨ i = 1 ∧ b = true) ∧ plI b = i := by cases b; exact ⟨0, .inl ⟨rfl, rfl⟩, rfl⟩; exact ⟨1, .inr ⟨rfl, rfl⟩, rfl⟩
 rw [hpl]
 have hb1 : [h0, h1][i]? = some (pick2 b h0 h1) := by rcases hi01 with ⟨rfl, rfl⟩ | ⟨rfl, rfl⟩ <;> rfl
 obtain ⟨bb, off, cc, T, fr, ea, e2, e3, _⟩ := hq.row.cells hb1
 have hlen := hms.2.2.2.2.1
 have hn := hms.1
 obtain ⟨va, hva⟩ : ∃ v, vs[t]? = some v := ⟨_, List.getElem?_eq_getElem (by rw [hq.len]; exact ht)⟩
 have hvv := hq.views
 have hvl := hq.len
 have hrow := hq.row
 have hpl2 := hq.pl
 have hpc := hq.pcap
 have hWith := viewWith w0 sh va (hq.ok va (List.mem_of_getElem? hva)) i (by omega) (ms.length : Nat) (by omega)
 unfold WithF at hWith
 have hvw := hq.vw
 have hvc := hq.vcap
 have hvo := hq.ok
 obtain ⟨pa, pc, vad, vc⟩ := q
 dsimp only at ea e2 e3 hvv hrow hpl2 hpc hvw hvc ⊢
 subst ea
 have hSeen := memSeen w0 sh (some ⟨bb, off, none⟩) 2 pc vad vc vs (by rw [hvl]; exact hvv) t va hva (by omega)
 rw [hvl] at hSeen
 have hL := hisLen w0 (pick2 b h0 h1).a ms.length (pick2 b h0 h1).c
 have hcs := hms.2.1
 have hcap := hms.2.2.1
 have hmok := hms.2.2.2.1
 generalize hg : pick2 b h0 h1 = g at *
 obtain ⟨ga, gn, gc⟩ := g
 dsimp only at hn hL hcs hcap
 subst hn
 refine zep en177 fn177 rfl rfl rfl ?_
 refine run_kept ?_
 repeat (first|refine zck ?_|refine zcl ?_|refine zcm ?_|refine zcn ?_)
 first|refine zcp (by kernel_rfl) ?_|refine zcq PP_mixed (by kernel_rfl) (by kernel_rfl) ?_
 repeat' (refine zap rfl ?_; first|refine zaq (cs := [_, _]) rfl (fun t5 => ?_)|refine zaq (cs := [_, _, _]) rfl (fun t8 => ?_)|refine zar (fun t10 => ?_))
 all_goals (refine zch ?_; repeat (first|refine zck ?_|refine zcl ?_|refine zcm ?_|refine zcn ?_))
 refine run_shareK [1] rfl ?_
 repeat (first|refine zck ?_|refine zcl ?_|refine zcm ?_|refine zcn ?_)
 first|refine zcp (by kernel_rfl) ?_|refine zcq PP_mixed (by kernel_rfl) (by kernel_rfl) ?_
 repeat' (refine zap rfl ?_; first|refine zas rfl rfl (by omega) ?_|refine zar (fun t11 => ?_)|refine zad rfl (fun hF Γ w h1 h2 => e2 hF Γ w (fun p hp => h1 p (.tail _ hp)) h2) (e3 _ (by omega)) ?_|refine zan rfl ?_|refine zab 0 rfl rfl rfl ?_|refine zao rfl ?_|refine zae 2 rfl rfl rfl rfl rfl rfl rfl ?_)
 all_goals (refine zch ?_; repeat (first|refine zck ?_|refine zcl ?_|refine zcm ?_|refine zcn ?_))
 repeat (first|refine zck ?_|refine zcl ?_|refine zcm ?_|refine zcn ?_|refine zco ?_)
 refine run_shareK [2] rfl ?_
 refine run_bind_eq2 (σ := Option Nat × Nat) (l' := fun m => [(1, .int .i64 ((t : Int) + 1)), (2, .int .i64 i), (4, .bool true), (5, .pointer (some ⟨t5, 0, none⟩)), (8, .pointer (some ⟨t8, 0, none⟩)), (10, .pointer (some ⟨t10, 0, none⟩)), (11, .pointer (some ⟨t11, 0, none⟩)), (12, .pointer (some ⟨m.2, 0, none⟩))])
   (Γ' := fun m => [RdO sh (fun s => RdVw w0 s m.1), pt t10 (.cells (List.toArray [.slice none 0 0, .slice none 0 0]) 33 (0, 0)), pt m.2 (.cells (List.toArray [.map m.1]) 165 (0, 0)), pt t5 (.cells (List.toArray [.slice (some ⟨bb, off, none⟩) 2 pc, .slice vad 3 vc]) 33 (0, 0))]) ?_ (fun m junk => ?_)
 · refine run_share_keep [0] rfl ?_
   repeat (first|refine zck ?_|refine zcl ?_|refine zcm ?_|refine zcn ?_)
   first|refine zcp (by kernel_rfl) ?_|refine zcq PP_mixed (by kernel_rfl) (by kernel_rfl) ?_
   repeat' (refine zap rfl ?_; first|refine zar (fun t12 => ?_)|refine zan rfl ?_|refine zaa 0 rfl rfl rfl ?_|refine zaa 1 rfl rfl rfl ?_|refine zah [] hSeen rfl rfl rfl (fun p hp => .tail _ (.tail _ (.tail _ hp))) rfl ?_|refine zah [] hL rfl rfl rfl zdj rfl ?_|(refine zai [] hWith rfl rfl rfl (fun p hp => .tail _ (.tail _ (.tail _ hp))) ?_; rintro v Γ ⟨m1, rfl, rfl⟩)|refine zae 2 rfl rfl rfl rfl rfl rfl rfl ?_)
   all_goals (refine zch ?_; repeat (first|refine zck ?_|refine zcl ?_|refine zcm ?_|refine zcn ?_))
   exact run_nil (show _ ∧ _ from ⟨rfl, (m1, t12), ⟨rfl, rfl, rfl, rfl, rfl, rfl, rfl, rfl, trivial⟩, rfl⟩)
 obtain ⟨m1, t12⟩ := m
 dsimp only
 refine run_shareO [0] (fun _ hp => .tail _ (.tail _ hp)) rfl ?_
 intro bl hs hu hv1
 have hv1 := hv1.mono hu
 refine run_shareK [1] rfl ?_
 repeat (first|refine zck ?_|refine zcl ?_|refine zcm ?_|refine zcn ?_|refine zco ?_)
 repeat (first|refine zck ?_|refine zcl ?_|refine zcm ?_|refine zcn ?_)
 first|refine zcp (by kernel_rfl) ?_|refine zcq PP_mixed (by kernel_rfl) (by kernel_rfl) ?_
 repeat' (refine zap rfl ?_; first|refine zar (fun t13 => ?_)|refine zaa 0 rfl rfl rfl ?_|refine zae 2 rfl rfl rfl rfl rfl rfl rfl ?_)
 all_goals (refine zch ?_; repeat (first|refine zck ?_|refine zcl ?_|refine zcm ?_|refine zcn ?_))
 repeat (first|refine zck ?_|refine zcl ?_|refine zcm ?_|refine zcn ?_|refine zco ?_)
 refine run_shareK [2] rfl ?_
 repeat (first|refine zck ?_|refine zcl ?_|refine zcm ?_|refine zcn ?_)
 first|refine zcp (by kernel_rfl) ?_|refine zcq PP_mixed (by kernel_rfl) (by kernel_rfl) ?_
 repeat' (refine zap rfl ?_; first|refine zbx rfl ?_|refine zan rfl ?_)
 all_goals (refine zch ?_; repeat (first|refine zck ?_|refine zcl ?_|refine zcm ?_|refine zcn ?_))
 refine zcj rfl ?_
 repeat (first|refine zck ?_|refine zcl ?_|refine zcm ?_|refine zcn ?_|refine zco ?_)
 repeat (first|refine zck ?_|refine zcl ?_|refine zcm ?_|refine zcn ?_)
 first|refine zcp (by kernel_rfl) ?_|refine zcq PP_mixed (by kernel_rfl) (by kernel_rfl) ?_
 repeat' (refine zap rfl ?_; first|refine reg_sliceT rfl rfl (by omega) ?_|refine zan rfl ?_|refine zab 1 rfl rfl rfl ?_|refine zao rfl ?_|refine zau rfl rfl (by omega) ?_)
 all_goals (refine zch ?_; repeat (first|refine zck ?_|refine zcl ?_|refine zcm ?_|refine zcn ?_))
 repeat (first|refine zck ?_|refine zcl ?_|refine zcm ?_|refine zcn ?_|refine zco ?_)
 have hAdd := hisAdd w0 sh ga ms.length gc (ms.flatMap msgE) hcs hcap (by omega) ⟨w, (t : Int) + 1, m1⟩
 have hft : RdCl w0 sh 1 (some ⟨bb, off, none⟩) i ((hsE h0 ++ hsE h1).take (i * 1)) := hpl2.take (by omega)
 refine run_bind_eq2 (σ := (Nat × Nat) × (Nat × Nat) × Nat) (l' := fun m => [(1, .int .i64 ((t : Int) + 1)), (5, .pointer (some ⟨t5, 0, none⟩)), (10, .pointer (some ⟨t10, 0, none⟩)), (12, .pointer (some ⟨t12, 0, none⟩)), (14, tailV (some ⟨bb, off, none⟩) 2 pc 1 ((i : Int) + 1).toNat), (15, .slice (some ⟨m.2.1.1, 0, none⟩) (i + 1) m.2.1.2)])
   (Γ' := fun m => [SlA 123 1 (some ⟨m.2.1.1, 0, none⟩) (i + 1) m.2.1.2 ((hsE h0 ++ hsE h1).take (i * 1) ++ [.slice (some ⟨m.1.1, 0, none⟩) (ms.length + 1) m.1.2]), SlA 167 5 (some ⟨m.1.1, 0, none⟩) (ms.length + 1) m.1.2 (ms.flatMap msgE ++ msgE ⟨w, (t : Int) + 1, m1⟩), pt t10 (.cells (List.toArray [.slice none 0 0, .slice none 0 0]) 33 (0, 0)), pt m.2.2 (.cells (List.toArray [.slice (some ⟨m.1.1, 0, none⟩) (ms.length + 1) m.1.2]) 123 (0, 0)), pt t5 (.cells (List.toArray [.slice (some ⟨bb, off, none⟩) 2 pc, .slice vad 3 vc]) 33 (0, 0))]) ?_ (fun m junk => ?_)
 · refine run_share_keep [1] rfl ?_
   repeat (first|refine zck ?_|refine zcl ?_|refine zcm ?_|refine zcn ?_)
   first|refine zcp (by kernel_rfl) ?_|refine zcq PP_mixed (by kernel_rfl) (by kernel_rfl) ?_
   repeat' (refine zap rfl ?_; first|refine reg_slice3 rfl rfl rfl (by omega) ?_|refine zcb rfl ?_|refine zdt rfl rfl rfl rfl rfl rfl (fun nb2 => ?_)|refine zan rfl ?_|refine zaa 0 rfl rfl rfl ?_|refine zaa 1 rfl rfl rfl ?_|refine zaa 3 rfl rfl rfl ?_|refine zaa 4 rfl rfl rfl ?_|(refine zai [] hAdd rfl rfl rfl (fun p hp => .tail _ (.tail _ (.tail _ (List.mem_append_left _ (.tail _ (.tail _ hp)))))) ?_; rintro v Γ ⟨n1, c1, rfl, rfl⟩)|refine reg_append_full 2 rfl rfl (hft.mono (fun p hp => .tail _ (.tail _ (.tail _ (List.mem_append_left _ (.tail _ (.tail _ hp))))))) rfl rfl rfl rfl (by omega) (by omega) (fun n2 c2 => ?_)|refine zao rfl ?_)
   all_goals (refine zch ?_; repeat (first|refine zck ?_|refine zcl ?_|refine zcm ?_|refine zcn ?_))
   exact run_nil (show _ ∧ _ from ⟨rfl, ((n1, c1), (n2, c2), nb2), ⟨rfl, rfl, rfl, rfl, rfl, rfl, trivial⟩, rfl⟩)
 obtain ⟨⟨n1, c1⟩, ⟨n2, c2⟩, nb2⟩ := m
 dsimp only
 have htl : RdSl w0 sh hsE 1 (tailV (some ⟨bb, off, none⟩) 2 pc 1 ((i : Int) + 1).toNat) ([h0, h1].drop (i + 1)) := RdSl.tail (l := [h0, h1]) (q := i + 1) hrow (by show i + 1 ≤ 2; omega)
 have hdl : ([h0, h1].drop (i + 1)).length = 1 - i := by rcases hi01 with ⟨rfl, _⟩ | ⟨rfl, _⟩ <;> rfl
 have hone : allOne (([h0, h1].drop (i + 1)).flatMap hsE) = true := by rcases hi01 with ⟨rfl, _⟩ | ⟨rfl, _⟩ <;> rfl
 have hel : i + 1 + ([h0, h1].drop (i + 1)).length = 2 := by omega
 repeat (first|refine zck ?_|refine zcl ?_|refine zcm ?_|refine zcn ?_|refine zco ?_)
 repeat (first|refine zck ?_|refine zcl ?_|refine zcm ?_|refine zcn ?_)
 first|refine zcp (by kernel_rfl) ?_|refine zcq PP_mixed (by kernel_rfl) (by kernel_rfl) ?_
 repeat' (refine zap rfl ?_; first|refine zan rfl ?_|refine reg_append_rdE 0 rfl rfl (htl.mono (fun p hp => .tail _ (.tail _ (List.mem_append_left _ (.tail _ (.tail _ hp)))))) (by decide) hone rfl rfl (by omega) (fun _ _ => rfl) (fun a3 c3 => ?_)|refine zao rfl ?_|refine zae 4 rfl rfl rfl rfl rfl rfl rfl ?_)
 all_goals (refine zch ?_; repeat (first|refine zck ?_|refine zcl ?_|refine zcm ?_|refine zcn ?_))
 rw [hel]
 have hrw : (hsE h0 ++ hsE h1).take (i * 1) ++ [Value.slice (some ⟨n1, 0, none⟩) (ms.length + 1) c1] ++ ([h0, h1].drop (i + 1)).flatMap hsE = hsE (put2 b h0 h1 ⟨some ⟨n1, 0, none⟩, ms.length + 1, c1⟩).1 ++ hsE (put2 b h0 h1 ⟨some ⟨n1, 0, none⟩, ms.length + 1, c1⟩).2 := by
   rcases hi01 with ⟨rfl, rfl⟩ | ⟨rfl, rfl⟩ <;> rfl
 rw [hrw]
 refine run_shareA [0] (fun s => RdCl w0 s 1 a3 2 _ ∧ 2 ≤ c3) RdO.ofCl rfl ?_
 intro bl2 hs2 hv2
 refine run_shareA [0] (fun s => RdCl w0 s 5 (some ⟨n1, 0, none⟩) (ms.length + 1) (ms.flatMap msgE ++ msgE ⟨w, (t : Int) + 1, m1⟩) ∧ ms.length + 1 ≤ c1) RdO.ofCl rfl ?_
 intro bl3 hs3 hv3
 have up1 : ∀ p ∈ sh, p ∈ (t13, Obj.cells #[Value.map m1] 165 (0, 0)) :: (t12, Obj.cells #[Value.map m1] 165 (0, 0)) :: ((t11, Obj.cells #[Value.slice ga ms.length gc] 123 (0, 0)) :: (t8, Obj.cells #[Value.int IntKind.i64 w, Value.int IntKind.u32 0, Value.int IntKind.u32 0] 61 (0, 0)) :: sh ++ bl) := fun p hp => .tail _ (.tail _ (List.mem_append_left _ (.tail _ (.tail _ hp))))
 have up := fun p hp => hs3 p (hs2 p (up1 p hp))
 have hv1 := hv1.mono (fun p hp => hs3 p (hs2 p (List.Mem.tail _ (List.Mem.tail _ hp))))
 have hM : RdMem w0 _ ⟨a3, c3, vad, vc⟩ (put2 b h0 h1 ⟨some ⟨n1, 0, none⟩, ms.length + 1, c1⟩).1 (put2 b h0 h1 ⟨some ⟨n1, 0, none⟩, ms.length + 1, c1⟩).2 vs := ⟨hv2.1.mono hs3, hv2.2, hvw.mono up, hvc, hvl, fun m hm => (hvo m hm).mono up⟩
 have hH := RdHs.add (cnt := cnt) hmok hlen up hv1 hw (by unfold I64; omega : I64 ((t : Int) + 1)) hv3.1 hv3.2
 have hWw := memWith w0 _ ⟨a3, c3, vad, vc⟩ _ _ vs hM m1 hv1 t ht
 repeat (first|refine zck ?_|refine zcl ?_|refine zcm ?_|refine zcn ?_|refine zco ?_)
 repeat (first|refine zck ?_|refine zcl ?_|refine zcm ?_|refine zcn ?_)
 first|refine zcp (by kernel_rfl) ?_|refine zcq PP_mixed (by kernel_rfl) (by kernel_rfl) ?_
 repeat' (refine zap rfl ?_; first|refine zan rfl ?_|refine zaa 1 rfl rfl rfl ?_|refine zab 2 rfl rfl rfl ?_|(refine zai [] hWw rfl rfl rfl (fun _ hp => hp) ?_; rintro v Γ ⟨q', rfl, rfl⟩)|refine zae 1 rfl rfl rfl rfl rfl rfl rfl ?_)
 all_goals (refine zch ?_; repeat (first|refine zck ?_|refine zcl ?_|refine zcm ?_|refine zcn ?_))
 repeat (first|refine zck ?_|refine zcl ?_|refine zcm ?_|refine zcn ?_|refine zco ?_)
 refine run_shareO [0] (fun _ hp => hp) rfl ?_
 intro bl4 hs4 hu4 hv4
 exact retK [] (fun s => ∃ h' vs', RdMem w0 s q' (put2 b h0 h1 h').1 (put2 b h0 h1 h').2 vs' ∧ RdHs w0 s h' w (cnt + 1)) (fun _ hs => ⟨_, _, hv4.mono (fun p hp => hs p (hu4 p hp)), hH.mono (fun p hp => hs p (hs4 p hp)) (Nat.le_refl _)⟩) rfl (zem rfl (zeo 0 rfl rfl rfl) ⟨rfl, q', rfl, rfl⟩)
end Go.Proofs.YtikackodhiollaaGreatDoor
namespace Go.Proofs.YtikackodhiollaaGreatDoor
open Go.Vc Sim Sim.Tx
set_option maxHeartbeats 4000000
theorem xword_und : PP.underlying 61 = some (.struct #[⟨"Val", 2, 0, false, "", "", 0⟩, ⟨"Ver", 59, 1, false, "", "", 8⟩, ⟨"Ref", 59, 2, false, "", "", 12⟩]) := by
 rw [PP_def, Tryz.underlying61]
theorem xword_stood : PP.stoodInHeld 61 = false := by rw [PP_def]; kernel_rfl
theorem xword_guard : PP.eqGuardType PP.depth 61 = false := by rw [PP_def]; kernel_rfl
theorem xint_eq {t : TypeId} {k : IntKind} (h : PP.underlying t = some (.int k)) (d : Nat) (m m' : Int) (w : World) : (Op.equalIn (d + 1) t (.int k m) (.int k m')).run PP w = .ok (decide (m = m')) w := by
 by_cases e : m = m'
 · subst e; simp [Op.equalIn, run_underlying h]
 · simp [Op.equalIn, run_underlying h, e]
theorem xrun_equal2 {P : Program} {t : TypeId} {u v : Value} {q : Bool} {w : World} (h : ∀ d, (Op.equalIn (d + 2) t u v).run P w = .ok q w) : (Op.equal t u v).run P w = .ok q w := h 9998
theorem xword_equal (a a' : Int) (w : World) : (Op.equal 61 (wordV a) (wordV a')).run PP w = .ok (decide (a = a')) w := by
 have h2 : PP.underlying 2 = some (.int .i64) := by rw [PP_def, Tryz.underlying2]
 have h46 : PP.underlying 59 = some (.int .u32) := by rw [PP_def, Tryz.underlying59]
 have e2 := fun d m w => xint_eq h2 d a m w
 have e46 := fun d m m' w => xint_eq h46 d m m' w
 have a2 : ∀ w, (isAgg 2).run PP w = .ok false w := fun w => TShape.agg_run w
 have a46 : ∀ w, (isAgg 59).run PP w = .ok false w := fun w => TShape.agg_run w
 have p2 : ∀ a w, (part 2 #[Value.int .i64 a, .int .u32 0, .int .u32 0] 0).run PP w = .ok (.int .i64 a) w := fun a w => by simp [part, a2]
 have p3 : ∀ a w, (part 59 #[Value.int .i64 a, .int .u32 0, .int .u32 0] 1).run PP w = .ok (.int .u32 0) w := fun a w => by simp [part, a46]
 have p4 : ∀ a w, (part 59 #[Value.int .i64 a, .int .u32 0, .int .u32 0] 2).run PP w = .ok (.int .u32 0) w := fun a w => by simp [part, a46]
 refine xrun_equal2 (fun d => ?_)
 rw [Op.equalIn]
 simp only [Sem.run_bind, run_underlying xword_und, Result.andThen_ok]
 have hs : (program).run PP w = .ok PP w := rfl
 simp only [hs, Result.andThen_ok, xword_stood, Bool.false_eq_true, if_false]
 by_cases e : a = a'
 · subst e
   simp [← Array.forIn_toList, p2, p3, p4, e2, e46]
 · simp [← Array.forIn_toList, p2, p3, p4, e2, e46, e]
theorem xstep_und : PP.underlying 106 = some (.struct #[⟨"thread", 3, 0, false, "", "simulcast/explore", 0⟩, ⟨"choice", 3, 1, false, "", "simulcast/explore", 8⟩]) := by
 rw [PP_def, Tryz.underlying106]
theorem xstep_stood : PP.stoodInHeld 106 = false := by rw [PP_def]; kernel_rfl
abbrev kvT : Nat → Value := fun i => .agg (List.toArray [.int .i64 ((i : Int) + 1), .int .i64 0])
theorem xstep_equal (i j : Nat) (w : World) : (Op.equal 106 (kvT i) (kvT j)).run PP w = .ok (decide (j = i)) w := by
 have h2 : PP.underlying 3 = some (.int .i64) := by rw [PP_def, Tryz.underlying3]
 have e2 := fun d m m' w => xint_eq h2 d m m' w
 have a2 : ∀ w, (isAgg 3).run PP w = .ok false w := fun w => TShape.agg_run w
 have p2 : ∀ a b w, (part 3 #[Value.int .i64 a, .int .i64 b] 0).run PP w = .ok (.int .i64 a) w := fun a b w => by simp [part, a2]
 have p3 : ∀ a b w, (part 3 #[Value.int .i64 a, .int .i64 b] 1).run PP w = .ok (.int .i64 b) w := fun a b w => by simp [part, a2]
 refine xrun_equal2 (fun d => ?_)
 rw [Op.equalIn]
 simp only [Sem.run_bind, run_underlying xstep_und, Result.andThen_ok]
 have hs : (program).run PP w = .ok PP w := rfl
 simp only [hs, Result.andThen_ok, xstep_stood, Bool.false_eq_true, if_false]
 by_cases e : j = i
 · subst e
   simp [← Array.forIn_toList, p2, p3, e2]
 · have e' : ¬ (i : Int) = (j : Int) := by omega
   simp [← Array.forIn_toList, p2, p3, e2, e, e']
instance keyStep : KeyK PP 106 kvT := keyK_ask (D := .struct #[⟨"thread", 3, 0, false, "", "simulcast/explore", 0⟩, ⟨"choice", 3, 1, false, "", "simulcast/explore", 8⟩]) xstep_und
 (fun em w a => by
   have h2 : PP.underlying 3 = some (.int .i64) := by rw [PP_def, Tryz.underlying3]
   have hc : ∀ d z w, (Instr.checkKey em (d + 1) 3 (.int .i64 z)).run PP w = .ok () w := fun d z w => check_int h2 em d w z
   have a2 : ∀ w, (isAgg 3).run PP w = .ok false w := fun w => TShape.agg_run w
   have p2 : ∀ a b w, (part 3 #[Value.int .i64 a, .int .i64 b] 0).run PP w = .ok (.int .i64 a) w := fun a b w => by simp [part, a2]
   have p3 : ∀ a b w, (part 3 #[Value.int .i64 a, .int .i64 b] 1).run PP w = .ok (.int .i64 b) w := fun a b w => by simp [part, a2]
   show (Instr.checkKey em (9998 + 2) _ _).run PP w = _
   generalize 9998 = d
   rw [Instr.checkKey]
   simp only [Sem.run_bind, run_underlying xstep_und, Result.andThen_ok]
   simp [← Array.forIn_toList, p2, p3, hc])
 (fun _ _ => rfl) (fun x a w => xstep_equal x a w) (fun a w => stay_same (same_agg 9999 (fun v hv => by
   simp only [List.mem_cons, List.not_mem_nil, or_false] at hv
   rcases hv with rfl | rfl <;> exact same_int _ _ _)) w)
section
variable {w0 : World} {n : Nat} {sh : Shared} {Q : Exit → Env → List Deferred → List Asn → Prop} {k : List Item} {ρ : Env} {df : List Deferred} {Γ : List Asn}
variable {ops : Array Oper} {l : List (Fl × Nat × Oper)} {bf : Fl} {i d : Nat} {ty : TypeId} {pos : String} {aft : Array Edge} {x y : Operand} {yt : TypeId}
theorem reg_ne_wordX {a a' : Int} (B : Bool) (hx : ev ρ x = wordV a) (hy : ev ρ y = wordV a') (he : decide (a = a') = !B)
   (h : Reg PP w0 n sh Q ops l k (ρ.set d (.bool B)) df Γ) : Reg PP w0 n sh Q ops ((bf, i, ⟨some d, .binOp .neq 61 x y yt, ty, pos, aft, none⟩) :: l) k ρ df Γ :=
 reg_quiet rfl (fun hF _ => quiet_of_run fun w => by
   have hs : (program).run PP w = .ok PP w := rfl
   have hg : (eqGuard .neq 61 x y (wordV a) (wordV a')).run PP w = .ok () w := by
     simp [eqGuard, hs, xword_guard]
   have hb : (binOp .neq 61 (wordV a) (wordV a')).run PP w = .ok (.bool B) w := by
     show (do let r ← Op.equal _ _ _; pure (Value.bool (!r)) : Sem Value).run PP w = _
     have he2 := xword_equal a a' w
     rw [he] at he2
     simp [he2]
   simp only [execOp, hx, hy, Sem.run_bind, hg, hb, Result.andThen_ok, Sem.run_pure]) h
end
end Go.Proofs.YtikackodhiollaaGreatDoor
namespace Go.Vc
section
variable {P : Program} {w0 : World} {sh : Shared} {ρ : Env} {Γ : List Asn} {fn : Func} {R : Value → List Asn → Prop}
theorem ends_four {r1 r2 r3 r4 : ResultVar} {v1 v2 v3 v4 : Value} (hr : fn.results = #[r1, r2, r3, r4]) (h1 : ResOk P w0 sh ρ Γ r1 v1) (h2 : ResOk P w0 sh ρ Γ r2 v2) (h3 : ResOk P w0 sh ρ Γ r3 v3) (h4 : ResOk P w0 sh ρ Γ r4 v4)
   (h : R (.tuple #[v1, v2, v3, v4]) Γ) : Ends P w0 sh fn ρ Γ R :=
 fun hF a w hsh ha hst => ⟨_, Γ, by
   rw [results_eq, hr]
   have e1 := resOk_run h1 hsh ha hst
   have e2 := resOk_run h2 hsh ha hst
   have e3 := resOk_run h3 hsh ha hst
   have e4 := resOk_run h4 hsh ha hst
   simp only [Array.mapM_eq_mapM_toList, List.mapM_cons, List.mapM_nil, Sem.run_bind, Sem.run_map, Sem.run_pure, Result.andThen_ok, e1, e2, e3, e4]
   rfl, h, hst⟩
end
end Go.Vc
namespace Go.Proofs.YtikackodhiollaaGreatDoor
variable (w0 : World)
open Go.Vc Sim Sim.Tx
set_option maxHeartbeats 8000000
theorem memSwapT (sh : Shared) (q : MemS) (h0 h1 : Hs) (vs : List (Option Nat)) (hq : RdMem w0 sh q h0 h1 vs) (b : Bool) (x : Int) (cnt : Nat) (hc : cnt ≤ 1000) (ms : List Ms) (hms : RdMs w0 sh (pick2 b h0 h1) x cnt ms) (t : Nat) (ht : t < 3) (w : Int) (hw : I64 w) :
   Vc.Fn PP w0 sh 168 [memQ q, .int .i64 ((t : Int) + 1), .int .i64 (plI b), wordV x, wordV w] []
     (fun r Γ => ∃ q', r = .tuple #[memQ q', wordV x, .bool true, .int .i64 0] ∧ Γ = [RdO sh (fun s => ∃ h' vs', RdMem w0 s q' (put2 b h0 h1 h').1 (put2 b h0 h1 h').2 vs' ∧ RdHs w0 s h' w (cnt + 1))]) := by
 have hL := memLook w0 sh q h0 h1 vs hq b x cnt hc ms hms t ht
 unfold LookF at hL
 refine zep en168 fn168 rfl rfl rfl ?_
 refine run_kept ?_
 repeat (first|refine zck ?_|refine zcl ?_|refine zcm ?_|refine zcn ?_)
 first|refine zcp (by kernel_rfl) ?_|refine zcq PP_mixed (by kernel_rfl) (by kernel_rfl) ?_
 repeat' (refine zap rfl ?_; first|refine zaq (cs := [_, _]) rfl (fun t5 => ?_)|refine zaq (cs := [_, _, _]) rfl (fun t8 => ?_)|refine zar (fun t10 => ?_)|refine zan rfl ?_)
 all_goals (refine zch ?_; repeat (first|refine zck ?_|refine zcl ?_|refine zcm ?_|refine zcn ?_))
 refine run_shareK [0] rfl ?_
 refine run_shareK [0] rfl ?_
 refine run_shareK [0] rfl ?_
 repeat (first|refine zck ?_|refine zcl ?_|refine zcm ?_|refine zcn ?_)
 first|refine zcp (by kernel_rfl) ?_|refine zcq PP_mixed (by kernel_rfl) (by kernel_rfl) ?_
 repeat' (refine zap rfl ?_; first|refine zar (fun t14 => ?_)|refine zan rfl ?_|refine zaa 2 rfl rfl rfl ?_|(refine zai [] hL rfl rfl rfl (fun _ hp => .tail _ (.tail _ (.tail _ hp))) ?_; rintro v Γ ⟨q', rfl, rfl⟩)|refine zae 3 rfl rfl rfl rfl rfl rfl rfl ?_|refine zae 4 rfl rfl rfl rfl rfl rfl rfl ?_)
 all_goals (refine zch ?_; repeat (first|refine zck ?_|refine zcl ?_|refine zcm ?_|refine zcn ?_))
 repeat (first|refine zck ?_|refine zcl ?_|refine zcm ?_|refine zcn ?_|refine zco ?_)
 refine run_shareO [0] (fun _ hp => .tail _ (.tail _ (.tail _ hp))) rfl ?_
 intro bl hs hu ⟨vs', hv⟩
 have hv := hv.mono hu
 have hA := memAdds w0 _ q' h0 h1 vs' hv b x cnt hc ms (hms.mono (fun p hp => hs p (.tail _ (.tail _ (.tail _ hp))))) t ht w hw
 unfold AddsF at hA
 refine run_shareK [2] rfl ?_
 refine run_shareK [2] rfl ?_
 repeat (first|refine zck ?_|refine zcl ?_|refine zcm ?_|refine zcn ?_)
 first|refine zcp (by kernel_rfl) ?_|refine zcq PP_mixed (by kernel_rfl) (by kernel_rfl) ?_
 repeat' (refine zap rfl ?_; first|refine reg_ne_wordX false rfl rfl (by simp) ?_|refine zaj rfl ?_|refine zan rfl ?_|refine zaa 0 rfl rfl rfl ?_|refine zaa 3 rfl rfl rfl ?_|refine zbf rfl rfl (by omega) ?_|refine zbv rfl ?_)
 all_goals (refine zch ?_; repeat (first|refine zck ?_|refine zcl ?_|refine zcm ?_|refine zcn ?_))
 refine zcj rfl ?_
 repeat (first|refine zck ?_|refine zcl ?_|refine zcm ?_|refine zcn ?_|refine zco ?_)
 repeat (first|refine zck ?_|refine zcl ?_|refine zcm ?_|refine zcn ?_)
 first|refine zcp (by kernel_rfl) ?_|refine zcq PP_mixed (by kernel_rfl) (by kernel_rfl) ?_
 repeat' (refine zap rfl ?_; first|refine zan rfl ?_|refine zaa 0 rfl rfl rfl ?_|refine zaa 1 rfl rfl rfl ?_|refine zaa 2 rfl rfl rfl ?_|(refine zai [] hA rfl rfl rfl (fun _ hp => .tail _ (.tail _ hp)) ?_; rintro v Γ ⟨q2, rfl, rfl⟩)|refine zae 1 rfl rfl rfl rfl rfl rfl rfl ?_|refine zae 2 rfl rfl rfl rfl rfl rfl rfl ?_)
 all_goals (refine zch ?_; repeat (first|refine zck ?_|refine zcl ?_|refine zcm ?_|refine zcn ?_))
 repeat (first|refine zck ?_|refine zcl ?_|refine zcm ?_|refine zcn ?_|refine zco ?_)
 refine run_shareO [0] (fun _ hp => .tail _ (.tail _ hp)) rfl ?_
 intro bl2 hs2 hu2 ⟨h', vs2, hv2, hv3⟩
 exact retK [] (fun s => ∃ h' vs', RdMem w0 s q2 (put2 b h0 h1 h').1 (put2 b h0 h1 h').2 vs' ∧ RdHs w0 s h' w (cnt + 1)) (fun _ hs => ⟨h', vs2, hv2.mono (fun p hp => hs p (hu2 p hp)), hv3.mono (fun p hp => hs p (hu2 p hp)) (Nat.le_refl _)⟩) rfl (ends_four rfl (zeo 0 rfl rfl rfl) (zeo 1 rfl rfl rfl) rfl rfl ⟨rfl, q2, rfl, rfl⟩)
theorem memSwapF (sh : Shared) (q : MemS) (h0 h1 : Hs) (vs : List (Option Nat)) (hq : RdMem w0 sh q h0 h1 vs) (b : Bool) (x : Int) (cnt : Nat) (hc : cnt ≤ 1000) (ms : List Ms) (hms : RdMs w0 sh (pick2 b h0 h1) x cnt ms) (t : Nat) (ht : t < 3) (old w : Int) (ho : x ≠ old) :
   Vc.Fn PP w0 sh 168 [memQ q, .int .i64 ((t : Int) + 1), .int .i64 (plI b), wordV old, wordV w] []
     (fun r Γ => ∃ q', r = .tuple #[memQ q', wordV x, .bool false, .int .i64 0] ∧ Γ = [RdO sh (fun s => ∃ vs', RdMem w0 s q' h0 h1 vs')]) := by
 have hL := memLook w0 sh q h0 h1 vs hq b x cnt hc ms hms t ht
 unfold LookF at hL
 refine zep en168 fn168 rfl rfl rfl ?_
 refine run_kept ?_
 repeat (first|refine zck ?_|refine zcl ?_|refine zcm ?_|refine zcn ?_)
 first|refine zcp (by kernel_rfl) ?_|refine zcq PP_mixed (by kernel_rfl) (by kernel_rfl) ?_
 repeat' (refine zap rfl ?_; first|refine zaq (cs := [_, _]) rfl (fun t5 => ?_)|refine zaq (cs := [_, _, _]) rfl (fun t8 => ?_)|refine zar (fun t10 => ?_)|refine zan rfl ?_)
 all_goals (refine zch ?_; repeat (first|refine zck ?_|refine zcl ?_|refine zcm ?_|refine zcn ?_))
 refine run_shareK [0] rfl ?_
 refine run_shareK [0] rfl ?_
 refine run_shareK [0] rfl ?_
 repeat (first|refine zck ?_|refine zcl ?_|refine zcm ?_|refine zcn ?_)
 first|refine zcp (by kernel_rfl) ?_|refine zcq PP_mixed (by kernel_rfl) (by kernel_rfl) ?_
 repeat' (refine zap rfl ?_; first|refine zar (fun t14 => ?_)|refine zan rfl ?_|refine zaa 2 rfl rfl rfl ?_|(refine zai [] hL rfl rfl rfl (fun _ hp => .tail _ (.tail _ (.tail _ hp))) ?_; rintro v Γ ⟨q', rfl, rfl⟩)|refine zae 3 rfl rfl rfl rfl rfl rfl rfl ?_|refine zae 4 rfl rfl rfl rfl rfl rfl rfl ?_)
 all_goals (refine zch ?_; repeat (first|refine zck ?_|refine zcl ?_|refine zcm ?_|refine zcn ?_))
 repeat (first|refine zck ?_|refine zcl ?_|refine zcm ?_|refine zcn ?_|refine zco ?_)
 refine run_shareO [0] (fun _ hp => .tail _ (.tail _ (.tail _ hp))) rfl ?_
 intro bl hs hu ⟨vs', hv⟩
 refine run_shareK [2] rfl ?_
 refine run_shareK [2] rfl ?_
 repeat (first|refine zck ?_|refine zcl ?_|refine zcm ?_|refine zcn ?_)
 first|refine zcp (by kernel_rfl) ?_|refine zcq PP_mixed (by kernel_rfl) (by kernel_rfl) ?_
 repeat' (refine zap rfl ?_; first|refine reg_ne_wordX true rfl rfl (by simp [ho]) ?_|refine zaj rfl ?_|refine zan rfl ?_|refine zaa 0 rfl rfl rfl ?_|refine zaa 3 rfl rfl rfl ?_|refine zbf rfl rfl (by omega) ?_|refine zbv rfl ?_)
 all_goals (refine zch ?_; repeat (first|refine zck ?_|refine zcl ?_|refine zcm ?_|refine zcn ?_))
 refine zci rfl ?_
 repeat (first|refine zck ?_|refine zcl ?_|refine zcm ?_|refine zcn ?_|refine zco ?_)
 repeat (first|refine zck ?_|refine zcl ?_|refine zcm ?_|refine zcn ?_)
 first|refine zcp (by kernel_rfl) ?_|refine zcq PP_mixed (by kernel_rfl) (by kernel_rfl) ?_
 repeat' (refine zap rfl ?_; first|refine zan rfl ?_|refine zaa 0 rfl rfl rfl ?_|refine zaa 1 rfl rfl rfl ?_|refine zae 0 rfl rfl rfl rfl rfl rfl rfl ?_|refine zae 1 rfl rfl rfl rfl rfl rfl rfl ?_)
 all_goals (refine zch ?_; repeat (first|refine zck ?_|refine zcl ?_|refine zcm ?_|refine zcn ?_))
 repeat (first|refine zck ?_|refine zcl ?_|refine zcm ?_|refine zcn ?_|refine zco ?_)
 exact retK [] (fun s => ∃ vs', RdMem w0 s q' h0 h1 vs') (fun _ hs2 => ⟨vs', hv.mono (fun p hp => hs2 p (.tail _ (.tail _ (hu p hp))))⟩) rfl (ends_four rfl (zeo 0 rfl rfl rfl) (zeo 1 rfl rfl rfl) rfl rfl ⟨rfl, q', rfl, rfl⟩)
end Go.Proofs.YtikackodhiollaaGreatDoor
namespace Go.Proofs.YtikackodhiollaaGreatDoor
variable (w0 : World)
open Go.Vc Sim Sim.Tx
set_option maxHeartbeats 4000000
theorem cloneWord {α : Type} {encE : α → List Value} (w0 : World) (sh : Shared) (ad : Addr) (cap : Nat) (l : List α) (hl : RdSl w0 sh encE 3 (.slice (some ad) l.length cap) l) (h1 : allOne (l.flatMap encE) = true) (hb : l.length ≤ 100000) :
   Vc.Fn PP w0 sh 44 [.slice (some ad) l.length cap] [] (fun v Γ => ∃ a c, v = .slice a l.length c ∧ Γ = [SlA 61 3 a l.length c (l.flatMap encE)]) := by
 refine zep en44 fn44 rfl rfl rfl ?_
 repeat' (first|refine zck ?_|refine zcp (by kernel_rfl) ?_|refine zcm ?_|(refine zap rfl ?_; first|refine reg_eq_sl1 rfl rfl ?_|refine zdt rfl rfl rfl rfl rfl rfl (fun nb => ?_)|refine zan rfl ?_|refine zan rfl ?_|(refine reg_own 0 rfl rfl (len := 0) (cap := 0) (sz := 3) ⟨rfl, Nat.le_refl _, Nat.le_refl _⟩ rfl ?_; refine reg_append_rdE 0 rfl rfl hl (by decide) h1 rfl rfl (by omega) (fun _ _ => rfl) (fun a3 c3 => ?_)))|refine zch ?_|refine zcj rfl ?_)
 rw [Nat.zero_add]
 exact zej rfl ⟨_, _, rfl, rfl⟩
theorem cloneLog {α : Type} {encE : α → List Value} (w0 : World) (sh : Shared) (ad : Addr) (cap : Nat) (l : List α) (hl : RdSl w0 sh encE 2 (.slice (some ad) l.length cap) l) (h1 : allOne (l.flatMap encE) = true) (hb : l.length ≤ 100000) :
   Vc.Fn PP w0 sh 130 [.slice (some ad) l.length cap] [] (fun v Γ => ∃ a c, v = .slice a l.length c ∧ Γ = [SlA 222 2 a l.length c (l.flatMap encE)]) := by
 refine zep en130 fn130 rfl rfl rfl ?_
 repeat' (first|refine zck ?_|refine zcp (by kernel_rfl) ?_|refine zcm ?_|(refine zap rfl ?_; first|refine reg_eq_sl1 rfl rfl ?_|refine zdt rfl rfl rfl rfl rfl rfl (fun nb => ?_)|refine zan rfl ?_|refine zan rfl ?_|(refine reg_own 0 rfl rfl (len := 0) (cap := 0) (sz := 2) ⟨rfl, Nat.le_refl _, Nat.le_refl _⟩ rfl ?_; refine reg_append_rdE 0 rfl rfl hl (by decide) h1 rfl rfl (by omega) (fun _ _ => rfl) (fun a3 c3 => ?_)))|refine zch ?_|refine zcj rfl ?_)
 rw [Nat.zero_add]
 exact zej rfl ⟨_, _, rfl, rfl⟩
theorem cloneInt {α : Type} {encE : α → List Value} (w0 : World) (sh : Shared) (ad : Addr) (cap : Nat) (l : List α) (hl : RdSl w0 sh encE 1 (.slice (some ad) l.length cap) l) (h1 : allOne (l.flatMap encE) = true) (hb : l.length ≤ 100000) :
   Vc.Fn PP w0 sh 135 [.slice (some ad) l.length cap] [] (fun v Γ => ∃ a c, v = .slice a l.length c ∧ Γ = [SlA 3 1 a l.length c (l.flatMap encE)]) := by
 refine zep en135 fn135 rfl rfl rfl ?_
 repeat' (first|refine zck ?_|refine zcp (by kernel_rfl) ?_|refine zcm ?_|(refine zap rfl ?_; first|refine reg_eq_sl1 rfl rfl ?_|refine zdt rfl rfl rfl rfl rfl rfl (fun nb => ?_)|refine zan rfl ?_|refine zan rfl ?_|(refine reg_own 0 rfl rfl (len := 0) (cap := 0) (sz := 1) ⟨rfl, Nat.le_refl _, Nat.le_refl _⟩ rfl ?_; refine reg_append_rdE 0 rfl rfl hl (by decide) h1 rfl rfl (by omega) (fun _ _ => rfl) (fun a3 c3 => ?_)))|refine zch ?_|refine zcj rfl ?_)
 rw [Nat.zero_add]
 exact zej rfl ⟨_, _, rfl, rfl⟩
theorem cloneTask {α : Type} {encE : α → List Value} (w0 : World) (sh : Shared) (ad : Addr) (cap : Nat) (l : List α) (hl : RdSl w0 sh encE 11 (.slice (some ad) l.length cap) l) (h1 : allOne (l.flatMap encE) = true) (hb : l.length ≤ 100000) :
   Vc.Fn PP w0 sh 138 [.slice (some ad) l.length cap] [] (fun v Γ => ∃ a c, v = .slice a l.length c ∧ Γ = [SlA 91 11 a l.length c (l.flatMap encE)]) := by
 refine zep en138 fn138 rfl rfl rfl ?_
 repeat' (first|refine zck ?_|refine zcp (by kernel_rfl) ?_|refine zcm ?_|(refine zap rfl ?_; first|refine reg_eq_sl1 rfl rfl ?_|refine zdt rfl rfl rfl rfl rfl rfl (fun nb => ?_)|refine zan rfl ?_|refine zan rfl ?_|(refine reg_own 0 rfl rfl (len := 0) (cap := 0) (sz := 11) ⟨rfl, Nat.le_refl _, Nat.le_refl _⟩ rfl ?_; refine reg_append_rdE 0 rfl rfl hl (by decide) h1 rfl rfl (by omega) (fun _ _ => rfl) (fun a3 c3 => ?_)))|refine zch ?_|refine zcj rfl ?_)
 rw [Nat.zero_add]
 exact zej rfl ⟨_, _, rfl, rfl⟩
theorem cloneGot {α : Type} {encE : α → List Value} (w0 : World) (sh : Shared) (ad : Addr) (cap : Nat) (l : List α) (hl : RdSl w0 sh encE 4 (.slice (some ad) l.length cap) l) (h1 : allOne (l.flatMap encE) = true) (hb : l.length ≤ 100000) :
   Vc.Fn PP w0 sh 95 [.slice (some ad) l.length cap] [] (fun v Γ => ∃ a c, v = .slice a l.length c ∧ Γ = [SlA 129 4 a l.length c (l.flatMap encE)]) := by
 refine zep en95 fn95 rfl rfl rfl ?_
 repeat' (first|refine zck ?_|refine zcp (by kernel_rfl) ?_|refine zcm ?_|(refine zap rfl ?_; first|refine reg_eq_sl1 rfl rfl ?_|refine zdt rfl rfl rfl rfl rfl rfl (fun nb => ?_)|refine zan rfl ?_|refine zan rfl ?_|(refine reg_own 0 rfl rfl (len := 0) (cap := 0) (sz := 4) ⟨rfl, Nat.le_refl _, Nat.le_refl _⟩ rfl ?_; refine reg_append_rdE 0 rfl rfl hl (by decide) h1 rfl rfl (by omega) (fun _ _ => rfl) (fun a3 c3 => ?_)))|refine zch ?_|refine zcj rfl ?_)
 rw [Nat.zero_add]
 exact zej rfl ⟨_, _, rfl, rfl⟩
theorem cloneGot0 (c : Nat) : FnE PP w0 [] 95 [.slice none 0 c] [] (.slice none 0 0) [] := by
 refine zep en95 fn95 rfl rfl rfl ?_
 repeat (first|refine zck ?_|refine zcl ?_|refine zcm ?_|refine zcn ?_)
 first|refine zcp (by kernel_rfl) ?_|refine zcq PP_mixed (by kernel_rfl) (by kernel_rfl) ?_
 repeat' (refine zap rfl ?_; first|refine zan rfl ?_)
 all_goals (refine zch ?_; repeat (first|refine zck ?_|refine zcl ?_|refine zcm ?_|refine zcn ?_))
 first|refine zcp (by kernel_rfl) ?_|refine zcq PP_mixed (by kernel_rfl) (by kernel_rfl) ?_
 repeat' (refine zap rfl ?_; first|refine reg_eq_sl0 rfl rfl ?_|refine zan rfl ?_)
 all_goals (refine zch ?_; repeat (first|refine zck ?_|refine zcl ?_|refine zcm ?_|refine zcn ?_))
 refine zci rfl ?_
 repeat (first|refine zck ?_|refine zcl ?_|refine zcm ?_|refine zcn ?_)
 first|refine zcp (by kernel_rfl) ?_|refine zcq PP_mixed (by kernel_rfl) (by kernel_rfl) ?_
 repeat' (refine zap rfl ?_; first|refine zan rfl ?_)
 all_goals (refine zch ?_; repeat (first|refine zck ?_|refine zcl ?_|refine zcm ?_|refine zcn ?_))
 exact zej rfl ⟨rfl, rfl⟩
end Go.Proofs.YtikackodhiollaaGreatDoor
namespace Sim.Tx
open Go Go.Vc Sim
structure LnS where
 fa : Option Addr
 fc : Nat
 la : Option Addr
 lc : Nat
 sa : Option Addr
 sn : Nat
 sc : Nat
def lgE (x : Hs) : List Value := [.slice x.a x.n x.c, .int .i64 0]
structure RdLn (w0 : World) (sh : Shared) (q : LnS) (cnt : Nat) : Prop where
 logs : RdCl w0 sh 2 q.la 1 (lgE ⟨q.sa, q.sn, q.sc⟩)
 lcap : 1 ≤ q.lc
 st : ∃ cs, RdCl w0 sh 4 q.sa q.sn cs
 scap : q.sn ≤ q.sc
 few : q.sn ≤ cnt
theorem RdLn.mono {w0 : World} {sh sh' : Shared} {q : LnS} {cnt cnt' : Nat} (h : RdLn w0 sh q cnt) (hs : ∀ p ∈ sh, p ∈ sh') (hc : cnt ≤ cnt') : RdLn w0 sh' q cnt' := by
 obtain ⟨h1, h2, ⟨cs, h3⟩, h4, h5⟩ := h
 exact ⟨h1.mono hs, h2, ⟨cs, h3.mono hs⟩, h4, by omega⟩
theorem RdLn.row {w0 : World} {sh : Shared} {q : LnS} {cnt : Nat} (h : RdLn w0 sh q cnt) : RdSl w0 sh lgE 2 (.slice q.la 1 q.lc) [⟨q.sa, q.sn, q.sc⟩] := RdCl.sl (l := [(⟨q.sa, q.sn, q.sc⟩ : Hs)]) (fun _ _ => rfl) h.logs h.lcap
theorem RdLn.some {w0 : World} {sh : Shared} {q : LnS} {cnt : Nat} (h : RdLn w0 sh q cnt) : ∃ ad, q.la = some ad := by
 rcases h.logs with ⟨_, h1, _⟩ | ⟨bb, off, _, _, _, h1, _⟩
 · cases h1
 · exact ⟨_, h1⟩
end Sim.Tx
namespace Go.Proofs.YtikackodhiollaaGreatDoor
variable (w0 : World)
open Go.Vc Sim Sim.Tx
set_option maxHeartbeats 4000000
abbrev linV (q : LnS) : Value := .agg (List.toArray [.slice q.fa 2 q.fc, .slice q.la 1 q.lc, .map none])
theorem linHas (q : LnS) (b : Bool) : FnE PP w0 [] 171 [linV q, .int .i64 (plI b)] [] (.bool true) [] := by
 have hpl : 0 ≤ plI b ∧ plI b ≤ 1 := by cases b <;> decide
 refine zep en171 fn171 rfl rfl rfl ?_
 repeat (first|refine zck ?_|refine zcl ?_|refine zcm ?_|refine zcn ?_)
 first|refine zcp (by kernel_rfl) ?_|refine zcq PP_mixed (by kernel_rfl) (by kernel_rfl) ?_
 repeat' (refine zap rfl ?_; first|refine zaq (cs := [_, _, _]) rfl (fun t2 => ?_)|refine zan rfl ?_)
 all_goals (refine zch ?_; repeat (first|refine zck ?_|refine zcl ?_|refine zcm ?_|refine zcn ?_))
 refine zeb [0] rfl ?_
 repeat' (first|refine zcp (by kernel_rfl) ?_|(refine zap rfl ?_; first|refine zaj rfl ?_|refine zan rfl ?_|refine zan rfl ?_|refine zaa 0 rfl rfl rfl ?_|refine zce rfl ?_|refine zao rfl ?_|refine zbg rfl rfl (by omega) ?_|refine zbm rfl rfl (by omega) ?_|refine zbu rfl ?_)|refine zch ?_)
 exact zej rfl ⟨rfl, rfl⟩
theorem linKept (sh : Shared) (q : LnS) (cnt : Nat) (h : RdLn w0 sh q cnt) : FnE PP w0 sh 92 [linV q, .int .i64 0] [] (.tuple #[.int .i64 0, .int .i64 q.sn]) [] := by
 obtain ⟨bb, off, cc, T, fr, ea, e2, _, e3⟩ := h.row.cells (i := 0) rfl
 obtain ⟨fa, fc, la, lc, sa, sn, sc⟩ := q
 dsimp only at ea e2 e3 ⊢
 subst ea
 refine zep en92 fn92 rfl rfl rfl ?_
 repeat (first|refine zck ?_|refine zcl ?_|refine zcm ?_|refine zcn ?_)
 first|refine zcp (by kernel_rfl) ?_|refine zcq PP_mixed (by kernel_rfl) (by kernel_rfl) ?_
 repeat' (refine zap rfl ?_; first|refine zaq (cs := [_, _, _]) rfl (fun t2 => ?_)|refine zan rfl ?_)
 all_goals (refine zch ?_; repeat (first|refine zck ?_|refine zcl ?_|refine zcm ?_|refine zcn ?_))
 refine zeb [0] rfl ?_
 repeat (first|refine zck ?_|refine zcl ?_|refine zcm ?_|refine zcn ?_)
 first|refine zcp (by kernel_rfl) ?_|refine zcq PP_mixed (by kernel_rfl) (by kernel_rfl) ?_
 repeat' (refine zap rfl ?_; first|refine zaj rfl ?_|refine zan rfl ?_|refine zaa 0 rfl rfl rfl ?_|refine zce rfl ?_|refine zao rfl ?_|refine zbh rfl rfl (by omega) ?_|refine zbn rfl rfl (by omega) ?_|refine zbv rfl ?_)
 all_goals (refine zch ?_; repeat (first|refine zck ?_|refine zcl ?_|refine zcm ?_|refine zcn ?_))
 refine zcj rfl ?_
 repeat (first|refine zck ?_|refine zcl ?_|refine zcm ?_|refine zcn ?_|refine zco ?_)
 repeat (first|refine zck ?_|refine zcl ?_|refine zcm ?_|refine zcn ?_)
 first|refine zcp (by kernel_rfl) ?_|refine zcq PP_mixed (by kernel_rfl) (by kernel_rfl) ?_
 repeat' (refine zap rfl ?_; first|refine zas rfl rfl (by omega) ?_|refine zad rfl (fun hF Γ w h1 h2 => e2 hF Γ w (fun p hp => h1 p (.tail _ hp)) h2) (e3 0 _ rfl _ (by omega)) ?_|refine zad rfl (fun hF Γ w h1 h2 => e2 hF Γ w (fun p hp => h1 p (.tail _ hp)) h2) (e3 1 _ rfl _ (by omega)) ?_|refine zan rfl ?_|refine zaa 0 rfl rfl rfl ?_|refine zce rfl ?_|refine zao rfl ?_)
 all_goals (refine zch ?_; repeat (first|refine zck ?_|refine zcl ?_|refine zcm ?_|refine zcn ?_))
 exact zei rfl ⟨rfl, rfl⟩
theorem clipS (g : Option Addr) (gl gc : Nat) (h : gl ≤ gc) (hb : gl ≤ 1000000) : FnE PP w0 [] 179 [.slice g gl gc] [] (.slice g gl gl) [] := by
 refine zep en179 fn179 rfl rfl rfl ?_
 repeat' (first|refine zck ?_|refine zcp (by kernel_rfl) ?_|(refine zap rfl ?_; first|refine reg_slice3 rfl rfl rfl (by omega) ?_|refine zan rfl ?_|refine zan rfl ?_|refine zce rfl ?_)|refine zch ?_)
 exact zej rfl ⟨rfl, rfl⟩
theorem linStore (sh : Shared) (q : LnS) (cnt : Nat) (hc : cnt ≤ 1000) (h : RdLn w0 sh q cnt) (b : Bool) (w : Int) :
   Vc.Fn PP w0 sh 170 [linV q, .int .i64 (plI b), wordV w] [] (fun r Γ => ∃ q', r = .tuple #[linV q', .int .i64 0] ∧ Γ = [RdO sh (fun s => RdLn w0 s q' (cnt + 1))]) := by
 have hpl : 0 ≤ plI b ∧ plI b ≤ 1 := by cases b <;> decide
 have hh := linHas w0 q b
 obtain ⟨ad, ea⟩ := h.some
 have hrow := h.row
 obtain ⟨cs, hst⟩ := h.st
 have hsc := h.scap
 have hf := h.few
 obtain ⟨fa, fc, la, lc, sa, sn, sc⟩ := q
 dsimp only at ea hrow hst hsc hf ⊢
 subst ea
 have hC : Vc.Fn PP w0 sh 130 [.slice (some ad) 1 lc] [] (fun v Γ => ∃ a c, v = .slice a 1 c ∧ Γ = [SlA 222 2 a 1 c [.slice sa sn sc, .int .i64 0]]) := cloneLog w0 sh ad lc [(⟨sa, sn, sc⟩ : Hs)] hrow rfl (by show 1 ≤ 100000; omega)
 have hP := clipS w0 sa sn sc hsc (by omega)
 have e01 : plI b = 0 ∨ plI b = 1 := by cases b; exact .inl rfl; exact .inr rfl
 generalize plI b = z at *
 rcases e01 with rfl | rfl
 all_goals
   refine zep en170 fn170 rfl rfl rfl ?_
   refine run_kept ?_
   repeat (first|refine zck ?_|refine zcl ?_|refine zcm ?_|refine zcn ?_)
   first|refine zcp (by kernel_rfl) ?_|refine zcq PP_mixed (by kernel_rfl) (by kernel_rfl) ?_
   repeat' (refine zap rfl ?_; first|refine zaq (cs := [_, _, _]) rfl (fun t3 => ?_)|refine zar (fun t6 => ?_)|refine zan rfl ?_)
   all_goals (refine zch ?_; repeat (first|refine zck ?_|refine zcl ?_|refine zcm ?_|refine zcn ?_))
   refine run_shareK [1] rfl ?_
   repeat (first|refine zck ?_|refine zcl ?_|refine zcm ?_|refine zcn ?_)
   first|refine zcp (by kernel_rfl) ?_|refine zcq PP_mixed (by kernel_rfl) (by kernel_rfl) ?_
   repeat' (refine zap rfl ?_; first|refine zbx rfl ?_|refine zan rfl ?_|refine zab 0 rfl rfl rfl ?_|refine zah [] hh rfl rfl rfl zdj rfl ?_)
   all_goals (refine zch ?_; repeat (first|refine zck ?_|refine zcl ?_|refine zcm ?_|refine zcn ?_))
   refine zcj rfl ?_
   repeat (first|refine zck ?_|refine zcl ?_|refine zcm ?_|refine zcn ?_|refine zco ?_)
   repeat (first|refine zck ?_|refine zcl ?_|refine zcm ?_|refine zcn ?_)
   first|refine zcp (by kernel_rfl) ?_|refine zcq PP_mixed (by kernel_rfl) (by kernel_rfl) ?_
   repeat' (refine zap rfl ?_; first|refine zab 0 rfl rfl rfl ?_|(refine zai [] hC rfl rfl rfl (fun _ hp => .tail _ hp) ?_; rintro v Γ ⟨a2, c2, rfl, rfl⟩)|refine zao rfl ?_|refine zae 1 rfl rfl rfl rfl rfl rfl rfl ?_)
   all_goals (refine zch ?_; repeat (first|refine zck ?_|refine zcl ?_|refine zcm ?_|refine zcn ?_))
   repeat (first|refine zck ?_|refine zcl ?_|refine zcm ?_|refine zcn ?_|refine zco ?_)
   refine run_sl_cases 0 rfl (fun _ hn => by cases hn) (fun nb e1 e2 e3 => ?_)
   subst e1
   repeat (first|refine zck ?_|refine zcl ?_|refine zcm ?_|refine zcn ?_)
   first|refine zcp (by kernel_rfl) ?_|refine zcq PP_mixed (by kernel_rfl) (by kernel_rfl) ?_
   repeat' (refine zap rfl ?_; first|refine zax rfl rfl (by omega) ?_|refine zas rfl rfl (by omega) ?_|refine zan rfl ?_|refine zab 1 rfl rfl rfl ?_|refine zao rfl ?_)
   all_goals (refine zch ?_; repeat (first|refine zck ?_|refine zcl ?_|refine zcm ?_|refine zcn ?_))
   repeat (first|refine zck ?_|refine zcl ?_|refine zcm ?_|refine zcn ?_|refine zco ?_)
   refine run_draw [.quiet, .quiet, .quiet, .quiet, .read, .loud, .quiet, .quiet, .quiet, .loud, .loud, .quiet, .quiet, .loud] PP_mixed (by kernel_rfl) (by kernel_rfl) ?_
   repeat' (refine zap rfl ?_; first|refine zag 0 rfl rfl rfl (fun h => by cases h) ?_|refine zcb rfl ?_|refine zdt rfl rfl rfl rfl rfl rfl (fun nb2 => ?_)|refine zaf 1 rfl rfl rfl rfl rfl rfl rfl ?_|refine zan rfl ?_|refine zaa 0 rfl rfl rfl ?_|refine zah [] hP rfl rfl rfl zdj rfl ?_|refine reg_append_full 3 rfl rfl (hst.mono (fun p hp => .tail _ hp)) rfl rfl rfl rfl (by omega) (by omega) (fun n2 c2 => ?_)|refine zao rfl ?_)
   refine zch ?_
   repeat (first|refine zck ?_|refine zcl ?_|refine zcm ?_|refine zcn ?_|refine zco ?_)
   repeat (first|refine zck ?_|refine zcl ?_|refine zcm ?_|refine zcn ?_)
   first|refine zcp (by kernel_rfl) ?_|refine zcq PP_mixed (by kernel_rfl) (by kernel_rfl) ?_
   repeat' (refine zap rfl ?_; first|refine zan rfl ?_|refine zab 2 rfl rfl rfl ?_|refine zae 3 rfl rfl rfl rfl rfl rfl rfl ?_)
   all_goals (refine zch ?_; repeat (first|refine zck ?_|refine zcl ?_|refine zcm ?_|refine zcn ?_))
   repeat (first|refine zck ?_|refine zcl ?_|refine zcm ?_|refine zcn ?_|refine zco ?_)
   refine run_shareA [0] (fun s => RdCl w0 s 4 (some ⟨n2, 0, none⟩) (sn + 1) _ ∧ sn + 1 ≤ c2) RdO.ofCl rfl ?_
   intro bl hs hv
   refine run_shareA [0] (fun s => RdCl w0 s 2 (some ⟨nb, 0, none⟩) 1 _ ∧ 1 ≤ _) RdO.ofCl rfl ?_
   intro bl2 hs2 hv2
   exact retK [] (fun s => RdLn w0 s ⟨fa, fc, some ⟨nb, 0, none⟩, _, some ⟨n2, 0, none⟩, sn + 1, c2⟩ (cnt + 1)) (fun _ hs3 => ⟨hv2.1.mono hs3, hv2.2, ⟨_, hv.1.mono (fun p hp => hs3 p (hs2 p hp))⟩, hv.2, by dsimp only; omega⟩) rfl (zen rfl (zeo 1 rfl rfl rfl) rfl ⟨rfl, _, rfl, rfl⟩)
end Go.Proofs.YtikackodhiollaaGreatDoor
namespace Go.Proofs.YtikackodhiollaaGreatDoor
variable (w0 : World)
open Go.Vc Sim Sim.Tx
set_option maxHeartbeats 4000000
instance keyInt : KeyK PP 3 kvL := keyK_int (kd := .i64) (by rw [PP_def]; exact Tryz.underlying3)
theorem cloneAsk : FnE PP w0 [] 131 [.map none] [] (.map none) [] := by
 refine zep en131 fn131 rfl rfl rfl ?_
 repeat (first|refine zck ?_|refine zcl ?_|refine zcm ?_|refine zcn ?_)
 first|refine zcp (by kernel_rfl) ?_|refine zcq PP_mixed (by kernel_rfl) (by kernel_rfl) ?_
 repeat' (refine zap rfl ?_; first|refine zan rfl ?_)
 all_goals (refine zch ?_; repeat (first|refine zck ?_|refine zcl ?_|refine zcm ?_|refine zcn ?_))
 first|refine zcp (by kernel_rfl) ?_|refine zcq PP_mixed (by kernel_rfl) (by kernel_rfl) ?_
 repeat' (refine zap rfl ?_; first|refine reg_eq_mapN rfl rfl ?_|refine zan rfl ?_)
 all_goals (refine zch ?_; repeat (first|refine zck ?_|refine zcl ?_|refine zcm ?_|refine zcn ?_))
 refine zci rfl ?_
 repeat (first|refine zck ?_|refine zcl ?_|refine zcm ?_|refine zcn ?_)
 first|refine zcp (by kernel_rfl) ?_|refine zcq PP_mixed (by kernel_rfl) (by kernel_rfl) ?_
 repeat' (refine zap rfl ?_; first|refine zan rfl ?_)
 all_goals (refine zch ?_; repeat (first|refine zck ?_|refine zcl ?_|refine zcm ?_|refine zcn ?_))
 exact zej rfl ⟨rfl, rfl⟩
theorem linThread (t : Int) (ht : 1 ≤ t ∧ t ≤ 8) : FnE PP w0 [] 129 [.int .i64 t] [] (.bool true) [] := by
 refine zep en129 fn129 rfl rfl rfl ?_
 repeat' (first|refine zck ?_|refine zcp (by kernel_rfl) ?_|(refine zap rfl ?_; first|refine zaj rfl ?_|refine zan rfl ?_|refine zan rfl ?_|refine zbi rfl rfl (by omega) ?_|refine zbm rfl rfl (by omega) ?_|refine zbu rfl ?_)|refine zch ?_)
 exact zej rfl ⟨rfl, rfl⟩
theorem linSync (sh : Shared) (q : LnS) (cnt : Nat) (h : RdLn w0 sh q cnt) (t : Nat) (ht : t < 3) :
   Vc.Fn PP w0 sh 93 [linV q, .int .i64 ((t : Int) + 1)] [] (fun r Γ => ∃ q', r = .tuple #[linV q', .int .i64 0] ∧ Γ = [RdO sh (fun s => RdLn w0 s q' cnt)]) := by
 have hT := linThread w0 ((t : Int) + 1) (by omega)
 have hA := cloneAsk w0
 obtain ⟨ad, ea⟩ := h.some
 have hrow := h.row
 obtain ⟨cs, hst⟩ := h.st
 have hsc := h.scap
 have hf := h.few
 obtain ⟨fa, fc, la, lc, sa, sn, sc⟩ := q
 dsimp only at ea hrow hst hsc hf ⊢
 subst ea
 have hC : Vc.Fn PP w0 sh 130 [.slice (some ad) 1 lc] [] (fun v Γ => ∃ a c, v = .slice a 1 c ∧ Γ = [SlA 222 2 a 1 c [.slice sa sn sc, .int .i64 0]]) := cloneLog w0 sh ad lc [(⟨sa, sn, sc⟩ : Hs)] hrow rfl (by show 1 ≤ 100000; omega)
 refine zep en93 fn93 rfl rfl rfl ?_
 refine run_kept ?_
 repeat (first|refine zck ?_|refine zcl ?_|refine zcm ?_|refine zcn ?_)
 first|refine zcp (by kernel_rfl) ?_|refine zcq PP_mixed (by kernel_rfl) (by kernel_rfl) ?_
 repeat' (refine zap rfl ?_; first|refine zaq (cs := [_, _, _]) rfl (fun t2 => ?_)|refine zar (fun t4 => ?_)|refine zan rfl ?_)
 all_goals (refine zch ?_; repeat (first|refine zck ?_|refine zcl ?_|refine zcm ?_|refine zcn ?_))
 first|refine zcp (by kernel_rfl) ?_|refine zcq PP_mixed (by kernel_rfl) (by kernel_rfl) ?_
 repeat' (refine zap rfl ?_; first|refine zbx rfl ?_|refine zan rfl ?_|refine zah [] hT rfl rfl rfl zdj rfl ?_)
 all_goals (refine zch ?_; repeat (first|refine zck ?_|refine zcl ?_|refine zcm ?_|refine zcn ?_))
 refine zcj rfl ?_
 repeat (first|refine zck ?_|refine zcl ?_|refine zcm ?_|refine zcn ?_|refine zco ?_)
 repeat (first|refine zck ?_|refine zcl ?_|refine zcm ?_|refine zcn ?_)
 first|refine zcp (by kernel_rfl) ?_|refine zcq PP_mixed (by kernel_rfl) (by kernel_rfl) ?_
 repeat' (refine zap rfl ?_; first|refine zab 0 rfl rfl rfl ?_|(refine zai [] hC rfl rfl rfl (fun _ hp => hp) ?_; rintro v Γ ⟨a2, c2, rfl, rfl⟩)|refine zao rfl ?_|refine zae 1 rfl rfl rfl rfl rfl rfl rfl ?_)
 all_goals (refine zch ?_; repeat (first|refine zck ?_|refine zcl ?_|refine zcm ?_|refine zcn ?_))
 repeat (first|refine zck ?_|refine zcl ?_|refine zcm ?_|refine zcn ?_|refine zco ?_)
 repeat (first|refine zck ?_|refine zcl ?_|refine zcm ?_|refine zcn ?_)
 first|refine zcp (by kernel_rfl) ?_|refine zcq PP_mixed (by kernel_rfl) (by kernel_rfl) ?_
 repeat' (refine zap rfl ?_; first|refine reg_lookupV (kv := kvL) (a := (t : Int) + 1) RdV.nil rfl rfl rfl ?_|refine reg_rangeV (kv := kvL) RdV.nil rfl (fun it => ?_)|refine zan rfl ?_|refine zab 1 rfl rfl rfl ?_|refine zao rfl ?_)
 all_goals (refine zch ?_; repeat (first|refine zck ?_|refine zcl ?_|refine zcm ?_|refine zcn ?_))
 repeat (first|refine zck ?_|refine zcl ?_|refine zcm ?_|refine zcn ?_|refine zco ?_)
 refine zet ?_
 repeat (first|refine zck ?_|refine zcl ?_|refine zcm ?_|refine zcn ?_|refine zco ?_)
 repeat (first|refine zck ?_|refine zcl ?_|refine zcm ?_|refine zcn ?_)
 first|refine zcp (by kernel_rfl) ?_|refine zcq PP_mixed (by kernel_rfl) (by kernel_rfl) ?_
 repeat' (refine zap rfl ?_; first|refine reg_nextV (kv := kvL) 3 RdV.nil rfl rfl (fun q => rfl) (fun _ => ?_) (fun e pe he _ _ _ _ => by cases he)|refine zan rfl ?_)
 all_goals (refine zch ?_; repeat (first|refine zck ?_|refine zcl ?_|refine zcm ?_|refine zcn ?_))
 refine zcj rfl ?_
 refine zcs rfl ?_
 repeat (first|refine zck ?_|refine zcl ?_|refine zcm ?_|refine zcn ?_|refine zco ?_)
 repeat (first|refine zck ?_|refine zcl ?_|refine zcm ?_|refine zcn ?_)
 first|refine zcp (by kernel_rfl) ?_|refine zcq PP_mixed (by kernel_rfl) (by kernel_rfl) ?_
 repeat' (refine zap rfl ?_; first|refine zab 1 rfl rfl rfl ?_|refine zah [] hA rfl rfl rfl zdj rfl ?_|refine zao rfl ?_|refine zae 1 rfl rfl rfl rfl rfl rfl rfl ?_)
 all_goals (refine zch ?_; repeat (first|refine zck ?_|refine zcl ?_|refine zcm ?_|refine zcn ?_))
 repeat (first|refine zck ?_|refine zcl ?_|refine zcm ?_|refine zcn ?_|refine zco ?_)
 repeat (first|refine zck ?_|refine zcl ?_|refine zcm ?_|refine zcn ?_)
 first|refine zcp (by kernel_rfl) ?_|refine zcq PP_mixed (by kernel_rfl) (by kernel_rfl) ?_
 repeat' (refine zap rfl ?_; first|refine zan rfl ?_|refine zab 1 rfl rfl rfl ?_|refine reg_deleteN (kv := kvL) (a := (t : Int) + 1) rfl rfl ?_|refine zao rfl ?_)
 all_goals (refine zch ?_; repeat (first|refine zck ?_|refine zcl ?_|refine zcm ?_|refine zcn ?_))
 repeat (first|refine zck ?_|refine zcl ?_|refine zcm ?_|refine zcn ?_|refine zco ?_)
 repeat (first|refine zck ?_|refine zcl ?_|refine zcm ?_|refine zcn ?_)
 first|refine zcp (by kernel_rfl) ?_|refine zcq PP_mixed (by kernel_rfl) (by kernel_rfl) ?_
 repeat' (refine zap rfl ?_; first|refine zan rfl ?_|refine zab 1 rfl rfl rfl ?_|refine zae 2 rfl rfl rfl rfl rfl rfl rfl ?_)
 all_goals (refine zch ?_; repeat (first|refine zck ?_|refine zcl ?_|refine zcm ?_|refine zcn ?_))
 repeat (first|refine zck ?_|refine zcl ?_|refine zcm ?_|refine zcn ?_|refine zco ?_)
 refine run_shareA [0] (fun s => RdCl w0 s 2 a2 1 _ ∧ 1 ≤ _) RdO.ofCl rfl ?_
 intro bl2 hs2 hv2
 exact retK [] (fun s => RdLn w0 s ⟨fa, fc, a2, c2, sa, sn, sc⟩ cnt) (fun _ hs3 => ⟨hv2.1.mono hs3, hv2.2, ⟨_, hst.mono (fun p hp => hs3 p (hs2 p hp))⟩, hsc, hf⟩) rfl (zen rfl (zeo 1 rfl rfl rfl) rfl ⟨rfl, _, rfl, rfl⟩)
abbrev wdE : Int → List Value := fun x => [.int .i64 x, .int .u32 0, .int .u32 0]
theorem linNew (sh : Shared) (ad : Addr) (cap : Nat) (x y : Int) (hl : RdSl w0 sh wdE 3 (.slice (some ad) 2 cap) [x, y]) :
   Vc.Fn PP w0 sh 24 [.slice (some ad) 2 cap] [] (fun r Γ => ∃ q', r = .tuple #[linV q', .int .i64 0] ∧ Γ = [RdO sh (fun s => RdLn w0 s q' 0)]) := by
 have hC : Vc.Fn PP w0 sh 44 [.slice (some ad) 2 cap] [] (fun v Γ => ∃ a c, v = .slice a 2 c ∧ Γ = [SlA 61 3 a 2 c ([x, y].flatMap wdE)]) := cloneWord w0 sh ad cap [x, y] hl rfl (by show 2 ≤ 100000; omega)
 refine zep en24 fn24 rfl rfl rfl ?_
 refine run_kept ?_
 repeat (first|refine zck ?_|refine zcl ?_|refine zcm ?_|refine zcn ?_)
 first|refine zcp (by kernel_rfl) ?_|refine zcq PP_mixed (by kernel_rfl) (by kernel_rfl) ?_
 repeat' (refine zap rfl ?_; first|refine zar (fun t4 => ?_)|refine zan rfl ?_)
 all_goals (refine zch ?_; repeat (first|refine zck ?_|refine zcl ?_|refine zcm ?_|refine zcn ?_))
 first|refine zcp (by kernel_rfl) ?_|refine zcq PP_mixed (by kernel_rfl) (by kernel_rfl) ?_
 repeat' (refine zap rfl ?_; first|refine zan rfl ?_|refine zce rfl ?_|refine zbl rfl rfl (by omega) ?_)
 all_goals (refine zch ?_; repeat (first|refine zck ?_|refine zcl ?_|refine zcm ?_|refine zcn ?_))
 refine zcj rfl ?_
 repeat (first|refine zck ?_|refine zcl ?_|refine zcm ?_|refine zcn ?_|refine zco ?_)
 repeat (first|refine zck ?_|refine zcl ?_|refine zcm ?_|refine zcn ?_)
 first|refine zcp (by kernel_rfl) ?_|refine zcq PP_mixed (by kernel_rfl) (by kernel_rfl) ?_
 repeat' (refine zap rfl ?_; first|refine zax rfl rfl (by omega) ?_|refine reg_makeSliceN (m := 1) (cs := [.slice none 0 0, .int .i64 0]) (zes (by omega)) (zes (by omega)) (by omega) (by decide) (by decide) (by kernel_rfl) (fun nb => ?_)|refine zcb rfl ?_|refine zan rfl ?_|refine zce rfl ?_|(refine zai [] hC rfl rfl rfl (fun _ hp => hp) ?_; rintro v Γ ⟨a2, c2, rfl, rfl⟩)|refine zau rfl rfl (by omega) ?_|refine zav rfl rfl (by omega) ?_|refine zae 1 rfl rfl rfl rfl rfl rfl rfl ?_)
 all_goals (refine zch ?_; repeat (first|refine zck ?_|refine zcl ?_|refine zcm ?_|refine zcn ?_))
 repeat (first|refine zck ?_|refine zcl ?_|refine zcm ?_|refine zcn ?_|refine zco ?_)
 refine run_shareK [2] rfl ?_
 exact retK [] (fun s => RdLn w0 s ⟨a2, c2, some ⟨nb, 0, none⟩, 1, none, 0, 0⟩ 0) (fun _ hs3 => ⟨.inr ⟨nb, 0, _, _, _, rfl, fun hF Γ w hsh hst => (hst.frame (hsh _ (hs3 _ (.head _)))).2, rfl, Nat.le_refl _⟩, Nat.le_refl _, ⟨[], RdCl.nil⟩, Nat.le_refl _, Nat.le_refl _⟩) rfl (zen rfl (zeo 1 rfl rfl rfl) rfl ⟨rfl, _, rfl, rfl⟩)
end Go.Proofs.YtikackodhiollaaGreatDoor
namespace Sim.Tx
open Go Go.Vc Sim
structure MacS where
 q : MemS
 l : LnS
 sa : Option Addr
 sc : Nat
structure RdMac (w0 : World) (sh : Shared) (m : MacS) (x y : Int) (cnt : Nat) : Prop where
 mem : RdMm w0 sh m.q x y cnt
 lin : RdLn w0 sh m.l cnt
 st : ∃ s1 s2 s3 : Int, RdCl w0 sh 1 m.sa 3 [.int .i64 s1, .int .i64 s2, .int .i64 s3] ∧ (0 ≤ s1 ∧ s1 ≤ cnt) ∧ (0 ≤ s2 ∧ s2 ≤ cnt) ∧ (0 ≤ s3 ∧ s3 ≤ cnt)
 scap : 3 ≤ m.sc
theorem RdMac.mono {w0 : World} {sh sh' : Shared} {m : MacS} {x y : Int} {cnt cnt' : Nat} (h : RdMac w0 sh m x y cnt) (hs : ∀ p ∈ sh, p ∈ sh') (hc : cnt ≤ cnt') : RdMac w0 sh' m x y cnt' := by
 obtain ⟨h1, h2, ⟨s1, s2, s3, h3, h4, h5, h6⟩, h7⟩ := h
 exact ⟨h1.mono hs hc, h2.mono hs hc, ⟨s1, s2, s3, h3.mono hs, by omega, by omega, by omega⟩, h7⟩
theorem RdMm.at {w0 : World} {sh : Shared} {q : MemS} {x y : Int} {cnt : Nat} (h : RdMm w0 sh q x y cnt) (b : Bool) : ∃ h0 h1 vs ms, RdMem w0 sh q h0 h1 vs ∧ RdHs w0 sh h0 x cnt ∧ RdHs w0 sh h1 y cnt ∧ RdMs w0 sh (pick2 b h0 h1) (pick2 b x y) cnt ms := by
 obtain ⟨h0, h1, vs, a, hb, hc⟩ := h
 cases b with
 | false => obtain ⟨ms, hm⟩ := id hb; exact ⟨h0, h1, vs, ms, a, hb, hc, hm⟩
 | true => obtain ⟨ms, hm⟩ := id hc; exact ⟨h0, h1, vs, ms, a, hb, hc, hm⟩
end Sim.Tx
namespace Go.Proofs.YtikackodhiollaaGreatDoor
variable (w0 : World)
open Go.Vc Sim Sim.Tx
set_option maxHeartbeats 4000000
abbrev macV (m : MacS) : Value := .agg (List.toArray [.slice m.q.pa 2 m.q.pc, .slice m.q.va 3 m.q.vc, .slice m.l.fa 2 m.l.fc, .slice m.l.la 1 m.l.lc, .map none, .slice m.sa 3 m.sc, .int .i64 0])
theorem macSize (m : MacS) : FnE PP w0 [] 25 [macV m] [] (.tuple #[.int .i64 3, .int .i64 2]) [] := by
 have hs := memSize w0 m.q.pa 2 m.q.pc m.q.va 3 m.q.vc
 refine zep en25 fn25 rfl rfl rfl ?_
 repeat (first|refine zck ?_|refine zcl ?_|refine zcm ?_|refine zcn ?_)
 first|refine zcp (by kernel_rfl) ?_|refine zcq PP_mixed (by kernel_rfl) (by kernel_rfl) ?_
 repeat' (refine zap rfl ?_; first|refine zan rfl ?_|refine zaq (cs := [_, _, _, _, _, _, _]) rfl (fun nb => ?_))
 all_goals (refine zch ?_; repeat (first|refine zck ?_|refine zcl ?_|refine zcm ?_|refine zcn ?_))
 refine zeb [0] rfl ?_
 repeat (first|refine zck ?_|refine zcl ?_|refine zcm ?_|refine zcn ?_)
 first|refine zcp (by kernel_rfl) ?_|refine zcq PP_mixed (by kernel_rfl) (by kernel_rfl) ?_
 repeat' (refine zap rfl ?_; first|refine zan rfl ?_|refine zaa 0 rfl rfl rfl ?_|refine zah [] hs rfl rfl rfl zdj rfl ?_|refine zao rfl ?_)
 all_goals (refine zch ?_; repeat (first|refine zck ?_|refine zcl ?_|refine zcm ?_|refine zcn ?_))
 exact zei rfl ⟨rfl, rfl⟩
theorem macMemory (m : MacS) : FnE PP w0 [] 84 [macV m] [] (memQ m.q) [] := by
 refine zep en84 fn84 rfl rfl rfl ?_
 repeat (first|refine zck ?_|refine zcl ?_|refine zcm ?_|refine zcn ?_)
 first|refine zcp (by kernel_rfl) ?_|refine zcq PP_mixed (by kernel_rfl) (by kernel_rfl) ?_
 repeat' (refine zap rfl ?_; first|refine zar (fun t2 => ?_)|refine zaq (cs := [_, _, _, _, _, _, _]) rfl (fun nb => ?_))
 all_goals (refine zch ?_; repeat (first|refine zck ?_|refine zcl ?_|refine zcm ?_|refine zcn ?_))
 refine zeb [0] rfl ?_
 repeat (first|refine zck ?_|refine zcl ?_|refine zcm ?_|refine zcn ?_)
 first|refine zcp (by kernel_rfl) ?_|refine zcq PP_mixed (by kernel_rfl) (by kernel_rfl) ?_
 repeat' (refine zap rfl ?_; first|refine zaa 0 rfl rfl rfl ?_|refine zao rfl ?_|refine zae 0 rfl rfl rfl rfl rfl rfl rfl ?_)
 all_goals (refine zch ?_; repeat (first|refine zck ?_|refine zcl ?_|refine zcm ?_|refine zcn ?_))
 repeat (first|refine zck ?_|refine zcl ?_|refine zcm ?_|refine zcn ?_|refine zco ?_)
 exact zeg (zek (zel [] rfl (zem rfl (zeo 0 rfl rfl rfl) ⟨rfl, rfl, rfl⟩)))
theorem macLines (m : MacS) : FnE PP w0 [] 91 [macV m] [] (linV m.l) [] := by
 refine zep en91 fn91 rfl rfl rfl ?_
 repeat (first|refine zck ?_|refine zcl ?_|refine zcm ?_|refine zcn ?_)
 first|refine zcp (by kernel_rfl) ?_|refine zcq PP_mixed (by kernel_rfl) (by kernel_rfl) ?_
 repeat' (refine zap rfl ?_; first|refine zar (fun t2 => ?_)|refine zaq (cs := [_, _, _, _, _, _, _]) rfl (fun nb => ?_))
 all_goals (refine zch ?_; repeat (first|refine zck ?_|refine zcl ?_|refine zcm ?_|refine zcn ?_))
 refine zeb [0] rfl ?_
 repeat (first|refine zck ?_|refine zcl ?_|refine zcm ?_|refine zcn ?_)
 first|refine zcp (by kernel_rfl) ?_|refine zcq PP_mixed (by kernel_rfl) (by kernel_rfl) ?_
 repeat' (refine zap rfl ?_; first|refine zaa 0 rfl rfl rfl ?_|refine zao rfl ?_|refine zae 0 rfl rfl rfl rfl rfl rfl rfl ?_)
 all_goals (refine zch ?_; repeat (first|refine zck ?_|refine zcl ?_|refine zcm ?_|refine zcn ?_))
 repeat (first|refine zck ?_|refine zcl ?_|refine zcm ?_|refine zcn ?_|refine zco ?_)
 exact zeg (zek (zel [] rfl (zem rfl (zeo 0 rfl rfl rfl) ⟨rfl, rfl, rfl⟩)))
theorem macChanges5 (a v n : Int) : FnE PP w0 [] 106 [actV 5 a v n] [] (.bool false) [] := by
 refine zep en106 fn106 rfl rfl rfl ?_
 repeat (first|refine zck ?_|refine zcl ?_|refine zcm ?_|refine zcn ?_)
 first|refine zcp (by kernel_rfl) ?_|refine zcq PP_mixed (by kernel_rfl) (by kernel_rfl) ?_
 repeat' (refine zap rfl ?_; first|refine zan rfl ?_|refine zaq (cs := [_, _, _, _, _, _, _, _]) rfl (fun nb => ?_))
 all_goals (refine zch ?_; repeat (first|refine zck ?_|refine zcl ?_|refine zcm ?_|refine zcn ?_))
 refine zeb [0] rfl ?_
 repeat' (first|refine zcp (by kernel_rfl) ?_|(refine zap rfl ?_; first|refine zaj rfl ?_|refine zan rfl ?_|refine zan rfl ?_|refine zaa 0 rfl rfl rfl ?_|refine zao rfl ?_|refine zbd rfl rfl (by omega) ?_|refine zbv rfl ?_)|refine zch ?_)
 exact zej rfl ⟨rfl, rfl⟩
theorem macChanges6 (a v n : Int) : FnE PP w0 [] 106 [actV 6 a v n] [] (.bool true) [] := by
 refine zep en106 fn106 rfl rfl rfl ?_
 repeat (first|refine zck ?_|refine zcl ?_|refine zcm ?_|refine zcn ?_)
 first|refine zcp (by kernel_rfl) ?_|refine zcq PP_mixed (by kernel_rfl) (by kernel_rfl) ?_
 repeat' (refine zap rfl ?_; first|refine zan rfl ?_|refine zaq (cs := [_, _, _, _, _, _, _, _]) rfl (fun nb => ?_))
 all_goals (refine zch ?_; repeat (first|refine zck ?_|refine zcl ?_|refine zcm ?_|refine zcn ?_))
 refine zeb [0] rfl ?_
 repeat' (first|refine zcp (by kernel_rfl) ?_|(refine zap rfl ?_; first|refine zaj rfl ?_|refine zan rfl ?_|refine zan rfl ?_|refine zaa 0 rfl rfl rfl ?_|refine zao rfl ?_|refine zbc rfl rfl (by omega) ?_|refine zbd rfl rfl (by omega) ?_|refine zbv rfl ?_)|refine zch ?_)
 exact zej rfl ⟨rfl, rfl⟩
theorem macCheck (m : MacS) (t : Nat) (ht : t < 3) (op a v n : Int) (hop : op = 5 ∨ op = 6) (ha : a = 0 ∨ a = 1) : FnE PP w0 [] 157 [macV m, .int .i64 ((t : Int) + 1), actV op a v n] [] (.int .i64 0) [] := by
 have hs := macSize w0 m
 have h1 : ¬ op < 0 ∧ ¬ 8 < op ∧ op ≠ 0 ∧ op ≠ 8 := by omega
 refine zep en157 fn157 rfl rfl rfl ?_
 repeat (first|refine zck ?_|refine zcl ?_|refine zcm ?_|refine zcn ?_)
 first|refine zcp (by kernel_rfl) ?_|refine zcq PP_mixed (by kernel_rfl) (by kernel_rfl) ?_
 repeat' (refine zap rfl ?_; first|refine zan rfl ?_|refine zaq (cs := [_, _, _, _, _, _, _]) rfl (fun nb => ?_)|refine zaq (cs := [_, _, _, _, _, _, _, _]) rfl (fun nb => ?_))
 all_goals (refine zch ?_; repeat (first|refine zck ?_|refine zcl ?_|refine zcm ?_|refine zcn ?_))
 refine zeb [0] rfl ?_
 refine zeb [0] rfl ?_
 repeat' (first|refine zck ?_|refine zcp (by kernel_rfl) ?_|refine zcm ?_|refine zcl ?_|refine zcn ?_|(refine zap rfl ?_; first|refine zaj rfl ?_|refine zan rfl ?_|refine zan rfl ?_|refine zaa 0 rfl rfl rfl ?_|refine zaa 1 rfl rfl rfl ?_|refine zah [] hs rfl rfl rfl zdj rfl ?_|refine zao rfl ?_|refine zan rfl ?_|refine zbe rfl rfl (by omega) ?_|refine zbh rfl rfl (by omega) ?_|refine zbl rfl rfl (by omega) ?_|refine zbn rfl rfl (by omega) ?_|refine zbu rfl ?_|refine zbv rfl ?_)|refine zch ?_|refine zcj rfl ?_)
 exact zej rfl ⟨rfl, rfl⟩
theorem macWord (sh : Shared) (m : MacS) (x y : Int) (cnt : Nat) (hc : cnt ≤ 1000) (h : RdMac w0 sh m x y cnt) (i : Nat) (hi : i < 2) : FnE PP w0 sh 98 [macV m, .int .i64 i] [] (.tuple #[wordV (if i = 0 then x else y), .bool true]) [] := by
 obtain ⟨h0, h1, vs, a, hb, hcc⟩ := h.mem
 have hrow := a.row
 have key : ∃ hh ms mm, [h0, h1][i]? = some hh ∧ RdMs w0 sh hh (if i = 0 then x else y) cnt ms ∧ ms[ms.length - 1]? = some mm ∧ mm.v = (if i = 0 then x else y) := by
   rcases (by omega : i = 0 ∨ i = 1) with rfl | rfl
   · obtain ⟨ms, hm⟩ := hb
     obtain ⟨mm, h3, h4⟩ := hm.2.2.2.2.2
     exact ⟨h0, ms, mm, rfl, hm, h3, h4⟩
   · obtain ⟨ms, hm⟩ := hcc
     obtain ⟨mm, h3, h4⟩ := hm.2.2.2.2.2
     exact ⟨h1, ms, mm, rfl, hm, h3, h4⟩
 obtain ⟨⟨ga, gn, gc⟩, ms, mm, e1, e2, e3, e4⟩ := key
 have hn := e2.1
 have hr := e2.row
 have hl := e2.2.2.2.2.1
 dsimp only at hn hr
 subst hn
 have hL := memLast w0 sh m.q.pa m.q.pc m.q.va 3 m.q.vc [h0, h1] hrow i gc ga ms e1 hr mm e3 (by omega)
 rw [e4] at hL
 refine zep en98 fn98 rfl rfl rfl ?_
 repeat (first|refine zck ?_|refine zcl ?_|refine zcm ?_|refine zcn ?_)
 first|refine zcp (by kernel_rfl) ?_|refine zcq PP_mixed (by kernel_rfl) (by kernel_rfl) ?_
 repeat' (refine zap rfl ?_; first|refine zar (fun t4 => ?_)|refine zan rfl ?_|refine zaq (cs := [_, _, _, _, _, _, _]) rfl (fun nb => ?_))
 all_goals (refine zch ?_; repeat (first|refine zck ?_|refine zcl ?_|refine zcm ?_|refine zcn ?_))
 refine zeb [0] rfl ?_
 repeat (first|refine zck ?_|refine zcl ?_|refine zcm ?_|refine zcn ?_)
 first|refine zcp (by kernel_rfl) ?_|refine zcq PP_mixed (by kernel_rfl) (by kernel_rfl) ?_
 repeat' (refine zap rfl ?_; first|refine zan rfl ?_|refine zaa 0 rfl rfl rfl ?_|refine zah [] hL rfl rfl rfl (fun p hp => .tail _ hp) rfl ?_|refine zao rfl ?_|refine zae 0 rfl rfl rfl rfl rfl rfl rfl ?_)
 all_goals (refine zch ?_; repeat (first|refine zck ?_|refine zcl ?_|refine zcm ?_|refine zcn ?_))
 repeat (first|refine zck ?_|refine zcl ?_|refine zcm ?_|refine zcn ?_|refine zco ?_)
 exact zeg (zek (zel [] rfl (zen rfl (zeo 0 rfl rfl rfl) rfl ⟨rfl, rfl, rfl⟩)))
end Go.Proofs.YtikackodhiollaaGreatDoor
namespace Sim.Tx
open Go Go.Vc Sim
theorem RdMm.of {w0 : World} {sh : Shared} {q : MemS} {h0 h1 : Hs} {vs : List (Option Nat)} {x y : Int} {cnt : Nat} (h : RdMem w0 sh q h0 h1 vs) (a : RdHs w0 sh h0 x cnt) (b : RdHs w0 sh h1 y cnt) : RdMm w0 sh q x y cnt := ⟨h0, h1, vs, h, a, b⟩
end Sim.Tx
namespace Go.Proofs.YtikackodhiollaaGreatDoor
variable (w0 : World)
open Go.Vc Sim Sim.Tx
set_option maxHeartbeats 8000000
theorem macRead (sh : Shared) (m : MacS) (x y : Int) (cnt : Nat) (hc : cnt ≤ 1000) (h : RdMac w0 sh m x y cnt) (b : Bool) (t : Nat) (ht : t < 3) :
   Vc.Fn PP w0 sh 160 [macV m, .int .i64 ((t : Int) + 1), actV 5 (plI b) 0 0, .int .i64 0] []
     (fun r Γ => ∃ m' : MacS, r = .tuple #[macV m', gotV (pick2 b x y) true] ∧ Γ = [RdO sh (fun s => RdMac w0 s m' x y cnt)]) := by
 obtain ⟨h0, h1, vs, ms, hM, hb0, hb1, hms⟩ := h.mem.at b
 have hL := memLook w0 sh m.q h0 h1 vs hM b _ cnt hc ms hms t ht
 unfold LookF at hL
 have hlin := h.lin
 have hst := h.st
 have hsc := h.scap
 obtain ⟨q, l, sa, sc⟩ := m
 dsimp only at hL hlin hst hsc ⊢
 refine zep en160 fn160 rfl rfl rfl ?_
 refine run_kept ?_
 repeat (first|refine zck ?_|refine zcl ?_|refine zcm ?_|refine zcn ?_)
 first|refine zcp (by kernel_rfl) ?_|refine zcq PP_mixed (by kernel_rfl) (by kernel_rfl) ?_
 repeat' (refine zap rfl ?_; first|refine zar (fun t8 => ?_)|refine zaq (cs := [_, _, _, _, _, _, _]) rfl (fun nb => ?_)|refine zaq (cs := [_, _, _, _, _, _, _, _]) rfl (fun nb => ?_))
 all_goals (refine zch ?_; repeat (first|refine zck ?_|refine zcl ?_|refine zcm ?_|refine zcn ?_))
 refine run_shareK [1] rfl ?_
 repeat (first|refine zck ?_|refine zcl ?_|refine zcm ?_|refine zcn ?_)
 first|refine zcp (by kernel_rfl) ?_|refine zcq PP_mixed (by kernel_rfl) (by kernel_rfl) ?_
 repeat' (refine zap rfl ?_; first|refine zar (fun t10 => ?_))
 all_goals (refine zch ?_; repeat (first|refine zck ?_|refine zcl ?_|refine zcm ?_|refine zcn ?_))
 repeat (first|refine zck ?_|refine zcl ?_|refine zcm ?_|refine zcn ?_|refine zco ?_)
 repeat (first|refine zck ?_|refine zcl ?_|refine zcm ?_|refine zcn ?_)
 first|refine zcp (by kernel_rfl) ?_|refine zcq PP_mixed (by kernel_rfl) (by kernel_rfl) ?_
 repeat' (refine zap rfl ?_; first|refine zaa 0 rfl rfl rfl ?_|refine zao rfl ?_|refine zbc rfl rfl (by omega) ?_)
 all_goals (refine zch ?_; repeat (first|refine zck ?_|refine zcl ?_|refine zcm ?_|refine zcn ?_))
 refine zci rfl ?_
 repeat (first|refine zck ?_|refine zcl ?_|refine zcm ?_|refine zcn ?_|refine zco ?_)
 repeat (first|refine zck ?_|refine zcl ?_|refine zcm ?_|refine zcn ?_)
 first|refine zcp (by kernel_rfl) ?_|refine zcq PP_mixed (by kernel_rfl) (by kernel_rfl) ?_
 repeat' (refine zap rfl ?_; first|refine zan rfl ?_|refine zaa 0 rfl rfl rfl ?_|refine zab 0 rfl rfl rfl ?_|(refine zai [] hL rfl rfl rfl (fun _ hp => .tail _ hp) ?_; rintro v Γ ⟨q', rfl, rfl⟩)|refine zao rfl ?_|refine zae 1 rfl rfl rfl rfl rfl rfl rfl ?_|refine zae 4 rfl rfl rfl rfl rfl rfl rfl ?_)
 all_goals (refine zch ?_; repeat (first|refine zck ?_|refine zcl ?_|refine zcm ?_|refine zcn ?_))
 repeat (first|refine zck ?_|refine zcl ?_|refine zcm ?_|refine zcn ?_|refine zco ?_)
 refine run_shareK [1] rfl ?_
 refine run_shareK [3] rfl ?_
 repeat (first|refine zck ?_|refine zcl ?_|refine zcm ?_|refine zcn ?_)
 first|refine zcp (by kernel_rfl) ?_|refine zcq PP_mixed (by kernel_rfl) (by kernel_rfl) ?_
 repeat' (refine zap rfl ?_; first|refine zcb rfl ?_|refine zaa 0 rfl rfl rfl ?_|refine zaa 1 rfl rfl rfl ?_|refine zae 1 rfl rfl rfl rfl rfl rfl rfl ?_|refine zae 2 rfl rfl rfl rfl rfl rfl rfl ?_)
 all_goals (refine zch ?_; repeat (first|refine zck ?_|refine zcl ?_|refine zcm ?_|refine zcn ?_))
 repeat (first|refine zck ?_|refine zcl ?_|refine zcm ?_|refine zcn ?_|refine zco ?_)
 refine run_shareO [0] (fun _ hp => .tail _ (.tail _ (.tail _ hp))) rfl ?_
 intro bl hs hu ⟨vs', hv⟩
 have up : ∀ p ∈ sh, _ := fun p hp => hs p (.tail _ (.tail _ (.tail _ hp)))
 exact retK [] (fun s => RdMac w0 s ⟨q', l, sa, sc⟩ x y cnt) (fun _ hs2 => RdMac.mono ⟨.of (hv.mono hu) (hb0.mono up (Nat.le_refl _)) (hb1.mono up (Nat.le_refl _)), hlin.mono up (Nat.le_refl _), let ⟨s1, s2, s3, a, b⟩ := hst; ⟨s1, s2, s3, a.mono up, b⟩, hsc⟩ hs2 (Nat.le_refl _)) rfl (zen rfl (zeo 0 rfl rfl rfl) (zeo 1 rfl rfl rfl) ⟨rfl, _, rfl, rfl⟩)
theorem macWriteF (sh : Shared) (m : MacS) (x y : Int) (cnt : Nat) (hc : cnt ≤ 1000) (h : RdMac w0 sh m x y cnt) (b : Bool) (t : Nat) (ht : t < 3) (old new : Int) (ho : pick2 b x y ≠ old) :
   Vc.Fn PP w0 sh 158 [macV m, .int .i64 ((t : Int) + 1), actV 6 (plI b) old new] []
     (fun r Γ => ∃ m' : MacS, r = .tuple #[macV m', gotV (pick2 b x y) false] ∧ Γ = [RdO sh (fun s => RdMac w0 s m' x y cnt)]) := by
 obtain ⟨h0, h1, vs, ms, hM, hb0, hb1, hms⟩ := h.mem.at b
 have hS := memSwapF w0 sh m.q h0 h1 vs hM b _ cnt hc ms hms t ht old new ho
 have hlin := h.lin
 have hst := h.st
 have hsc := h.scap
 obtain ⟨q, l, sa, sc⟩ := m
 dsimp only at hS hlin hst hsc ⊢
 refine zep en158 fn158 rfl rfl rfl ?_
 refine run_kept ?_
 repeat (first|refine zck ?_|refine zcl ?_|refine zcm ?_|refine zcn ?_)
 first|refine zcp (by kernel_rfl) ?_|refine zcq PP_mixed (by kernel_rfl) (by kernel_rfl) ?_
 repeat' (refine zap rfl ?_; first|refine zar (fun t6 => ?_)|refine zaq (cs := [_, _, _, _, _, _, _]) rfl (fun nb => ?_)|refine zaq (cs := [_, _, _, _, _, _, _, _]) rfl (fun nb => ?_))
 all_goals (refine zch ?_; repeat (first|refine zck ?_|refine zcl ?_|refine zcm ?_|refine zcn ?_))
 refine run_shareK [1] rfl ?_
 repeat (first|refine zck ?_|refine zcl ?_|refine zcm ?_|refine zcn ?_)
 first|refine zcp (by kernel_rfl) ?_|refine zcq PP_mixed (by kernel_rfl) (by kernel_rfl) ?_
 repeat' (refine zap rfl ?_; first|refine zcb rfl ?_|refine zar (fun t8 => ?_)|refine zae 3 rfl rfl rfl rfl rfl rfl rfl ?_)
 all_goals (refine zch ?_; repeat (first|refine zck ?_|refine zcl ?_|refine zcm ?_|refine zcn ?_))
 repeat (first|refine zck ?_|refine zcl ?_|refine zcm ?_|refine zcn ?_|refine zco ?_)
 repeat (first|refine zck ?_|refine zcl ?_|refine zcm ?_|refine zcn ?_)
 first|refine zcp (by kernel_rfl) ?_|refine zcq PP_mixed (by kernel_rfl) (by kernel_rfl) ?_
 repeat' (refine zap rfl ?_; first|refine zaa 0 rfl rfl rfl ?_|refine zao rfl ?_|refine zbc rfl rfl (by omega) ?_)
 all_goals (refine zch ?_; repeat (first|refine zck ?_|refine zcl ?_|refine zcm ?_|refine zcn ?_))
 refine zci rfl ?_
 repeat (first|refine zck ?_|refine zcl ?_|refine zcm ?_|refine zcn ?_|refine zco ?_)
 repeat (first|refine zck ?_|refine zcl ?_|refine zcm ?_|refine zcn ?_)
 first|refine zcp (by kernel_rfl) ?_|refine zcq PP_mixed (by kernel_rfl) (by kernel_rfl) ?_
 repeat' (refine zap rfl ?_; first|refine zan rfl ?_|refine zaa 0 rfl rfl rfl ?_|refine zab 0 rfl rfl rfl ?_|(refine zai [] hS rfl rfl rfl (fun _ hp => .tail _ hp) ?_; rintro v Γ ⟨q', rfl, rfl⟩)|refine zao rfl ?_|refine zae 1 rfl rfl rfl rfl rfl rfl rfl ?_|refine zae 4 rfl rfl rfl rfl rfl rfl rfl ?_)
 all_goals (refine zch ?_; repeat (first|refine zck ?_|refine zcl ?_|refine zcm ?_|refine zcn ?_))
 repeat (first|refine zck ?_|refine zcl ?_|refine zcm ?_|refine zcn ?_|refine zco ?_)
 repeat (first|refine zck ?_|refine zcl ?_|refine zcm ?_|refine zcn ?_)
 first|refine zcp (by kernel_rfl) ?_|refine zcq PP_mixed (by kernel_rfl) (by kernel_rfl) ?_
 repeat' (refine zap rfl ?_; first|refine zab 4 rfl rfl rfl ?_|refine zao rfl ?_)
 all_goals (refine zch ?_; repeat (first|refine zck ?_|refine zcl ?_|refine zcm ?_|refine zcn ?_))
 refine zcj rfl ?_
 repeat (first|refine zck ?_|refine zcl ?_|refine zcm ?_|refine zcn ?_|refine zco ?_)
 refine run_shareK [1] rfl ?_
 refine run_shareK [3] rfl ?_
 repeat (first|refine zck ?_|refine zcl ?_|refine zcm ?_|refine zcn ?_)
 first|refine zcp (by kernel_rfl) ?_|refine zcq PP_mixed (by kernel_rfl) (by kernel_rfl) ?_
 repeat' (refine zap rfl ?_; first|refine zaa 0 rfl rfl rfl ?_|refine zaa 1 rfl rfl rfl ?_|refine zae 1 rfl rfl rfl rfl rfl rfl rfl ?_|refine zae 2 rfl rfl rfl rfl rfl rfl rfl ?_)
 all_goals (refine zch ?_; repeat (first|refine zck ?_|refine zcl ?_|refine zcm ?_|refine zcn ?_))
 repeat (first|refine zck ?_|refine zcl ?_|refine zcm ?_|refine zcn ?_|refine zco ?_)
 refine run_shareO [0] (fun _ hp => .tail _ (.tail _ (.tail _ hp))) rfl ?_
 intro bl hs hu ⟨vs', hv⟩
 have up : ∀ p ∈ sh, _ := fun p hp => hs p (.tail _ (.tail _ (.tail _ hp)))
 exact retK [] (fun s => RdMac w0 s ⟨q', l, sa, sc⟩ x y cnt) (fun _ hs2 => RdMac.mono ⟨.of (hv.mono hu) (hb0.mono up (Nat.le_refl _)) (hb1.mono up (Nat.le_refl _)), hlin.mono up (Nat.le_refl _), let ⟨s1, s2, s3, a, b⟩ := hst; ⟨s1, s2, s3, a.mono up, b⟩, hsc⟩ hs2 (Nat.le_refl _)) rfl (zen rfl (zeo 0 rfl rfl rfl) (zeo 1 rfl rfl rfl) ⟨rfl, _, rfl, rfl⟩)
theorem macWriteT (sh : Shared) (m : MacS) (x y : Int) (cnt : Nat) (hc : cnt ≤ 1000) (h : RdMac w0 sh m x y cnt) (b : Bool) (t : Nat) (ht : t < 3) (new : Int) (hnew : I64 new) :
   Vc.Fn PP w0 sh 158 [macV m, .int .i64 ((t : Int) + 1), actV 6 (plI b) (pick2 b x y) new] []
     (fun r Γ => ∃ m' : MacS, r = .tuple #[macV m', gotV (pick2 b x y) true] ∧ Γ = [RdO sh (fun s => RdMac w0 s m' (put2 b x y new).1 (put2 b x y new).2 (cnt + 1))]) := by
 obtain ⟨h0, h1, vs, ms, hM, hb0, hb1, hms⟩ := h.mem.at b
 have hS := memSwapT w0 sh m.q h0 h1 vs hM b _ cnt hc ms hms t ht new hnew
 have hlin := h.lin
 have hst := h.st
 have hsc := h.scap
 obtain ⟨q, l, sa, sc⟩ := m
 dsimp only at hS hlin hst hsc ⊢
 have hSt := linStore w0 sh l cnt hc hlin b new
 refine zep en158 fn158 rfl rfl rfl ?_
 refine run_kept ?_
 repeat (first|refine zck ?_|refine zcl ?_|refine zcm ?_|refine zcn ?_)
 first|refine zcp (by kernel_rfl) ?_|refine zcq PP_mixed (by kernel_rfl) (by kernel_rfl) ?_
 repeat' (refine zap rfl ?_; first|refine zar (fun t6 => ?_)|refine zaq (cs := [_, _, _, _, _, _, _]) rfl (fun nb => ?_)|refine zaq (cs := [_, _, _, _, _, _, _, _]) rfl (fun nb => ?_))
 all_goals (refine zch ?_; repeat (first|refine zck ?_|refine zcl ?_|refine zcm ?_|refine zcn ?_))
 refine run_shareK [1] rfl ?_
 repeat (first|refine zck ?_|refine zcl ?_|refine zcm ?_|refine zcn ?_)
 first|refine zcp (by kernel_rfl) ?_|refine zcq PP_mixed (by kernel_rfl) (by kernel_rfl) ?_
 repeat' (refine zap rfl ?_; first|refine zcb rfl ?_|refine zar (fun t8 => ?_)|refine zae 3 rfl rfl rfl rfl rfl rfl rfl ?_)
 all_goals (refine zch ?_; repeat (first|refine zck ?_|refine zcl ?_|refine zcm ?_|refine zcn ?_))
 repeat (first|refine zck ?_|refine zcl ?_|refine zcm ?_|refine zcn ?_|refine zco ?_)
 repeat (first|refine zck ?_|refine zcl ?_|refine zcm ?_|refine zcn ?_)
 first|refine zcp (by kernel_rfl) ?_|refine zcq PP_mixed (by kernel_rfl) (by kernel_rfl) ?_
 repeat' (refine zap rfl ?_; first|refine zaa 0 rfl rfl rfl ?_|refine zao rfl ?_|refine zbc rfl rfl (by omega) ?_)
 all_goals (refine zch ?_; repeat (first|refine zck ?_|refine zcl ?_|refine zcm ?_|refine zcn ?_))
 refine zci rfl ?_
 repeat (first|refine zck ?_|refine zcl ?_|refine zcm ?_|refine zcn ?_|refine zco ?_)
 repeat (first|refine zck ?_|refine zcl ?_|refine zcm ?_|refine zcn ?_)
 first|refine zcp (by kernel_rfl) ?_|refine zcq PP_mixed (by kernel_rfl) (by kernel_rfl) ?_
 repeat' (refine zap rfl ?_; first|refine zan rfl ?_|refine zaa 0 rfl rfl rfl ?_|refine zab 0 rfl rfl rfl ?_|(refine zai [] hS rfl rfl rfl (fun _ hp => .tail _ hp) ?_; rintro v Γ ⟨q', rfl, rfl⟩)|refine zao rfl ?_|refine zae 1 rfl rfl rfl rfl rfl rfl rfl ?_|refine zae 4 rfl rfl rfl rfl rfl rfl rfl ?_)
 all_goals (refine zch ?_; repeat (first|refine zck ?_|refine zcl ?_|refine zcm ?_|refine zcn ?_))
 repeat (first|refine zck ?_|refine zcl ?_|refine zcm ?_|refine zcn ?_|refine zco ?_)
 repeat (first|refine zck ?_|refine zcl ?_|refine zcm ?_|refine zcn ?_)
 first|refine zcp (by kernel_rfl) ?_|refine zcq PP_mixed (by kernel_rfl) (by kernel_rfl) ?_
 repeat' (refine zap rfl ?_; first|refine zab 4 rfl rfl rfl ?_|refine zao rfl ?_)
 all_goals (refine zch ?_; repeat (first|refine zck ?_|refine zcl ?_|refine zcm ?_|refine zcn ?_))
 refine zci rfl ?_
 repeat (first|refine zck ?_|refine zcl ?_|refine zcm ?_|refine zcn ?_|refine zco ?_)
 repeat (first|refine zck ?_|refine zcl ?_|refine zcm ?_|refine zcn ?_)
 first|refine zcp (by kernel_rfl) ?_|refine zcq PP_mixed (by kernel_rfl) (by kernel_rfl) ?_
 repeat' (refine zap rfl ?_; first|refine zan rfl ?_|refine zaa 0 rfl rfl rfl ?_|refine zab 1 rfl rfl rfl ?_|(refine zai [] hSt rfl rfl rfl (fun _ hp => .tail _ hp) ?_; rintro v Γ ⟨l', rfl, rfl⟩)|refine zao rfl ?_|refine zae 2 rfl rfl rfl rfl rfl rfl rfl ?_)
 all_goals (refine zch ?_; repeat (first|refine zck ?_|refine zcl ?_|refine zcm ?_|refine zcn ?_))
 repeat (first|refine zck ?_|refine zcl ?_|refine zcm ?_|refine zcn ?_|refine zco ?_)
 refine run_shareK [2] rfl ?_
 refine run_shareK [4] rfl ?_
 repeat (first|refine zck ?_|refine zcl ?_|refine zcm ?_|refine zcn ?_)
 first|refine zcp (by kernel_rfl) ?_|refine zcq PP_mixed (by kernel_rfl) (by kernel_rfl) ?_
 repeat' (refine zap rfl ?_; first|refine zaa 0 rfl rfl rfl ?_|refine zaa 1 rfl rfl rfl ?_|refine zae 2 rfl rfl rfl rfl rfl rfl rfl ?_|refine zae 3 rfl rfl rfl rfl rfl rfl rfl ?_)
 all_goals (refine zch ?_; repeat (first|refine zck ?_|refine zcl ?_|refine zcm ?_|refine zcn ?_))
 repeat (first|refine zck ?_|refine zcl ?_|refine zcm ?_|refine zcn ?_|refine zco ?_)
 refine run_shareO [0] (fun _ hp => .tail _ (.tail _ (.tail _ hp))) rfl ?_
 intro bl hs hu hl
 refine run_shareO [0] (fun p hp => hs p (.tail _ (.tail _ (.tail _ hp)))) rfl ?_
 intro bl2 hs2 hu2 ⟨h', vs', hv, hh⟩
 have up : ∀ p ∈ sh, _ := fun p hp => hs2 p (hs p (.tail _ (.tail _ (.tail _ hp))))
 have hl2 := (hl.mono hu (Nat.le_refl _)).mono hs2 (Nat.le_refl _)
 have hv2 := hv.mono hu2
 have hh2 := hh.mono hu2 (Nat.le_refl _)
 have ha0 := hb0.mono up (Nat.le_succ _)
 have ha1 := hb1.mono up (Nat.le_succ _)
 exact retK [] (fun s => RdMac w0 s ⟨q', l', sa, sc⟩ (put2 b x y new).1 (put2 b x y new).2 (cnt + 1)) (fun _ hs2 => RdMac.mono ⟨by cases b; exact .of hv2 hh2 ha1; exact .of hv2 ha0 hh2, hl2, let ⟨s1, s2, s3, a, b1, b2, b3⟩ := hst; ⟨s1, s2, s3, a.mono up, by omega, by omega, by omega⟩, hsc⟩ hs2 (Nat.le_refl _)) rfl (zen rfl (zeo 0 rfl rfl rfl) (zeo 1 rfl rfl rfl) ⟨rfl, _, rfl, rfl⟩)
end Go.Proofs.YtikackodhiollaaGreatDoor
