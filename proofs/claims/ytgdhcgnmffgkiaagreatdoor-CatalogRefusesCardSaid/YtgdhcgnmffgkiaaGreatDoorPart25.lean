import Derived.Test.YtgdhcgnmffgkiaaGreatDoorPart24
import Derived.Test.YtgdhcgnmffgkiaaGreatDoorPart13
import Derived.Test.YtgdhcgnmffgkiaaGreatDoorKit
import Derived.Test.YtgdhcgnmffgkiaaGreatDoorPart2
import Derived.Test.YtgdhcgnmffgkiaaGreatDoorPart21
/- Own work: lemmas of this claim. -/
namespace Sim
open Go Go.Vc
theorem rcAt_skip {s : ByteArray} {i : Nat} (h : s[i]? ≠ some 32) : rcAt s (i + 1) = rcAt s i := by
 rw [rcAt, rcStep, if_neg h]
theorem rcAt_cut {s : ByteArray} {i : Nat} (h : s[i]? = some 32) : rcAt s (i + 1) = (i + 1, (rcAt s i).2 ++ [rcCut (s.extract (rcAt s i).1 i)]) := by
 rw [rcAt, rcStep, if_pos h]
theorem rcAt_len (s : ByteArray) : ∀ i, (rcAt s i).2.length ≤ i
 | 0 => Nat.le_refl _
 | i + 1 => by
   have ih := rcAt_len s i
   by_cases h : s[i]? = some 32
   · rw [rcAt_cut h]
     simp only [List.length_append, List.length_singleton]
     omega
   · rw [rcAt_skip h]
     omega
def refFind (k : Int) (s : ByteArray) : Int := match ixM (ctMeths k) s 0 with | some j => (j : Int) | none => -1
theorem ixM_drop {l : List (ByteArray × Int × Bool)} {s : ByteArray} {j z : Nat} {x : ByteArray × Int × Bool} (h : l[j]? = some x) : ixM (l.drop j) s z = if x.1 = s then some z else ixM (l.drop (j + 1)) s (z + 1) := by
 have hj := (List.getElem?_eq_some_iff.1 h).1
 rw [List.drop_eq_getElem_cons hj, (List.getElem?_eq_some_iff.1 h).2, ixM]
end Sim
namespace Go.Proofs.YtgdhcgnmffgkiaaGreatDoor
variable (w0 : World)
open Go.Vc Sim
set_option maxHeartbeats 1600000
theorem refMethods_spec (k : Int) : Vc.Fn PP w0 [] 10 [.int .i64 k] [] (fun v Γ => ∃ a c, v = .slice a (ctMeths k).length c ∧ Γ = [Rds fun bl => RdSl w0 bl encMM 3 (.slice a (ctMeths k).length c) (ctMeths k)]) := by
 by_cases hk : k < 0 ∨ 9 < k
 · have he : ctMeths k = [] := by unfold ctMeths; rw [if_neg (by omega)]
   rw [he]
   by_cases h0 : k < 0
   · refine zep en10 fn10 rfl rfl rfl ?_
     refine run_emptyR (fun bl => RdSl w0 bl encMM 3 (.slice none 0 0) []) RdSl.nil ?_
     repeat' first|refine zck ?_|refine zyq ?_|(refine zap rfl ?_;first|refine zak rfl ?_|refine zbg rfl rfl (by omega) ?_|refine zbu rfl ?_)|refine zp ?_|refine zch ?_|refine zci rfl ?_
     exact zej rfl ⟨none, 0, rfl, rfl⟩
   · refine zep en10 fn10 rfl rfl rfl ?_
     refine run_emptyR (fun bl => RdSl w0 bl encMM 3 (.slice none 0 0) []) RdSl.nil ?_
     repeat' first|refine zck ?_|refine zyq ?_|(refine zap rfl ?_;first|refine zaj rfl ?_|refine zbh rfl rfl (by omega) ?_|refine zbk rfl rfl (by omega) ?_|refine zbv rfl ?_)|refine zp ?_|refine zch ?_|refine zci rfl ?_
     exact zej rfl ⟨none, 0, rfl, rfl⟩
 obtain ⟨q, rfl⟩ : ∃ q : Nat, k = (q : Int) := ⟨k.toNat, by omega⟩
 have hq : q < 10 := by omega
 obtain ⟨hok, hres, hsz⟩ := rc_ok hq
 obtain ⟨row, hrow⟩ : ∃ row, rcRows[q]? = some row := ⟨_, List.getElem?_eq_getElem (by show q < 10; exact hq)⟩
 have hS0 : rcS q = row ++ bs [32] := by unfold rcS; rw [List.getD_eq_getElem?_getD, hrow]; rfl
 have hrs : row.size + 1 ≤ 100 := by rw [hS0, ByteArray.size_append] at hsz; exact hsz
 obtain ⟨S, hS⟩ : ∃ S, S = rcS q := ⟨_, rfl⟩
 rw [← hS] at hok hres hsz hS0
 rw [← hres]
 refine zep en10 fn10 rfl rfl rfl ?_
 refine zyr ?_
 repeat' refine zp ?_
 all_goals refine zyn ?_
 refine zyr ?_
 repeat' first|(refine zap rfl ?_;first|refine zaj rfl ?_|refine zbh rfl rfl (by omega) ?_|refine zbl rfl rfl (by omega) ?_|refine zbv rfl ?_)|refine zp ?_|refine zyn ?_
 refine zcj rfl ?_
 refine zyr ?_
 repeat' refine zp ?_
 all_goals refine zyn ?_
 refine zyr ?_
 repeat' first|(refine zap rfl ?_;first|refine zab 0 rfl rfl (strs_rd hrow _ (by omega)) ?_|refine reg_addS rfl rfl (Nat.le_trans hrs (by decide)) ?_|(refine zai [] (refRows_own w0) rfl rfl rfl zdj ?_; rintro v Γ ⟨nb, rfl, rfl⟩)|refine zas rfl rfl (by omega) ?_)|refine zp ?_|refine zyn ?_
 refine zec [] rfl ?_
 repeat (first|refine zck ?_|refine zcl ?_|refine zcm ?_|refine zcn ?_|refine zco ?_)
 refine zyr ?_
 repeat' refine zp ?_
 all_goals refine zyn ?_
 refine zyr ?_
 repeat' refine zp ?_
 all_goals refine zyn ?_
 refine run_nilslice 33 3 ?_
 refine run_loop (S := Nat × Option Addr × Nat) (fun s => [(3, .slice s.2.1 (rcAt S s.1).2.length s.2.2), (4, .string S), (5, .int .i64 ((rcAt S s.1).1 : Int)), (6, .int .i64 (s.1 : Int))])
   (fun s Γ => Γ = [SlA 33 3 s.2.1 (rcAt S s.1).2.length s.2.2 ((rcAt S s.1).2.flatMap encMM)] ∧ s.1 ≤ S.size) (fun s => S.size - s.1) (0, none, 0) ⟨rfl, congrArg Value.string hS0.symm, rfl, rfl, trivial⟩ ⟨rfl, Nat.zero_le _⟩ ?_
 rintro ⟨i, a, c⟩ Γ junk ⟨rfl, g1⟩
 dsimp only at g1 ⊢
 by_cases hi : i < S.size
 rotate_left
 · have hil : i = S.size := by omega
   subst hil
   refine zyr ?_
   repeat' first|(refine zap rfl ?_;first|refine zdy rfl ?_|refine zbh rfl rfl (by omega) ?_)|refine zp ?_|refine zyn ?_
   refine zcj rfl ?_
   refine zer rfl rfl ?_
   refine run_slR encMM 0 (l := (rcAt S S.size).2) rfl rfl (fun _ _ => rfl) rfl rfl ?_
   repeat' first|refine zck ?_|refine zyq ?_|refine zp ?_|refine zch ?_
   exact zej rfl ⟨a, c, rfl, rfl⟩
 have hal := rcAt_len S i
 obtain ⟨u, hu⟩ : ∃ u, S[i]? = some u := ⟨_, getElem?_pos S i hi⟩
 by_cases hw : u = 32
 rotate_left
 · have hne : (u.toNat : Int) ≠ 32 := fun h => hw (UInt8.toNat_inj.1 (by show u.toNat = 32; omega))
   have hsk := rcAt_skip (s := S) (i := i) (by rw [hu]; exact fun h => hw (Option.some.inj h))
   refine zyr ?_
   repeat' first|(refine zap rfl ?_;first|refine zdy rfl ?_|refine zbg rfl rfl (by omega) ?_)|refine zp ?_|refine zyn ?_
   refine zci rfl ?_
   refine zyr ?_
   repeat' first|(refine zap rfl ?_;first|refine zew (u := u) rfl rfl (by omega) hu ?_|refine zbe rfl rfl (by omega) ?_)|refine zp ?_|refine zyn ?_
   refine zci rfl ?_
   repeat' first|refine zyq ?_|refine zcs rfl ?_|(refine zap rfl ?_;refine zau rfl rfl (by omega) ?_)|refine zp ?_|refine zch ?_
   exact zeq ⟨rfl, (i + 1, a, c), ⟨congrArg (fun q : Nat × List (ByteArray × Int × Bool) => Value.slice a q.2.length c) hsk.symm, rfl, congrArg (fun q : Nat × List (ByteArray × Int × Bool) => Value.int .i64 (q.1 : Int)) hsk.symm, zes (by dsimp only; omega), trivial⟩, ⟨congrArg (fun q : Nat × List (ByteArray × Int × Bool) => [SlA 33 3 a q.2.length c (q.2.flatMap encMM)]) hsk.symm, by dsimp only; omega⟩, by dsimp only; omega⟩
 subst hw
 have h32 : ((32 : UInt8).toNat : Int) = 32 := rfl
 have hct := rcAt_cut hu
 have hk1 := hok i hi
 unfold rcOk at hk1
 rw [if_pos hu, Bool.and_eq_true, Bool.and_eq_true, decide_eq_true_eq, decide_eq_true_eq, decide_eq_true_eq] at hk1
 obtain ⟨w, hwd⟩ : ∃ w, S.extract (rcAt S i).1 i = w := ⟨_, rfl⟩
 rw [hwd] at hct hk1
 obtain ⟨k1, k2, k3⟩ := hk1
 obtain ⟨W, hW⟩ : ∃ W, rcW w = W := ⟨_, rfl⟩
 rw [hW] at k3
 obtain ⟨u1, hu1⟩ : ∃ u1, w[w.size - 1]? = some u1 := ⟨_, getElem?_pos w (w.size - 1) (by omega)⟩
 obtain ⟨u2, hu2⟩ : ∃ u2, W[W.size - 1]? = some u2 := ⟨_, getElem?_pos W (W.size - 1) (by omega)⟩
 have hws : w.size ≤ 100 := by rw [← hwd, ByteArray.size_extract]; omega
 have hWs : W.size ≤ 100 := by
   rw [← hW]
   unfold rcW
   split
   · rw [ByteArray.size_extract]; omega
   · exact hws
 have e1 : ((w.size : Int) - 1).toNat = w.size - 1 := by omega
 have e2 : ((W.size : Int) - 1).toNat = W.size - 1 := by omega
 have i1 : w[((w.size : Int) - 1).toNat]? = some u1 := by rw [e1]; exact hu1
 have i2 : W[((W.size : Int) - 1).toNat]? = some u2 := by rw [e2]; exact hu2
 have hext : S.extract ((rcAt S i).1 : Int).toNat ((i : Nat) : Int).toNat = w := hwd
 have hnm : W.extract 0 ((W.size : Int) - 1).toNat = W.extract 0 (W.size - 1) := by rw [e2]
 have hb1 := u1.toNat_lt
 have hb2 := u2.toNat_lt
 have hcut : rcCut w = (W.extract 0 (W.size - 1), (u2.toNat : Int) - 48, decide (w[w.size - 1]? = some 119)) := by
   unfold rcCut
   rw [hW, hu2]
   rfl
 refine zyr ?_
 repeat' first|(refine zap rfl ?_;first|refine zdy rfl ?_|refine zbg rfl rfl (by omega) ?_)|refine zp ?_|refine zyn ?_
 refine zci rfl ?_
 refine zyr ?_
 repeat' first|(refine zap rfl ?_;first|refine zew (u := 32) rfl rfl (by omega) hu ?_|refine zbf rfl rfl (by omega) ?_)|refine zp ?_|refine zyn ?_
 refine zcj rfl ?_
 refine zyr ?_
 repeat' first|(refine zap rfl ?_;refine reg_subSe rfl rfl rfl (by omega) hext ?_)|refine zp ?_|refine zyn ?_
 refine zyr ?_
 repeat' first|(refine zap rfl ?_;refine zau rfl rfl (by omega) ?_)|refine zp ?_|refine zyn ?_
 refine zyr ?_
 repeat' (refine zap rfl ?_;first|refine zar (fun t8 => ?_)|refine zae 1 rfl rfl rfl rfl rfl rfl rfl ?_|refine zcb rfl ?_)
 all_goals refine zyn ?_
 by_cases h119 : u1 = 119
 · have hm : ((119 : UInt8).toNat : Int) = 119 := rfl
   have hW1 : w.extract 0 ((w.size : Int) - 1).toNat = W := by
     rw [← hW, e1]
     unfold rcW
     rw [if_pos (by rw [hu1, h119])]
   subst h119
   rw [hu1, decide_eq_true rfl] at hcut
   rw [hcut] at hct
   refine zyr ?_
   repeat' first|(refine zap rfl ?_;first|refine zew rfl rfl (by omega) i1 ?_|refine zdy rfl ?_|refine zbc rfl rfl (by omega) ?_|refine zav rfl rfl (by omega) ?_)|refine zp ?_|refine zyn ?_
   refine zci rfl ?_
   refine zyr ?_
   repeat' first|(refine zap rfl ?_;refine zae 1 rfl rfl rfl rfl rfl rfl rfl ?_)|refine zyf rfl ?_|refine zyn ?_
   refine zyr ?_
   repeat' first|(refine zap rfl ?_;first|refine reg_preSe rfl rfl (by omega) hW1 ?_|refine zdy rfl ?_|refine zav rfl rfl (by omega) ?_)|refine zp ?_|refine zyn ?_
   refine zyr ?_
   repeat' first|(refine zap rfl ?_;first|refine zew rfl rfl (by omega) i2 ?_|refine zdy rfl ?_|refine zav rfl rfl (by omega) ?_|refine zae 1 rfl rfl rfl rfl rfl rfl rfl ?_|refine zbz rfl (by omega) ?_)|refine zp ?_|refine zyf rfl ?_|refine zyn ?_
   refine zyr ?_
   repeat' first|(refine zap rfl ?_;first|refine reg_preSe rfl rfl (by omega) hnm ?_|refine zdy rfl ?_|refine zav rfl rfl (by omega) ?_|refine zae 1 rfl rfl rfl rfl rfl rfl rfl ?_)|refine zp ?_|refine zyf rfl ?_|refine zyn ?_
   refine zyr ?_
   repeat' first|(refine zap rfl ?_;first|refine zdt rfl rfl rfl rfl rfl rfl (fun nb9 => ?_)|refine zab 1 rfl rfl rfl ?_|refine zdz 0 2 rfl rfl rfl rfl rfl rfl rfl rfl (by omega) (fun _ _ => rfl) (fun a5 c5 => ?_))|refine zp ?_|refine zyn ?_
   refine zec [0] rfl ?_
   refine zef 0 (SlA 33 3 a5 ((rcAt S i).2.length + 1) c5 ((rcAt S i).2.flatMap encMM ++ encMM (W.extract 0 (W.size - 1), (u2.toNat : Int) - 48, true))) rfl (fun g hg => hg) rfl ?_
   repeat (first|refine zck ?_|refine zcl ?_|refine zcm ?_|refine zcn ?_|refine zco ?_)
   have q1 : (rcAt S i).2.length + 1 = (rcAt S (i + 1)).2.length := by rw [hct, List.length_append]; rfl
   have q2 : ((i : Int) + 1) = ((rcAt S (i + 1)).1 : Int) := by rw [hct]; dsimp only; omega
   have q3 : (rcAt S i).2.flatMap encMM ++ encMM (W.extract 0 (W.size - 1), (u2.toNat : Int) - 48, true) = (rcAt S (i + 1)).2.flatMap encMM := by rw [hct, List.flatMap_append]; rfl
   have q4 : [SlA 33 3 a5 ((rcAt S i).2.length + 1) c5 ((rcAt S i).2.flatMap encMM ++ encMM (W.extract 0 (W.size - 1), (u2.toNat : Int) - 48, true))] = [SlA 33 3 a5 (rcAt S (i + 1)).2.length c5 ((rcAt S (i + 1)).2.flatMap encMM)] := by rw [q3, q1]
   repeat' first|refine zyq ?_|(refine zap rfl ?_;refine zau rfl rfl (by omega) ?_)|refine zp ?_|refine zch ?_
   exact zeq ⟨rfl, (i + 1, a5, c5), ⟨congrArg (fun n => Value.slice a5 n c5) q1, rfl, congrArg (fun z : Int => Value.int .i64 z) q2, zes (by dsimp only; omega), trivial⟩, ⟨q4, by dsimp only; omega⟩, by dsimp only; omega⟩
 · have hne : (u1.toNat : Int) ≠ 119 := fun h => h119 (UInt8.toNat_inj.1 (by show u1.toNat = 119; omega))
   have hW1 : w = W := by
     rw [← hW]
     unfold rcW
     rw [if_neg (by rw [hu1]; exact fun h => h119 (Option.some.inj h))]
   rw [hu1, decide_eq_false (fun h => h119 (Option.some.inj h))] at hcut
   rw [hcut] at hct
   subst hW1
   refine zyr ?_
   repeat' first|(refine zap rfl ?_;first|refine zew rfl rfl (by omega) i1 ?_|refine zdy rfl ?_|refine zbd rfl rfl (by omega) ?_|refine zav rfl rfl (by omega) ?_)|refine zp ?_|refine zyn ?_
   refine zcj rfl ?_
   refine zyr ?_
   repeat' first|(refine zap rfl ?_;first|refine zew rfl rfl (by omega) i2 ?_|refine zdy rfl ?_|refine zav rfl rfl (by omega) ?_|refine zae 1 rfl rfl rfl rfl rfl rfl rfl ?_|refine zbz rfl (by omega) ?_)|refine zp ?_|refine zyf rfl ?_|refine zyn ?_
   refine zyr ?_
   repeat' first|(refine zap rfl ?_;first|refine reg_preSe rfl rfl (by omega) hnm ?_|refine zdy rfl ?_|refine zav rfl rfl (by omega) ?_|refine zae 1 rfl rfl rfl rfl rfl rfl rfl ?_)|refine zp ?_|refine zyf rfl ?_|refine zyn ?_
   refine zyr ?_
   repeat' first|(refine zap rfl ?_;first|refine zdt rfl rfl rfl rfl rfl rfl (fun nb9 => ?_)|refine zab 1 rfl rfl rfl ?_|refine zdz 0 2 rfl rfl rfl rfl rfl rfl rfl rfl (by omega) (fun _ _ => rfl) (fun a5 c5 => ?_))|refine zp ?_|refine zyn ?_
   refine zec [0] rfl ?_
   refine zef 0 (SlA 33 3 a5 ((rcAt S i).2.length + 1) c5 ((rcAt S i).2.flatMap encMM ++ encMM (w.extract 0 (w.size - 1), (u2.toNat : Int) - 48, false))) rfl (fun g hg => hg) rfl ?_
   repeat (first|refine zck ?_|refine zcl ?_|refine zcm ?_|refine zcn ?_|refine zco ?_)
   have q1 : (rcAt S i).2.length + 1 = (rcAt S (i + 1)).2.length := by rw [hct, List.length_append]; rfl
   have q2 : ((i : Int) + 1) = ((rcAt S (i + 1)).1 : Int) := by rw [hct]; dsimp only; omega
   have q3 : (rcAt S i).2.flatMap encMM ++ encMM (w.extract 0 (w.size - 1), (u2.toNat : Int) - 48, false) = (rcAt S (i + 1)).2.flatMap encMM := by rw [hct, List.flatMap_append]; rfl
   have q4 : [SlA 33 3 a5 ((rcAt S i).2.length + 1) c5 ((rcAt S i).2.flatMap encMM ++ encMM (w.extract 0 (w.size - 1), (u2.toNat : Int) - 48, false))] = [SlA 33 3 a5 (rcAt S (i + 1)).2.length c5 ((rcAt S (i + 1)).2.flatMap encMM)] := by rw [q3, q1]
   repeat' first|refine zyq ?_|(refine zap rfl ?_;refine zau rfl rfl (by omega) ?_)|refine zp ?_|refine zch ?_
   exact zeq ⟨rfl, (i + 1, a5, c5), ⟨congrArg (fun n => Value.slice a5 n c5) q1, rfl, congrArg (fun z : Int => Value.int .i64 z) q2, zes (by dsimp only; omega), trivial⟩, ⟨q4, by dsimp only; omega⟩, by dsimp only; omega⟩
theorem refFind_spec (k : Int) (name : ByteArray) : FnE PP w0 [] 18 [.int .i64 k, .string name] [] (.int .i64 (refFind k name)) [] := by
 have hl10 : (ctMeths k).length ≤ 10 := by
   have h := msK_len k
   rw [← msK_rows k, List.length_map]
   exact h
 obtain ⟨X, hX⟩ : ∃ X, ixM (ctMeths k) name 0 = X := ⟨_, rfl⟩
 unfold refFind
 rw [hX]
 have hme := refMethods_spec w0 k
 generalize ctMeths k = l at *
 refine zep en18 fn18 rfl rfl rfl ?_
 refine zyr ?_
 repeat' refine zp ?_
 all_goals refine zyn ?_
 refine zyr ?_
 repeat' first|(refine zap rfl ?_; (refine zai [] hme rfl rfl rfl zdj ?_; rintro v Γ ⟨a, c, rfl, rfl⟩))|refine zp ?_|refine zyn ?_
 refine run_shareB [0] rfl (fun bl hbl => ?_)
 repeat (first|refine zck ?_|refine zcl ?_|refine zcm ?_|refine zcn ?_|refine zco ?_)
 refine zyr ?_
 repeat' refine zp ?_
 all_goals refine zyn ?_
 refine run_loop (S := Nat) (fun j => [(1, .string name), (5, .slice a l.length c), (6, .int .i64 (j : Int))]) (fun j Γ => Γ = [] ∧ j ≤ l.length ∧ ixM (l.drop j) name j = X) (fun j => l.length - j) 0 ⟨rfl, rfl, rfl, trivial⟩ ⟨rfl, Nat.zero_le _, hX⟩ ?_
 rintro j Γ junk ⟨rfl, g1, g2⟩
 by_cases hj : j < l.length
 · obtain ⟨x, hx⟩ : ∃ x, l[j]? = some x := ⟨_, List.getElem?_eq_getElem hj⟩
   obtain ⟨b, off, cc, T, fr, rfl, e2, _, e4⟩ := hbl.cells hx
   have r0 : ∀ o, o = off + j * 3 + 0 → rd false 1 cc.toList o = some (.string x.1) := fun o ho => e4 0 _ rfl o ho
   rw [ixM_drop hx] at g2
   refine zyr ?_
   repeat' first|(refine zap rfl ?_;first|refine zce rfl ?_|refine zbg rfl rfl (by omega) ?_)|refine zp ?_|refine zyn ?_
   refine zci rfl ?_
   by_cases he : x.1 = name
   · rw [if_pos he] at g2
     subst g2
     refine zyr ?_
     repeat' first|(refine zap rfl ?_;first|refine zad rfl (fun hF Γ w h1 h2 => e2 hF Γ w (fun p hp => h1 p (by simp [hp])) h2) (r0 _ (by omega)) ?_|refine zds rfl rfl he ?_|refine zas rfl rfl (by omega) ?_)|refine zp ?_|refine zyf rfl ?_|refine zyn ?_
     refine zci rfl ?_
     repeat' first|refine zck ?_|refine zyq ?_|refine zp ?_|refine zch ?_
     exact qret1 (fun _ _ h => h) rfl ⟨rfl, rfl⟩
   · rw [if_neg he] at g2
     refine zyr ?_
     repeat' first|(refine zap rfl ?_;first|refine zad rfl (fun hF Γ w h1 h2 => e2 hF Γ w (fun p hp => h1 p (by simp [hp])) h2) (r0 _ (by omega)) ?_|refine zdr rfl rfl he ?_|refine zas rfl rfl (by omega) ?_)|refine zp ?_|refine zyf rfl ?_|refine zyn ?_
     refine zcj rfl ?_
     repeat' first|refine zcm ?_|refine zcn ?_|refine zyq ?_|(refine zap rfl ?_;refine zau rfl rfl (by omega) ?_)|refine zp ?_|refine zch ?_
     exact zeq ⟨rfl, j + 1, ⟨rfl, rfl, zes (by omega), trivial⟩, ⟨rfl, by omega, g2⟩, by omega⟩
 · rw [List.drop_of_length_le (by omega), ixM] at g2
   subst g2
   refine zyr ?_
   repeat' first|(refine zap rfl ?_;first|refine zce rfl ?_|refine zbh rfl rfl (by omega) ?_)|refine zp ?_|refine zyn ?_
   refine zcj rfl ?_
   refine zer rfl rfl ?_
   repeat' first|refine zck ?_|refine zyq ?_|refine zp ?_|refine zch ?_
   exact zej rfl ⟨rfl, rfl⟩
set_option maxHeartbeats 16000000
theorem awake_spec : FnE PP w0 [] 8 [] [] (.bool true) [] := by
 have hpl := zez w0
 have r2 := root_spec w0 2 false (by decide)
 have r4 := root_spec w0 4 false (by decide)
 refine zep en8 fn8 rfl rfl rfl ?_
 refine zyr ?_
 repeat' refine zp ?_
 all_goals refine zyn ?_
 refine zyr ?_
 repeat' first|(refine zap rfl ?_; (refine zai [] (empty_spec w0) rfl rfl rfl zdj ?_; rintro v Γ ⟨p, s0, rfl, rfl, h0⟩))|refine zp ?_|refine zyn ?_
 refine zyr ?_
 repeat' (refine zap rfl ?_;first|refine zar (fun t3 => ?_)|refine zah [] r2 rfl rfl rfl zdj rfl ?_|refine zah [] r4 rfl rfl rfl zdj rfl ?_|refine zae 1 rfl rfl rfl rfl rfl rfl rfl ?_|refine zae 2 rfl rfl rfl rfl rfl rfl rfl ?_)
 all_goals refine zyn ?_
 refine zeb [1] rfl ?_
 refine zeb [1] rfl ?_
 repeat (first|refine zck ?_|refine zcl ?_|refine zcm ?_|refine zcn ?_|refine zco ?_)
 refine zyx ?_
 first|refine zcp (by kernel_rfl) ?_|refine zcr [(.quiet, 0), (.loud, 1), (.quiet, 2), (.loud, 3), (.loud, 4), (.quiet, 5), (.quiet, 6), (.quiet, 7), (.quiet, 8), (.quiet, 9)] PP_mixed (by kernel_rfl) (by kernel_rfl) ?_|refine zeh PP_mixed (by kernel_rfl) (by kernel_rfl) ?_
 repeat' first|(refine zap rfl ?_;first|refine zdt rfl rfl rfl rfl rfl rfl (fun nb => ?_)|refine zah [] hpl rfl rfl rfl zdj rfl ?_|(refine zai [1, 0] (aw0_spec w0 p _ s0 h0) rfl rfl rfl zdj ?_; rintro v Γ ⟨rfl, s1, rfl, h1⟩))|refine zp ?_|refine zyl 1 rfl ?_|refine zyn ?_
 refine zec [0] rfl ?_
 repeat (first|refine zck ?_|refine zcl ?_|refine zcm ?_|refine zcn ?_|refine zco ?_)
 refine zyx ?_
 first|refine zcp (by kernel_rfl) ?_|refine zcr [(.quiet, 0), (.loud, 1), (.quiet, 2), (.loud, 3), (.loud, 4), (.quiet, 5), (.quiet, 6), (.quiet, 7), (.quiet, 8), (.quiet, 9)] PP_mixed (by kernel_rfl) (by kernel_rfl) ?_|refine zeh PP_mixed (by kernel_rfl) (by kernel_rfl) ?_
 repeat' first|(refine zap rfl ?_;first|refine zdt rfl rfl rfl rfl rfl rfl (fun nb => ?_)|refine zah [] hpl rfl rfl rfl zdj rfl ?_|(refine zai [1, 0] (aw1_spec w0 p _ s1 h1) rfl rfl rfl zdj ?_; rintro v Γ ⟨rfl, s2, rfl, h2⟩))|refine zp ?_|refine zyl 1 rfl ?_|refine zyn ?_
 refine zec [0] rfl ?_
 repeat (first|refine zck ?_|refine zcl ?_|refine zcm ?_|refine zcn ?_|refine zco ?_)
 refine zyx ?_
 first|refine zcp (by kernel_rfl) ?_|refine zcr [(.quiet, 0), (.loud, 1), (.quiet, 2), (.loud, 3), (.quiet, 4), (.quiet, 5), (.quiet, 6), (.quiet, 7), (.quiet, 8)] PP_mixed (by kernel_rfl) (by kernel_rfl) ?_|refine zeh PP_mixed (by kernel_rfl) (by kernel_rfl) ?_
 repeat' first|(refine zap rfl ?_;first|refine zah [] hpl rfl rfl rfl zdj rfl ?_|(refine zai [0] (aw2_spec w0 p s2 h2) rfl rfl rfl zdj ?_; rintro v Γ ⟨rfl, s3, rfl, h3⟩))|refine zp ?_|refine zyl 1 rfl ?_|refine zyn ?_
 first|refine zcp (by kernel_rfl) ?_|refine zcr [(.quiet, 0), (.loud, 1), (.quiet, 2), (.loud, 3), (.quiet, 4), (.quiet, 5), (.quiet, 6), (.quiet, 7), (.quiet, 8)] PP_mixed (by kernel_rfl) (by kernel_rfl) ?_|refine zeh PP_mixed (by kernel_rfl) (by kernel_rfl) ?_
 repeat' first|(refine zap rfl ?_;first|refine zah [] hpl rfl rfl rfl zdj rfl ?_|(refine zai [0] (aw3_spec w0 p s3 h3) rfl rfl rfl zdj ?_; rintro v Γ ⟨rfl, s4, rfl, h4⟩))|refine zp ?_|refine zyl 1 rfl ?_|refine zyn ?_
 first|refine zcp (by kernel_rfl) ?_|refine zcr [(.quiet, 0), (.loud, 1), (.quiet, 2), (.loud, 3), (.quiet, 4), (.quiet, 5), (.quiet, 6), (.quiet, 7), (.quiet, 8)] PP_mixed (by kernel_rfl) (by kernel_rfl) ?_|refine zeh PP_mixed (by kernel_rfl) (by kernel_rfl) ?_
 repeat' first|(refine zap rfl ?_;first|refine zah [] hpl rfl rfl rfl zdj rfl ?_|(refine zai [0] (aw4_spec w0 p s4 h4) rfl rfl rfl zdj ?_; rintro v Γ ⟨rfl, s5, rfl, h5⟩))|refine zp ?_|refine zyl 1 rfl ?_|refine zyn ?_
 first|refine zcp (by kernel_rfl) ?_|refine zcr [(.quiet, 0), (.loud, 1), (.quiet, 2), (.loud, 3), (.loud, 4), (.quiet, 5), (.quiet, 6), (.quiet, 7), (.quiet, 8), (.quiet, 9)] PP_mixed (by kernel_rfl) (by kernel_rfl) ?_|refine zeh PP_mixed (by kernel_rfl) (by kernel_rfl) ?_
 repeat' first|(refine zap rfl ?_;first|refine zdt rfl rfl rfl rfl rfl rfl (fun nb => ?_)|refine zah [] hpl rfl rfl rfl zdj rfl ?_|(refine zai [1, 0] (aw5_spec w0 p _ s5 h5) rfl rfl rfl zdj ?_; rintro v Γ ⟨rfl, s6, rfl, h6⟩))|refine zp ?_|refine zyl 0 rfl ?_|refine zyn ?_
 refine zec [0] rfl ?_
 repeat (first|refine zck ?_|refine zcl ?_|refine zcm ?_|refine zcn ?_|refine zco ?_)
 refine zyx ?_
 first|refine zcp (by kernel_rfl) ?_|refine zcr [(.quiet, 0), (.loud, 1), (.quiet, 2), (.loud, 3), (.loud, 4), (.quiet, 5), (.quiet, 6), (.quiet, 7), (.quiet, 8), (.quiet, 9)] PP_mixed (by kernel_rfl) (by kernel_rfl) ?_|refine zeh PP_mixed (by kernel_rfl) (by kernel_rfl) ?_
 repeat' first|(refine zap rfl ?_;first|refine zdt rfl rfl rfl rfl rfl rfl (fun nb => ?_)|refine zah [] hpl rfl rfl rfl zdj rfl ?_|(refine zai [1, 0] (aw6_spec w0 p _ s6 h6) rfl rfl rfl zdj ?_; rintro v Γ ⟨rfl, s7, rfl, h7⟩))|refine zp ?_|refine zyl 0 rfl ?_|refine zyn ?_
 refine zec [0] rfl ?_
 repeat (first|refine zck ?_|refine zcl ?_|refine zcm ?_|refine zcn ?_|refine zco ?_)
 refine zyx ?_
 first|refine zcp (by kernel_rfl) ?_|refine zcr [(.quiet, 0), (.loud, 1), (.quiet, 2), (.loud, 3), (.loud, 4), (.quiet, 5), (.quiet, 6), (.quiet, 7), (.quiet, 8), (.quiet, 9)] PP_mixed (by kernel_rfl) (by kernel_rfl) ?_|refine zeh PP_mixed (by kernel_rfl) (by kernel_rfl) ?_
 repeat' first|(refine zap rfl ?_;first|refine zdt rfl rfl rfl rfl rfl rfl (fun nb => ?_)|refine zah [] hpl rfl rfl rfl zdj rfl ?_|(refine zai [1, 0] (aw7_spec w0 p _ s7 h7) rfl rfl rfl zdj ?_; rintro v Γ ⟨rfl, s8, rfl, h8⟩))|refine zp ?_|refine zyl 0 rfl ?_|refine zyn ?_
 refine zec [] rfl ?_
 repeat (first|refine zck ?_|refine zcl ?_|refine zcm ?_|refine zcn ?_|refine zco ?_)
 refine run_slots [(4, .int .i64 0), (5, .int .i64 0), (6, .int .i64 0), (7, .int .i64 0), (8, .int .i64 5), (9, .int .i64 0), (10, .int .i64 1), (11, .int .i64 0), (12, .int .i64 6), (13, .int .i64 0), (14, .int .i64 0), (15, .int .i64 0), (16, .int .i64 1), (17, .int .i64 0), (18, .int .i64 0), (19, .int .i64 10)] ⟨rfl, rfl, rfl, rfl, rfl, rfl, rfl, rfl, rfl, rfl, rfl, rfl, rfl, rfl, rfl, rfl, trivial⟩ (fun junk => ?_)
 repeat' first|refine zyq ?_|(refine zap rfl ?_;first|refine zaj rfl ?_|refine zbc rfl rfl (by omega) ?_|refine zbu rfl ?_)|refine zp ?_|refine zch ?_
 exact zej rfl ⟨rfl, rfl⟩
end Go.Proofs.YtgdhcgnmffgkiaaGreatDoor
namespace Sim
open Go Go.Vc
theorem ctName_ne : ∀ k : Nat, k < 10 → ctName (k : Int) ≠ bs [] := by decide +kernel
end Sim
namespace Go.Vc
section
variable {P : Program} {w0 : World} {n : Nat} {sh : Shared} {Q : Exit → Env → List Deferred → List Asn → Prop} {k : List Item} {ρ : Env} {df : List Deferred} {Γ : List Asn}
variable {ops : Array Oper} {l : List (Fl × Nat × Oper)} {b : Fl} {i d : Nat} {ty t yt : TypeId} {pos : String} {aft : Array Edge} {x y : Operand}
end
end Go.Vc
namespace Go.Proofs.YtgdhcgnmffgkiaaGreatDoor
open Go.Vc Sim
set_option maxHeartbeats 4000000
variable (w0 : World)
set_option maxRecDepth 20000
theorem refFind_cases (k : Int) (name : ByteArray) : (refFind k name = -1 ∧ ((msK k).find? fun m => decide (m.1.1 = name)) = none) ∨
   ∃ (j : Nat) (m : MRow), refFind k name = (j : Int) ∧ (ctMeths k)[j]? = some m.1 ∧ m.1.1 = name ∧ ((msK k).find? fun m => decide (m.1.1 = name)) = some m := by
 have h := ixM_find (ctMeths k) name 0
 have hrow : (ctMeths k).find? (fun m => decide (m.1 = name)) = ((msK k).find? fun m => decide (m.1.1 = name)).map (·.1) := by
   rw [← msK_rows k, List.find?_map]
   rfl
 unfold refFind
 cases hx : ixM (ctMeths k) name 0 with
 | none =>
   have h1 := h.1 hx
   rw [hrow] at h1
   exact .inl ⟨rfl, by simpa using h1⟩
 | some j =>
   obtain ⟨_, m, hm, hf⟩ := h.2 j hx
   rw [hrow] at hf
   cases hq : (msK k).find? (fun m => decide (m.1.1 = name)) with
   | none => rw [hq] at hf; cases hf
   | some M =>
     rw [hq] at hf
     have hM : M.1 = m := Option.some.inj hf
     refine .inr ⟨j, M, rfl, by rw [hM]; exact hm, ?_, rfl⟩
     have := List.find?_some hq
     exact of_decide_eq_true this
theorem catalogRefuses_spec (hw : PowOk w0) (sh : Shared) (k r : Int) (hr : Any r) (name : ByteArray) (l : List Int) (a : Option Addr) (c : Nat) (hl : RdSl w0 sh encI 1 (.slice a l.length c) l) :
   FnE PP w0 sh 4 [rootV k r, .string name, .slice a l.length c] [] (.bool true) [] := by
 have haw := awake_spec w0
 have hpl := zez w0
 have hrf := refFind_spec w0 k name
 have hme := refMethods_spec w0 k
 have hml : (ctMeths k).length ≤ 10 := by
   have h := msK_len k
   rw [← msK_rows k, List.length_map]
   exact h
 refine zep en4 fn4 rfl rfl rfl ?_
 refine zyr ?_
 repeat' first|(refine zap rfl ?_;refine zaq (cs := [_, _]) rfl (fun tb => ?_))|refine zp ?_|refine zyn ?_
 refine zeb [0] rfl ?_
 refine zyr ?_
 repeat' (refine zap rfl ?_;first|refine zbx rfl ?_|refine zah [] haw rfl rfl rfl zdj rfl ?_)
 all_goals refine zyn ?_
 refine zcj rfl ?_
 by_cases h20 : 20 < l.length
 · repeat' first|refine zck ?_|refine zcm ?_|refine zyq ?_|(refine zap rfl ?_;first|refine zak rfl ?_|refine zce rfl ?_|refine zbk rfl rfl (by omega) ?_|refine zbu rfl ?_)|refine zp ?_|refine zch ?_|refine zci rfl ?_
   exact zej rfl ⟨rfl, rfl⟩
 by_cases hn : 100 < name.size
 · repeat' first|refine zck ?_|refine zcm ?_|refine zyq ?_|(refine zap rfl ?_;first|refine zaj rfl ?_|refine zce rfl ?_|refine zdy rfl ?_|refine zbk rfl rfl (by omega) ?_|refine zbl rfl rfl (by omega) ?_|refine zbv rfl ?_)|refine zp ?_|refine zch ?_|refine zci rfl ?_
   exact zej rfl ⟨rfl, rfl⟩
 refine zyr ?_
 repeat' first|(refine zap rfl ?_;first|refine zaj rfl ?_|refine zce rfl ?_|refine zdy rfl ?_|refine zbl rfl rfl (by omega) ?_|refine zbv rfl ?_)|refine zp ?_|refine zyn ?_
 refine zcj rfl ?_
 repeat (first|refine zck ?_|refine zcl ?_|refine zcm ?_|refine zcn ?_|refine zco ?_)
 refine zyr ?_
 repeat' first|(refine zap rfl ?_;refine zai [] (empty_spec w0) rfl rfl rfl zdj (fun | _, _, ⟨p, s, rfl, rfl, hs⟩ => ?_))|refine zp ?_|refine zyn ?_
 have hp0 : s.puts = [] := hs.puts
 have hmk := mark_spec w0 p s
 rw [hp0, show (([] : List (Int × Int)).length : Int) = 0 from rfl] at hmk
 have hfew : Few s := by unfold Few; rw [hp0]; exact Nat.zero_le _
 by_cases hk : k < 0 ∨ 9 < k
 · have hDo := doKind w0 sh p awP k r name a l.length c (by unfold ctName; rw [if_neg (by omega)]) s
   by_cases h0 : k < 0
   · repeat' first|refine zck ?_|refine zcl ?_|refine zcn ?_|refine zyq ?_|(refine zap rfl ?_;first|refine zaj rfl ?_|refine zak rfl ?_|refine zah [] hpl rfl rfl rfl zdj rfl ?_|refine zah [0] hDo rfl rfl rfl (fun p hp => .tail _ hp) rfl ?_|refine zah [] hrf rfl rfl rfl zdj rfl ?_|refine zah [0] hmk rfl rfl rfl zdj rfl ?_|refine zbc rfl rfl (by omega) ?_|refine zbg rfl rfl (by omega) ?_|refine zbu rfl ?_)|refine zp ?_|refine zyl 0 rfl ?_|refine zyf rfl ?_|refine zch ?_|refine zci rfl ?_
     refine zec [] rfl ?_
     exact zej rfl ⟨rfl, rfl⟩
   · repeat' first|refine zck ?_|refine zcl ?_|refine zcn ?_|refine zyq ?_|(refine zap rfl ?_;first|refine zaj rfl ?_|refine zah [] hpl rfl rfl rfl zdj rfl ?_|refine zah [0] hDo rfl rfl rfl (fun p hp => .tail _ hp) rfl ?_|refine zah [] hrf rfl rfl rfl zdj rfl ?_|refine zah [0] hmk rfl rfl rfl zdj rfl ?_|refine zbc rfl rfl (by omega) ?_|refine zbh rfl rfl (by omega) ?_|refine zbk rfl rfl (by omega) ?_|refine zbu rfl ?_|refine zbv rfl ?_)|refine zp ?_|refine zyl 0 rfl ?_|refine zyf rfl ?_|refine zch ?_|refine zci rfl ?_
     refine zec [] rfl ?_
     exact zej rfl ⟨rfl, rfl⟩
 have hne : ctName k ≠ bs [] := by
   obtain ⟨q, rfl⟩ : ∃ q : Nat, k = (q : Int) := ⟨k.toNat, by omega⟩
   exact ctName_ne q (by omega)
 rcases refFind_cases k name with ⟨e1, e2⟩ | ⟨j, m, e1, e2, e3, e4⟩
 · have hDo := doName w0 sh p awP k r name a l.length c hne e2 s
   rw [e1] at hrf
   repeat' first|refine zck ?_|refine zcl ?_|refine zcn ?_|refine zyq ?_|(refine zap rfl ?_;first|refine zaj rfl ?_|refine zah [] hpl rfl rfl rfl zdj rfl ?_|refine zah [0] hDo rfl rfl rfl (fun p hp => .tail _ hp) rfl ?_|refine zah [] hrf rfl rfl rfl zdj rfl ?_|refine zah [0] hmk rfl rfl rfl zdj rfl ?_|refine zbc rfl rfl (by omega) ?_|refine zbg rfl rfl (by omega) ?_|refine zbh rfl rfl (by omega) ?_|refine zbl rfl rfl (by omega) ?_|refine zbu rfl ?_|refine zbv rfl ?_)|refine zp ?_|refine zyl 0 rfl ?_|refine zyf rfl ?_|refine zch ?_|refine zci rfl ?_|refine zcj rfl ?_
   refine zec [] rfl ?_
   exact zej rfl ⟨rfl, rfl⟩
 rw [e1] at hrf
 have hjl : j < (ctMeths k).length := (List.getElem?_eq_some_iff.1 e2).1
 have hDo : ∃ q s', FnE PP w0 sh 13 [spP p, poolV awP, rootV k r, .string name, .slice a l.length c] [SpaceA p s] (encI2 q) [SpaceA p s'] ∧ (m.1.2.1 ≠ (l.length : Int) → q = (0, 1) ∧ s' = s) := by
   by_cases hlen : (l.length : Int) = m.1.2.1
   · obtain ⟨q, s', h⟩ := mrs_all w0 hw k (by omega) r hr j m.1 e2 sh p s l a c hfew hlen hl
     rw [e3] at h
     exact ⟨q, s', h, fun h2 => absurd hlen.symm h2⟩
   · exact ⟨_, _, doArg w0 sh p awP k r name a l.length c m e4 hne (fun h => hlen h.symm) s, fun _ => ⟨rfl, rfl⟩⟩
 obtain ⟨⟨v, e⟩, s', hDo, hbad⟩ := hDo
 generalize hL : (ctMeths k).length = L at hme hml hjl
 have hme := hme.know (R' := fun v Γ => ∃ b off cm, v = .slice (some ⟨b, off, none⟩) L cm ∧ Γ = [Rds fun bl => RdSl w0 bl encMM 3 (.slice (some ⟨b, off, none⟩) L cm) (ctMeths k)]) (fun v Γ' ⟨am, cm, h1, h2⟩ hst => by
   subst h1; subst h2
   obtain ⟨bl, hb⟩ := Rds.st hst
   obtain ⟨b, off, cc, T, fr, rfl, _⟩ := hb.cells e2
   exact ⟨b, off, cm, rfl, rfl⟩)
 obtain ⟨⟨mn, ma, mw⟩, mf⟩ := m
 dsimp only at e2 hbad
 refine zyr ?_
 repeat' first|(refine zap rfl ?_;first|refine zah [] hpl rfl rfl rfl zdj rfl ?_|refine zah [0] hDo rfl rfl rfl (fun p hp => .tail _ hp) rfl ?_)|refine zp ?_|refine zyl 0 rfl ?_|refine zyn ?_
 refine zyr ?_
 repeat' first|(refine zap rfl ?_;refine zah [] hrf rfl rfl rfl zdj rfl ?_)|refine zp ?_|refine zyl 0 rfl ?_|refine zyf rfl ?_|refine zyn ?_
 refine zyr ?_
 repeat' refine zp ?_
 all_goals refine zyn ?_
 refine zyr ?_
 repeat' first|(refine zap rfl ?_;first|refine zaj rfl ?_|refine zbh rfl rfl (by omega) ?_|refine zbl rfl rfl (by omega) ?_|refine zbv rfl ?_)|refine zp ?_|refine zyl 0 rfl ?_|refine zyf rfl ?_|refine zyn ?_
 refine zcj rfl ?_
 refine zyr ?_
 repeat' first|(refine zap rfl ?_;refine zbh rfl rfl (by omega) ?_)|refine zp ?_|refine zyn ?_
 refine zcj rfl ?_
 by_cases hlen : ma = (l.length : Int)
 · repeat (first|refine zck ?_|refine zcl ?_|refine zcm ?_|refine zcn ?_)
   refine zyr ?_
   repeat' first|(refine zap rfl ?_;first|refine reg_load_rds 0 rfl rfl (fun bl hb => by obtain ⟨b', off', cc, T, fr, e, q2, _, q4⟩ := hb.cells e2; cases e; exact ⟨cc, T, fr, q2, q4 1 _ rfl _ (by omega)⟩) ?_|refine zce rfl ?_|refine zai [] hme rfl rfl rfl zdj (fun | _, _, ⟨b, off, cm, rfl, rfl⟩ => ?_)|refine zbf rfl rfl (by omega) ?_|refine zas rfl rfl (by omega) ?_)|refine zp ?_|refine zyl 0 rfl ?_|refine zyf rfl ?_|refine zyn ?_
   refine zcj rfl ?_
   repeat' first|refine zck ?_|refine zyq ?_|refine zp ?_|refine zch ?_
   refine zec [] rfl ?_
   exact zej rfl ⟨rfl, rfl⟩
 · repeat (first|refine zck ?_|refine zcl ?_|refine zcm ?_|refine zcn ?_)
   refine zyr ?_
   repeat' first|(refine zap rfl ?_;first|refine reg_load_rds 0 rfl rfl (fun bl hb => by obtain ⟨b', off', cc, T, fr, e, q2, _, q4⟩ := hb.cells e2; cases e; exact ⟨cc, T, fr, q2, q4 1 _ rfl _ (by omega)⟩) ?_|refine zce rfl ?_|refine zai [] hme rfl rfl rfl zdj (fun | _, _, ⟨b, off, cm, rfl, rfl⟩ => ?_)|refine zbe rfl rfl (by omega) ?_|refine zas rfl rfl (by omega) ?_)|refine zp ?_|refine zyl 0 rfl ?_|refine zyf rfl ?_|refine zyn ?_
   refine zci rfl ?_
   obtain ⟨hq, hss⟩ := hbad hlen
   cases hq
   subst hss
   repeat' first|refine zck ?_|refine zcn ?_|refine zyq ?_|(refine zap rfl ?_;first|refine zaj rfl ?_|refine zah [1] hmk rfl rfl rfl zdj rfl ?_|refine zbc rfl rfl (by omega) ?_|refine zbu rfl ?_)|refine zp ?_|refine zch ?_
   refine zec [] rfl ?_
   exact zej rfl ⟨rfl, rfl⟩
end Go.Proofs.YtgdhcgnmffgkiaaGreatDoor
namespace Go.Proofs.YtgdhcgnmffgkiaaGreatDoor
open Go.Vc Sim Go.ChangeShapes Go.WideShapes Go.RowKit
set_option maxRecDepth 100000
theorem gPow : Tryz.prog.globalNamed nPow = some 0 := by kernel_rfl
theorem tPow : (Tryz.prog.globals[0]?).map (·.type) = some 216 := by kernel_rfl
theorem laid_eq : (Rows.laid_simulcast_array_powers : DataW Unit) = Lib.tabData .i64 [1, 8, 64, 512, 4096] := rfl
theorem pow_ok {W : World} (h : laidMetH Tryz.prog lPow W) : PowOk W := by
 rw [MakeChecks.laidMetH_plain _ _ _ (by kernel_rfl), lPow, laid_eq] at h
 have hT := Lib.tabIs_of_head gPow tPow Tryz.underlying216 Tryz.underlying2 (by kernel_rfl) (by kernel_rfl) h
 unfold Lib.TabIs World.var? at hT
 rw [gPow] at hT
 simp only [Option.bind_some] at hT
 split at hT
 · rename_i cs T fr hc
   cases hT
   exact ⟨T, fr, hc⟩
 · cases hT
theorem in_i64 {H : Type} {enc : TypeId × Value → H} {w : World} {base : Nat} {spare : Nat → Bool} {held : Bool} {n : Nat} {cs : List Value} {y : DataW H × List MemPlace}
   (h : DataW.trod enc Tryz.prog w base spare held n 2 cs = some y) : ∃ x : Int, Any x ∧ cs = encI x := by
 obtain ⟨k, e, _, wk⟩ := DataW.trod_int Tryz.underlying2 h
 exact ⟨k, wf_i64 wk, e⟩
theorem in_root {H : Type} {enc : TypeId × Value → H} {w : World} {base : Nat} {spare : Nat → Bool} {held : Bool} {r : Reach} {b0 : Nat} {v : Value} {d : DataW H} {ps : List MemPlace}
   (hval : Value.okWide Tryz.prog w r b0 36 v) (h : DataW.Trod enc Tryz.prog w base spare held 36 v d ps) : ∃ k x : Int, v = rootV k x ∧ Any x := by
 obtain ⟨fuel, hf⟩ := h
 simp only [Value.okWide, Tryz.underlying36] at hval
 obtain ⟨cs, rfl, _⟩ := hval
 obtain ⟨xs, n', _, _, hlen, hxl, hf⟩ := DataW.trod_struct Tryz.underlying36 hf
 have c0 : Tryz.prog.cellsOf 3 = 1 := by kernel_rfl
 have c1 : Tryz.prog.cellsOf 34 = 1 := by kernel_rfl
 have cT : Tryz.prog.cellsOf 36 = 2 := by kernel_rfl
 rw [cT] at hlen
 have hlen : cs.toList.length = 2 := hlen
 obtain ⟨L, hL⟩ : ∃ L, cs.toList = L := ⟨_, rfl⟩
 have f0 : DataW.trod enc Tryz.prog w base spare held n' 3 ((cs.toList.drop 0).take (Tryz.prog.cellsOf 3)) = xs[0]? := hf 0 _ rfl
 have f1 : DataW.trod enc Tryz.prog w base spare held n' 34 ((cs.toList.drop 1).take (Tryz.prog.cellsOf 34)) = xs[1]? := hf 1 _ rfl
 rw [c0] at f0
 rw [c1] at f1
 rw [hL] at f0 f1 hlen
 have hv : cs = List.toArray L := by rw [← hL]
 subst hv
 match L, hlen with
 | [a0, a1], _ =>
   match xs, hxl with
   | [y0, y1], _ =>
     obtain ⟨k0, e0, _, w0⟩ := DataW.trod_int Tryz.underlying3 (show DataW.trod _ _ _ _ _ _ n' _ [a0] = some y0 from f0)
     obtain ⟨k1, e1, _, w1⟩ := DataW.trod_int Tryz.underlying34 (show DataW.trod _ _ _ _ _ _ n' _ [a1] = some y1 from f1)
     simp only [List.cons.injEq, and_true] at e0 e1
     subst e0; subst e1
     exact ⟨k0, k1, rfl, wf_i64 w1⟩
end Go.Proofs.YtgdhcgnmffgkiaaGreatDoor
