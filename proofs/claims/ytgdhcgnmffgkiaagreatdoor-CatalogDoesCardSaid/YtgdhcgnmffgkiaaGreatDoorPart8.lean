import Derived.Test.YtgdhcgnmffgkiaaGreatDoorPart7
import Derived.Test.YtgdhcgnmffgkiaaGreatDoorPart2
import Derived.Test.YtgdhcgnmffgkiaaGreatDoorKitA
/- Own work: lemmas of this claim. -/
namespace Go.Proofs.YtgdhcgnmffgkiaaGreatDoor
variable (w0 : World)
open Go.Vc Sim
set_option maxHeartbeats 4000000
abbrev rootV (k r : Int) : Value := .agg (List.toArray [.int .i64 k, .int .i64 r])
abbrev threeV (x y z : Int) : Value := .agg (List.toArray [.int .i64 x, .int .i64 y, .int .i64 z])
theorem lfound_spec (v : Int) (b : Bool) : FnE PP w0 [] 59 [.int .i64 v, .bool b] [] (encI2 (if b = true then (v, 0) else (0, 10))) [] := by
 cases b <;>
 · refine zep en59 fn59 rfl rfl rfl ?_
   repeat' first|refine zck ?_|refine zcm ?_|refine zyq ?_|(refine zap rfl ?_;refine zbx rfl ?_)|refine zp ?_|refine zch ?_|refine zci rfl ?_|refine zcj rfl ?_
   exact zei rfl ⟨rfl, rfl⟩
theorem one_spec (b : Bool) : FnE PP w0 [] 61 [.bool b] [] (.int .i64 (if b = true then 1 else 0)) [] := by
 cases b <;>
 · refine zep en61 fn61 rfl rfl rfl ?_
   repeat' first|refine zck ?_|refine zcm ?_|refine zyq ?_|refine zp ?_|refine zch ?_|refine zci rfl ?_|refine zcj rfl ?_
   exact zej rfl ⟨rfl, rfl⟩
theorem had_spec (v : Int) (b : Bool) (e : Int) : FnE PP w0 [] 62 [.int .i64 v, .bool b, .int .i64 e] [] (encI2 (if e ≠ 0 then (0, e) else if b = true then (v, 0) else (0, 10))) [] := by
 refine zep en62 fn62 rfl rfl rfl ?_
 refine zyr ?_
 repeat' refine zp ?_
 all_goals refine zyn ?_
 refine zyr ?_
 repeat' first|(refine zap rfl ?_;refine zbp rfl rfl ?_)|refine zp ?_|refine zyn ?_
 refine zed rfl (fun h => ?_) (fun h => ?_)
 · rw [if_pos h]
   repeat' first|refine zck ?_|refine zyq ?_|refine zp ?_|refine zch ?_
   exact zei rfl ⟨rfl, rfl⟩
 · rw [if_neg h]
   repeat' first|refine zck ?_|refine zcm ?_|refine zyq ?_|(refine zap rfl ?_;refine zah [] (lfound_spec w0 v b) rfl rfl rfl zdj rfl ?_)|refine zp ?_|refine zch ?_
   cases b <;> exact zei rfl ⟨rfl, rfl⟩
theorem many_spec42 (n e : Int) : FnE PP w0 [] 92 [.int .i64 n, .int .i64 e] [] (encI2 (if e ≠ 0 then (0, e) else (n, e))) [] := by
 refine zep en92 fn92 rfl rfl rfl ?_
 refine zyr ?_
 repeat' refine zp ?_
 all_goals refine zyn ?_
 refine zyr ?_
 repeat' first|(refine zap rfl ?_;refine zbp rfl rfl ?_)|refine zp ?_|refine zyn ?_
 refine zed rfl (fun h => ?_) (fun h => ?_)
 · rw [if_pos h]
   repeat' first|refine zck ?_|refine zyq ?_|refine zp ?_|refine zch ?_
   exact zei rfl ⟨rfl, rfl⟩
 · rw [if_neg h]
   have h : e = 0 := by omega
   subst h
   repeat' first|refine zck ?_|refine zcm ?_|refine zyq ?_|refine zp ?_|refine zch ?_
   exact zei rfl ⟨rfl, rfl⟩
abbrev sctV (P : Pl) (r : Int) : Value := .agg (List.toArray [.int .i64 P.root, .int .i64 P.frm, .int .i64 P.nodes, .int .i64 r])
theorem give_spec (p : Nat) (P : Pl) (hP : P.Ok) (s : Sp) (a : Int) (hsm : Sm s 3) : FnE PP w0 [] 114 [poolV P, spP p, .int .i64 a] [SpaceA p s] (.int .i64 (P.give s a).1) [SpaceA p (P.give s a).2] := by
 obtain ⟨_, h1, h2, h3, h4, h5, h6⟩ := id hP
 refine zep en114 fn114 rfl rfl rfl ?_
 refine zyr ?_
 repeat' first|(refine zap rfl ?_;refine zaq (cs := [_, _, _]) rfl (fun nb => ?_))|refine zp ?_|refine zyn ?_
 refine zeb [1] rfl ?_
 repeat' first|refine zck ?_|refine zyq ?_|(refine zap rfl ?_;first|refine zah [] (node_spec w0 P hP _) rfl rfl rfl zdj rfl ?_|refine zbx rfl ?_)|refine zp ?_|refine zyl 0 rfl ?_|refine zch ?_
 refine zee rfl (fun hE => ?_) (fun hE => ?_)
 · have hE : P.node a = false := by simpa using hE
   repeat' first|refine zck ?_|refine zyq ?_|refine zp ?_|refine zch ?_
   have e : P.give s a = (1, s) := by simp [Pl.give, hE]
   rw [e]
   exact zej rfl ⟨rfl, rfl⟩
 · have hE : P.node a = true := by simpa using hE
   repeat' first|refine zck ?_|refine zcm ?_|refine zyq ?_|(refine zap rfl ?_;first|refine zah [0] (getS w0 p _ _ (by first|exact hsm.mono (by decide) | (repeat (first|refine sm_get ?_|refine sm_put ?_)); exact hsm.mono (by decide))) rfl rfl rfl zdj rfl ?_|refine zah [0] (putS w0 p _ _ _ (by first|exact hsm.mono (by decide) | (repeat (first|refine sm_get ?_|refine sm_put ?_)); exact hsm.mono (by decide))) rfl rfl rfl zdj rfl ?_|refine zah [0] (add_spec w0 p P hP _ _ _ (by decide) (by first|exact hsm.mono (by decide) | (repeat (first|refine sm_get ?_|refine sm_put ?_)); exact hsm.mono (by decide))) rfl rfl rfl zdj rfl ?_)|refine zp ?_|refine zyl 0 rfl ?_|refine zyf rfl ?_|refine zch ?_
   have e : P.give s a = (0, P.add (((s.get P.root).2.put a (s.get P.root).1).put P.root a) 2 1) := by simp [Pl.give, hE]
   rw [e]
   exact zej rfl ⟨rfl, rfl⟩
theorem take_spec (p : Nat) (P : Pl) (hP : P.Ok) (s : Sp) (hsm : Sm s 2) : FnE PP w0 [] 111 [poolV P, spP p] [SpaceA p s] (.tuple #[.int .i64 (P.take s).1, .int .i64 (P.take s).2.1]) [SpaceA p (P.take s).2.2] := by
 obtain ⟨_, h1, h2, h3, h4, h5, h6⟩ := id hP
 refine zep en111 fn111 rfl rfl rfl ?_
 refine zyr ?_
 repeat' first|(refine zap rfl ?_;refine zaq (cs := [_, _, _]) rfl (fun nb => ?_))|refine zp ?_|refine zyn ?_
 refine zeb [1] rfl ?_
 repeat' first|refine zck ?_|refine zcm ?_|refine zyq ?_|(refine zap rfl ?_;first|refine zah [] (check_spec w0 P hP) rfl rfl rfl zdj rfl ?_|refine zah [0] (getS w0 p _ _ (by first|exact hsm.mono (by decide) | (repeat (first|refine sm_get ?_|refine sm_put ?_)); exact hsm.mono (by decide))) rfl rfl rfl zdj rfl ?_|refine zbp rfl rfl ?_)|refine zp ?_|refine zyl 0 rfl ?_|refine zyf rfl ?_|refine zch ?_|refine zcj rfl ?_
 refine zed rfl (fun hE => ?_) (fun hE => ?_)
 · repeat' first|refine zck ?_|refine zyq ?_|(refine zap rfl ?_;first|refine zah [] (node_spec w0 P hP _) rfl rfl rfl zdj rfl ?_|refine zbx rfl ?_)|refine zp ?_|refine zyl 0 rfl ?_|refine zch ?_
   refine zee rfl (fun hN => ?_) (fun hN => ?_)
   · have hN : P.node (s.get P.root).1 = false := by simpa using hN
     repeat' first|refine zck ?_|refine zyq ?_|refine zp ?_|refine zch ?_
     have e : P.take s = (0, 24, (s.get P.root).2) := by simp [Pl.take, hE, hN]
     rw [e]
     exact zei rfl ⟨rfl, rfl⟩
   · have hN : P.node (s.get P.root).1 = true := by simpa using hN
     repeat' first|refine zck ?_|refine zcm ?_|refine zyq ?_|(refine zap rfl ?_;first|refine zah [0] (getS w0 p _ _ (by first|exact hsm.mono (by decide) | (repeat (first|refine sm_get ?_|refine sm_put ?_)); exact hsm.mono (by decide))) rfl rfl rfl zdj rfl ?_|refine zah [0] (putS w0 p _ _ _ (by first|exact hsm.mono (by decide) | (repeat (first|refine sm_get ?_|refine sm_put ?_)); exact hsm.mono (by decide))) rfl rfl rfl zdj rfl ?_|refine zah [0] (add_spec w0 p P hP _ _ _ (by decide) (by first|exact hsm.mono (by decide) | (repeat (first|refine sm_get ?_|refine sm_put ?_)); exact hsm.mono (by decide))) rfl rfl rfl zdj rfl ?_)|refine zp ?_|refine zyl 0 rfl ?_|refine zyf rfl ?_|refine zch ?_
     have e : P.take s = ((s.get P.root).1, 0, P.add (((s.get P.root).2.get (s.get P.root).1).2.put P.root ((s.get P.root).2.get (s.get P.root).1).1) 2 (-1)) := by simp [Pl.take, hE, hN]
     rw [e]
     exact zei rfl ⟨rfl, rfl⟩
 · repeat' first|refine zck ?_|refine zcm ?_|refine zyq ?_|(refine zap rfl ?_;first|refine zaj rfl ?_|refine zak rfl ?_|refine zam rfl rfl (fun _ => ?_) (fun _ => ?_)|refine zah [0] (getS w0 p _ _ (by first|exact hsm.mono (by decide) | (repeat (first|refine sm_get ?_|refine sm_put ?_)); exact hsm.mono (by decide))) rfl rfl rfl zdj rfl ?_|refine zah [0] (putS w0 p _ _ _ (by first|exact hsm.mono (by decide) | (repeat (first|refine sm_get ?_|refine sm_put ?_)); exact hsm.mono (by decide))) rfl rfl rfl zdj rfl ?_|refine zau rfl rfl (by omega) ?_|refine zaw rfl rfl (by omega) ?_|refine zbq rfl rfl ?_|refine zbt rfl rfl ?_|refine zbu rfl ?_|refine zbv rfl ?_)|refine zp ?_|refine zyl 0 rfl ?_|refine zyf rfl ?_|refine zch ?_|refine zci rfl ?_|refine zed rfl (fun _ => ?_) (fun _ => ?_)
   · have e : P.take s = (0, 9, ((s.get P.root).2.get (P.root + 1)).2) := by simp_all [Pl.take]
     rw [e]
     exact zei rfl ⟨rfl, rfl⟩
   · have e : P.take s = (0, 9, ((s.get P.root).2.get (P.root + 1)).2) := by simp_all [Pl.take]
     rw [e]
     exact zei rfl ⟨rfl, rfl⟩
   · have e : P.take s = (P.frm + 8 * ((s.get P.root).2.get (P.root + 1)).1, 0, ((s.get P.root).2.get (P.root + 1)).2.put (P.root + 1) (((s.get P.root).2.get (P.root + 1)).1 + 1)) := by
       unfold Pl.take
       rw [if_neg hE, if_neg (by omega)]
     rw [e]
     exact zei rfl ⟨rfl, rfl⟩
end Go.Proofs.YtgdhcgnmffgkiaaGreatDoor
namespace Sim
open Go Go.Vc
structure Ar where
 pool : Pl
 root : Int
def Ar.Ok (A : Ar) : Prop := A.pool.Ok ∧ 0 ≤ A.root ∧ A.root ≤ 4096
def pw : Nat → Int
 | 0 => 1
 | 1 => 8
 | 2 => 64
 | 3 => 512
 | _ => 4096
def dep (n : Int) : Nat := if n = 0 then 0 else if n ≤ 8 then 1 else if n ≤ 64 then 2 else if n ≤ 512 then 3 else 4
def digA (i : Int) (d : Nat) : Int := i / pw (d - 1) % 8
theorem pw_pos : ∀ d, 1 ≤ pw d ∧ pw d ≤ 4096
 | 0 => by decide
 | 1 => by decide
 | 2 => by decide
 | 3 => by decide
 | _ + 4 => ⟨by simp [pw], by simp [pw]⟩
theorem dig_bd (i : Int) (d : Nat) : 0 ≤ digA i d ∧ digA i d ≤ 7 := by unfold digA; omega
theorem dep_le (n : Int) : dep n ≤ 4 := by unfold dep; split <;> try split <;> try split <;> try split
                                           all_goals omega
def Ar.many (A : Ar) (s : Sp) : Int × Int × Bool × Sp :=
 if (s.get (A.root + 1)).1 < 0 ∨ 4096 < (s.get (A.root + 1)).1 then ((s.get (A.root + 1)).1, 0, false, (s.get (A.root + 1)).2)
 else ((s.get (A.root + 1)).1, dep (s.get (A.root + 1)).1, decide (((s.get (A.root + 1)).2.get (A.root + 2)).1 = dep (s.get (A.root + 1)).1), ((s.get (A.root + 1)).2.get (A.root + 2)).2)
def Ar.node (A : Ar) (s : Sp) (cell : Int) : Int × Bool × Sp :=
 if (s.get cell).1 ≤ 0 ∨ 4096 < (s.get cell).1 then (0, false, (s.get cell).2) else ((s.get cell).1, A.pool.node (s.get cell).1, (s.get cell).2)
theorem Ar.node_bd (A : Ar) (s : Sp) (cell : Int) : 0 ≤ (A.node s cell).1 ∧ (A.node s cell).1 ≤ 4096 := by
 unfold Ar.node; split
 · simp
 · simp; omega
def Ar.take (A : Ar) (s : Sp) : Int × Int × Sp :=
 if (A.pool.take s).2.1 = 0 then ((A.pool.take s).1, (A.pool.take s).2.1, ((A.pool.take s).2.2.get (A.root + 7)).2.put (A.root + 7) (w64 (((A.pool.take s).2.2.get (A.root + 7)).1 + 1)))
 else ((A.pool.take s).1, (A.pool.take s).2.1, (A.pool.take s).2.2)
def Ar.way (A : Ar) (i : Int) : Nat → Int → Sp → List Int → Option (List Int) × Sp
 | 0, _, s, acc => (some acc, s)
 | d + 1, cell, s, acc =>
   if (A.node s cell).2.1 then A.way i d ((A.node s cell).1 + digA i (d + 1)) (A.node s cell).2.2 (acc ++ [(A.node s cell).1])
   else (none, (A.node s cell).2.2)
theorem sm_add {P : Pl} {s : Sp} {j : Nat} {a v : Int} (h : Sm s (j + 1)) : Sm (P.add s a v) j := sm_put (sm_get h)
theorem sm_poolTake {P : Pl} {s : Sp} {j : Nat} (h : Sm s (j + 2)) : Sm (P.take s).2.2 j := by
 unfold Pl.take
 split
 · split
   · exact sm_add (sm_put (sm_get (sm_get h)))
   · exact (sm_get h).mono (by omega)
 · split
   · exact (sm_get (sm_get h)).mono (by omega)
   · exact (sm_put (sm_get (sm_get h))).mono (by omega)
theorem sm_give {P : Pl} {s : Sp} {j : Nat} {a : Int} (h : Sm s (j + 3)) : Sm (P.give s a).2 j := by
 unfold Pl.give
 split
 · exact sm_add (sm_put (sm_put (sm_get h)))
 · exact h.mono (by omega)
theorem sm_many {A : Ar} {s : Sp} {j : Nat} (h : Sm s j) : Sm (A.many s).2.2.2 j := by
 unfold Ar.many; split
 · exact sm_get h
 · exact sm_get (sm_get h)
theorem sm_node {A : Ar} {s : Sp} {j : Nat} {c : Int} (h : Sm s j) : Sm (A.node s c).2.2 j := by
 unfold Ar.node; split <;> exact sm_get h
theorem sm_take {A : Ar} {s : Sp} {j : Nat} (h : Sm s (j + 3)) : Sm (A.take s).2.2 j := by
 unfold Ar.take; split
 · exact sm_put (sm_get (sm_poolTake h))
 · exact (sm_poolTake h).mono (by omega)
theorem sm_way {A : Ar} {i : Int} : ∀ {d : Nat} {c : Int} {s : Sp} {acc : List Int} {j : Nat}, Sm s j → Sm (A.way i d c s acc).2 j
 | 0, _, _, _, _, h => h
 | d + 1, c, s, acc, j, h => by
   simp only [Ar.way]; split
   · exact sm_way (sm_node h)
   · exact sm_node h
end Sim
namespace Go.Proofs.YtgdhcgnmffgkiaaGreatDoor
variable (w0 : World)
open Go.Vc Sim
set_option maxHeartbeats 4000000
def powL : List Value := [.int .i64 1, .int .i64 8, .int .i64 64, .int .i64 512, .int .i64 4096]
def PowOk (w0 : World) : Prop := ∃ T fr, w0.heap[0]? = some (.cells (List.toArray powL) T fr)
theorem powL_rd (d : Nat) (hd : d ≤ 4) (o : Nat) (ho : o = d) : rd false 1 powL o = some (.int .i64 (pw d)) := by
 subst ho
 match o, hd with
 | 0, _ => rfl
 | 1, _ => rfl
 | 2, _ => rfl
 | 3, _ => rfl
 | 4, _ => rfl
def arrV (A : Ar) : Value := .agg #[.int .i64 A.pool.root, .int .i64 A.pool.frm, .int .i64 A.pool.nodes, .int .i64 A.root]
theorem depth_spec (hw : PowOk w0) (m : Int) : FnE PP w0 [] 162 [.int .i64 m] [] (.int .i64 (dep m)) [] := by
 obtain ⟨T, fr, hw⟩ := hw
 refine zep en162 fn162 rfl rfl rfl ?_
 repeat' first|refine zck ?_|refine zyq ?_|(refine zap rfl ?_;refine zbo rfl rfl ?_)|refine zp ?_|refine zch ?_
 refine zed rfl (fun hE => ?_) (fun hE => ?_)
 · repeat' first|refine zck ?_|refine zyq ?_|refine zp ?_|refine zch ?_
   refine zej rfl ⟨?_, rfl⟩
   rw [hE]; rfl
 · repeat' first|refine zck ?_|refine zcm ?_|refine zcl ?_|refine zyq ?_|refine zp ?_|refine zch ?_
   refine run_loop (S := Nat) (fun d => [(0, .int .i64 m), (3, .int .i64 d)]) (fun d Γ => Γ = [] ∧ 1 ≤ d ∧ d ≤ 4 ∧ d ≤ dep m) (fun d => 4 - d) 1 ⟨rfl, rfl, trivial⟩
     ⟨rfl, by decide, by decide, by unfold dep; rw [if_neg hE]; split <;> try split <;> try split
                                    all_goals omega⟩ ?_
   rintro d Γ junk ⟨rfl, h1, h2, h3⟩
   by_cases hd : d < 4
   · have dd : decide ((d : Int) < 4) = true := decide_eq_true (by omega)
     by_cases hm : pw d < m
     · have dm : decide (pw d < m) = true := decide_eq_true hm
       repeat' first|refine zck ?_|refine zcm ?_|refine zcl ?_|refine zcn ?_|refine zyq ?_|(refine zap rfl ?_;first|(refine zbq rfl rfl ?_; rw [dd])|(refine zbq rfl rfl ?_; rw [dm])|refine zac rfl hw (powL_rd d h2 _ (by omega)) ?_|refine zaj rfl ?_|refine zau rfl rfl (by omega) ?_|refine zbu rfl ?_|refine zat rfl rfl (by omega) ?_)|refine zp ?_|refine zch ?_|refine zci rfl ?_
       refine zeq ⟨rfl, d + 1, ⟨rfl, zes (by omega), trivial⟩, ⟨rfl, by omega, by omega, ?_⟩, by omega⟩
       have : d = 1 ∨ d = 2 ∨ d = 3 := by omega
       unfold dep
       rcases this with rfl | rfl | rfl <;> simp only [pw] at hm
       all_goals (split <;> try split <;> try split <;> try split)
       all_goals omega
     · have dm : decide (pw d < m) = false := decide_eq_false hm
       repeat' first|refine zck ?_|refine zyq ?_|(refine zap rfl ?_;first|(refine zbq rfl rfl ?_; rw [dd])|(refine zbq rfl rfl ?_; rw [dm])|refine zac rfl hw (powL_rd d h2 _ (by omega)) ?_|refine zaj rfl ?_|refine zbu rfl ?_|refine zat rfl rfl (by omega) ?_)|refine zp ?_|refine zch ?_|refine zcj rfl ?_
       refine zer rfl rfl ?_
       repeat' first|refine zck ?_|refine zyq ?_|refine zp ?_|refine zch ?_
       refine zej rfl ⟨zes ?_, rfl⟩
       have hc : d = 1 ∨ d = 2 ∨ d = 3 := by omega
       have : d = dep m := by
         unfold dep at h3 ⊢
         rcases hc with rfl | rfl | rfl <;> simp only [pw] at hm
         all_goals (split at h3 <;> try split at h3 <;> try split at h3 <;> try split at h3)
         all_goals (try split)
         all_goals (try split)
         all_goals (try split)
         all_goals (try split)
         all_goals omega
       rw [← this]
   · have dd : decide ((d : Int) < 4) = false := decide_eq_false (by omega)
     repeat' first|refine zck ?_|refine zyq ?_|(refine zap rfl ?_;first|(refine zbq rfl rfl ?_; rw [dd])|refine zak rfl ?_|refine zbv rfl ?_)|refine zp ?_|refine zch ?_|refine zcj rfl ?_
     refine zer rfl rfl ?_
     repeat' first|refine zck ?_|refine zyq ?_|refine zp ?_|refine zch ?_
     refine zej rfl ⟨zes ?_, rfl⟩
     have := dep_le m
     omega
theorem digit_spec (hw : PowOk w0) (m : Int) (d : Nat) (hm : 0 ≤ m ∧ m ≤ 4096) (hd : 1 ≤ d ∧ d ≤ 4) (dI : Int) (hdI : dI = d) : FnE PP w0 [] 165 [.int .i64 m, .int .i64 dI] [] (.int .i64 (digA m d)) [] := by
 subst hdI
 obtain ⟨T, fr, hw⟩ := hw
 have hp := pw_pos (d - 1)
 have hq : m / pw (d - 1) ≤ m := Int.ediv_le_self _ hm.1
 have hq0 : 0 ≤ m / pw (d - 1) := Int.ediv_nonneg hm.1 (by omega)
 refine zep en165 fn165 rfl rfl rfl ?_
 repeat' first|refine zck ?_|refine zyq ?_|(refine zap rfl ?_;first|refine zac rfl hw (powL_rd (d - 1) (by omega) _ (by omega)) ?_|refine zav rfl rfl (by omega) ?_|refine zax rfl rfl (by omega) ?_|refine zay rfl rfl (by omega) ?_|refine zat rfl rfl (by omega) ?_)|refine zp ?_|refine zch ?_
 exact zej rfl ⟨rfl, rfl⟩
theorem anode_spec (p : Nat) (A : Ar) (hA : A.Ok) (s : Sp) (c : Int) (hsm : Sm s 0) : FnE PP w0 [] 163 [arrV A, spP p, .int .i64 c] [SpaceA p s]
   (.tuple #[.int .i64 (A.node s c).1, .bool (A.node s c).2.1]) [SpaceA p (A.node s c).2.2] := by
 refine zep en163 fn163 rfl rfl rfl ?_
 refine zyr ?_
 repeat' first|(refine zap rfl ?_;refine zaq (cs := [_, _, _, _]) rfl (fun nb => ?_))|refine zp ?_|refine zyn ?_
 refine zeb [1] rfl ?_
 refine zyr ?_
 repeat' first|(refine zap rfl ?_;refine zah [0] (getS w0 p _ _ (by first|exact hsm.mono (by decide) | (repeat (first|refine sm_get ?_|refine sm_put ?_|refine sm_node ?_|refine sm_take ?_|refine sm_many ?_|refine sm_way ?_|refine sm_poolTake ?_|refine sm_give ?_)); exact hsm.mono (by decide))) rfl rfl rfl zdj rfl ?_)|refine zp ?_|refine zyn ?_
 by_cases h0 : (s.get c).1 ≤ 0
 · have d0 : decide ((s.get c).1 ≤ 0) = true := decide_eq_true h0
   have e : A.node s c = (0, false, (s.get c).2) := by simp [Ar.node, h0]
   repeat' first|refine zck ?_|refine zyq ?_|(refine zap rfl ?_;first|(refine zbr rfl rfl ?_; rw [d0])|refine zak rfl ?_|refine zbu rfl ?_)|refine zp ?_|refine zch ?_|refine zci rfl ?_
   rw [e]
   exact zei rfl ⟨rfl, rfl⟩
 · have d0 : decide ((s.get c).1 ≤ 0) = false := decide_eq_false h0
   by_cases h1 : 4096 < (s.get c).1
   · have d1 : decide (4096 < (s.get c).1) = true := decide_eq_true h1
     have e : A.node s c = (0, false, (s.get c).2) := by simp [Ar.node, h1]
     repeat' first|refine zck ?_|refine zyq ?_|(refine zap rfl ?_;first|(refine zbr rfl rfl ?_; rw [d0])|(refine zbs rfl rfl ?_; rw [d1])|refine zaj rfl ?_|refine zbv rfl ?_)|refine zp ?_|refine zch ?_|refine zci rfl ?_
     rw [e]
     exact zei rfl ⟨rfl, rfl⟩
   · have d1 : decide (4096 < (s.get c).1) = false := decide_eq_false h1
     have e : A.node s c = ((s.get c).1, A.pool.node (s.get c).1, (s.get c).2) := by simp [Ar.node, h0, h1]
     repeat' first|refine zck ?_|refine zcm ?_|refine zyq ?_|(refine zap rfl ?_;first|(refine zbr rfl rfl ?_; rw [d0])|(refine zbs rfl rfl ?_; rw [d1])|refine zaj rfl ?_|refine zah [] (node_spec w0 A.pool hA.1 _) rfl rfl rfl zdj rfl ?_|refine zbv rfl ?_)|refine zp ?_|refine zyl 0 rfl ?_|refine zyf rfl ?_|refine zch ?_|refine zcj rfl ?_
     rw [e]
     exact zei rfl ⟨rfl, rfl⟩
theorem len_spec (p : Nat) (A : Ar) (hA : A.Ok) (s : Sp) (hsm : Sm s 0) : FnE PP w0 [] 84 [arrV A, spP p] [SpaceA p s]
   (.int .i64 (s.get (A.root + 1)).1) [SpaceA p (s.get (A.root + 1)).2] := by
 obtain ⟨_, h1, h2⟩ := id hA
 refine zep en84 fn84 rfl rfl rfl ?_
 refine zyr ?_
 repeat' first|(refine zap rfl ?_;refine zaq (cs := [_, _, _, _]) rfl (fun nb => ?_))|refine zp ?_|refine zyn ?_
 refine zeb [1] rfl ?_
 repeat' first|refine zyq ?_|(refine zap rfl ?_;first|refine zah [0] (getS w0 p _ _ (by first|exact hsm.mono (by decide) | (repeat (first|refine sm_get ?_|refine sm_put ?_|refine sm_node ?_|refine sm_take ?_|refine sm_many ?_|refine sm_way ?_|refine sm_poolTake ?_|refine sm_give ?_)); exact hsm.mono (by decide))) rfl rfl rfl zdj rfl ?_|refine zau rfl rfl (by omega) ?_)|refine zp ?_|refine zyl 0 rfl ?_|refine zyf rfl ?_|refine zch ?_
 exact zej rfl ⟨rfl, rfl⟩
theorem many_spec (hw : PowOk w0) (p : Nat) (A : Ar) (hA : A.Ok) (s : Sp) (hsm : Sm s 0) : FnE PP w0 [] 160 [arrV A, spP p] [SpaceA p s]
   (.tuple #[.int .i64 (A.many s).1, .int .i64 (A.many s).2.1, .bool (A.many s).2.2.1]) [SpaceA p (A.many s).2.2.2] := by
 obtain ⟨_, h1, h2⟩ := id hA
 obtain ⟨T, fr, hw2⟩ := id hw
 refine zep en160 fn160 rfl rfl rfl ?_
 refine zyr ?_
 repeat' first|(refine zap rfl ?_;refine zaq (cs := [_, _, _, _]) rfl (fun nb => ?_))|refine zp ?_|refine zyn ?_
 refine zeb [1] rfl ?_
 generalize hg : s.get (A.root + 1) = g
 have hsm2 : Sm g.2 0 := hg ▸ sm_get hsm
 have hG : FnE PP w0 [] 36 [spP p, .int .i64 (A.root + 1)] [SpaceA p s] (.int .i64 g.1) [SpaceA p g.2] := hg ▸ getS w0 p s (A.root + 1) hsm
 refine zyr ?_
 repeat' first|(refine zap rfl ?_;first|refine zah [0] hG rfl rfl rfl zdj rfl ?_|refine zau rfl rfl (by omega) ?_)|refine zp ?_|refine zyl 0 rfl ?_|refine zyf rfl ?_|refine zyn ?_
 by_cases h0 : g.1 < 0
 · have d0 : decide (g.1 < 0) = true := decide_eq_true h0
   have e : A.many s = (g.1, 0, false, g.2) := by simp [Ar.many, hg, h0]
   repeat' first|refine zck ?_|refine zyq ?_|(refine zap rfl ?_;first|(refine zbq rfl rfl ?_; rw [d0])|refine zak rfl ?_|refine zbu rfl ?_)|refine zp ?_|refine zch ?_|refine zci rfl ?_
   rw [e]
   exact ret_tmp3 rfl ⟨rfl, rfl⟩
 · have d0 : decide (g.1 < 0) = false := decide_eq_false h0
   by_cases h1 : 4096 < g.1
   · have d1 : decide (4096 < g.1) = true := decide_eq_true h1
     have e : A.many s = (g.1, 0, false, g.2) := by simp [Ar.many, hg, h1]
     repeat' first|refine zck ?_|refine zyq ?_|(refine zap rfl ?_;first|(refine zbq rfl rfl ?_; rw [d0])|refine zac rfl hw2 (powL_rd 4 (by decide) _ rfl) ?_|(refine zbs rfl rfl ?_; rw [show pw 4 = 4096 from rfl, d1])|refine zaj rfl ?_|refine zbv rfl ?_|refine zat rfl rfl (by omega) ?_)|refine zp ?_|refine zch ?_|refine zci rfl ?_
     rw [e]
     exact ret_tmp3 rfl ⟨rfl, rfl⟩
   · have d1 : decide (4096 < g.1) = false := decide_eq_false h1
     have e : A.many s = (g.1, (dep g.1 : Int), decide ((g.2.get (A.root + 2)).1 = dep g.1), (g.2.get (A.root + 2)).2) := by simp [Ar.many, hg, h0, h1]
     repeat' first|refine zck ?_|refine zcm ?_|refine zyq ?_|(refine zap rfl ?_;first|(refine zbq rfl rfl ?_; rw [d0])|refine zac rfl hw2 (powL_rd 4 (by decide) _ rfl) ?_|(refine zbs rfl rfl ?_; rw [show pw 4 = 4096 from rfl, d1])|refine zaj rfl ?_|refine zah [0] (getS w0 p _ _ hsm2) rfl rfl rfl zdj rfl ?_|refine zah [] (depth_spec w0 hw _) rfl rfl rfl zdj rfl ?_|refine zau rfl rfl (by omega) ?_|refine zbo rfl rfl ?_|refine zbv rfl ?_|refine zat rfl rfl (by omega) ?_)|refine zp ?_|refine zyl 0 rfl ?_|refine zyf rfl ?_|refine zch ?_|refine zcj rfl ?_
     rw [e]
     exact ret_tmp3 rfl ⟨rfl, rfl⟩
theorem atake_spec (p : Nat) (A : Ar) (hA : A.Ok) (s : Sp) (hsm : Sm s 3) : FnE PP w0 [] 164 [arrV A, spP p] [SpaceA p s]
   (.tuple #[.int .i64 (A.take s).1, .int .i64 (A.take s).2.1]) [SpaceA p (A.take s).2.2] := by
 obtain ⟨_, h1, h2⟩ := id hA
 refine zep en164 fn164 rfl rfl rfl ?_
 refine zyr ?_
 repeat' first|(refine zap rfl ?_;refine zaq (cs := [_, _, _, _]) rfl (fun nb => ?_))|refine zp ?_|refine zyn ?_
 refine zeb [1] rfl ?_
 generalize hg : A.pool.take s = g
 have hsm2 : Sm g.2.2 1 := hg ▸ sm_poolTake hsm
 have hG := take_spec w0 p A.pool hA.1 s (hsm.mono (by decide))
 rw [hg] at hG
 repeat' first|refine zck ?_|refine zyq ?_|(refine zap rfl ?_;first|refine zah [0] hG rfl rfl rfl zdj rfl ?_|refine zbo rfl rfl ?_)|refine zp ?_|refine zyl 0 rfl ?_|refine zyf rfl ?_|refine zch ?_
 refine zed rfl (fun hE => ?_) (fun hE => ?_)
 · have e : A.take s = (g.1, g.2.1, (g.2.2.get (A.root + 7)).2.put (A.root + 7) (w64 ((g.2.2.get (A.root + 7)).1 + 1))) := by simp [Ar.take, hg, hE]
   repeat' first|refine zck ?_|refine zyq ?_|(refine zap rfl ?_;first|refine zdu (t := 2) rfl rfl ?_|refine zah [0] (getS w0 p _ _ (hsm2.mono (by decide))) rfl rfl rfl zdj rfl ?_|refine zah [0] (putS w0 p _ _ _ (sm_get (hsm2.mono (by decide)))) rfl rfl rfl zdj rfl ?_|refine zau rfl rfl (by omega) ?_)|refine zp ?_|refine zyl 0 rfl ?_|refine zyf rfl ?_|refine zch ?_
   rw [e]
   exact zei rfl ⟨rfl, rfl⟩
 · have e : A.take s = (g.1, g.2.1, g.2.2) := by simp [Ar.take, hg, hE]
   repeat' first|refine zck ?_|refine zcm ?_|refine zyq ?_|refine zp ?_|refine zch ?_
   rw [e]
   exact zei rfl ⟨rfl, rfl⟩
def intL (l : List Int) : List Value := l.map (Value.int .i64)
def wayRA (p : Nat) (r : Option (List Int) × Sp) (v : Value) (Γ : List Asn) : Prop :=
 match r.1 with
 | some l => ∃ a cap, v = .tuple #[.slice a l.length cap, .bool true] ∧ Γ = [SpaceA p r.2, SlA 34 1 a l.length cap (intL l)]
 | none => v = .tuple #[.slice none 0 0, .bool false] ∧ Γ = [SpaceA p r.2]
theorem way_spec (hw : PowOk w0) (p : Nat) (A : Ar) (hA : A.Ok) (i : Int) (hi : 0 ≤ i ∧ i ≤ 4096) (d : Nat) (hd : d ≤ 4) (dI : Int) (hdI : dI = d) (s : Sp) (hsm : Sm s 0) :
   Vc.Fn PP w0 [] 167 [arrV A, spP p, .int .i64 i, .int .i64 dI] [SpaceA p s] (wayRA p (A.way i d A.root s [])) := by
 subst hdI
 obtain ⟨_, h1, h2⟩ := id hA
 refine zep en167 fn167 rfl rfl rfl ?_
 refine zyr ?_
 repeat' first|(refine zap rfl ?_;refine zaq (cs := [_, _, _, _]) rfl (fun nb => ?_))|refine zp ?_|refine zyn ?_
 refine zeb [1] rfl ?_
 refine zyr ?_
 repeat' refine zp ?_
 all_goals refine zyn ?_
 refine zyr ?_
 repeat' first|(refine zap rfl ?_;refine zdw rfl rfl (by omega) ?_)|refine zp ?_|refine zyl 0 rfl ?_|refine zyf rfl ?_|refine zyn ?_
 repeat (first|refine zck ?_|refine zcl ?_|refine zcm ?_|refine zcn ?_|refine zco ?_)
 refine run_nilslice 34 1 ?_
 refine run_loop (S := Nat × Int × Sp × List Int × Option Addr × Nat)
   (fun st => [(1, spP p), (2, .int .i64 i), (3, .int .i64 (st.1 : Int)), (4, .pointer (some ⟨nb, 0, none⟩)), (11, .int .i64 st.2.1), (10, .slice st.2.2.2.2.1 st.2.2.2.1.length st.2.2.2.2.2)])
   (fun st Γ => Γ = [SpaceA p st.2.2.1, SlA 34 1 st.2.2.2.2.1 st.2.2.2.1.length st.2.2.2.2.2 (intL st.2.2.2.1)] ∧ 0 ≤ st.2.1 ∧ st.2.1 ≤ 5000 ∧ st.1 + st.2.2.2.1.length ≤ 4 ∧ Sm st.2.2.1 0 ∧ A.way i st.1 st.2.1 st.2.2.1 st.2.2.2.1 = A.way i d A.root s [])
   (fun st => st.1) (d, A.root, s, [], none, 0) ⟨rfl, rfl, rfl, rfl, zes (by first|exact Int.add_zero _ | rfl), rfl, trivial⟩ ⟨rfl, by dsimp only; omega, by dsimp only; omega, by simpa using hd, hsm, rfl⟩ ?_
 rintro ⟨d', c, s, acc, a, cap⟩ Γ junk ⟨hΓ, hc1, hc2, hl, hsm, he⟩
 dsimp only at hΓ hc1 hc2 hl hsm he ⊢
 subst hΓ
 rw [← he]
 cases d' with
 | zero =>
   repeat' first|refine zck ?_|refine zyq ?_|(refine zap rfl ?_;refine zbs rfl rfl ?_)|refine zp ?_|refine zch ?_|refine zcj rfl ?_
   refine zer rfl rfl ?_
   repeat' first|refine zck ?_|refine zyq ?_|refine zp ?_|refine zch ?_
   refine zei rfl ⟨a, cap, rfl, rfl⟩
 | succ d' =>
   refine zyr ?_
   repeat' first|(refine zap rfl ?_;refine zbs rfl rfl ?_)|refine zp ?_|refine zyn ?_
   refine zci (bool_eq (by simp)) ?_
   refine zyr ?_
   repeat' first|(refine zap rfl ?_;refine zah [0] (anode_spec w0 p A hA _ _ (by first|exact hsm.mono (by decide) | (repeat (first|refine sm_get ?_|refine sm_put ?_|refine sm_node ?_|refine sm_take ?_|refine sm_many ?_|refine sm_way ?_|refine sm_poolTake ?_|refine sm_give ?_)); exact hsm.mono (by decide))) rfl rfl rfl zdj rfl ?_)|refine zp ?_|refine zyl 0 rfl ?_|refine zyn ?_
   refine zyr ?_
   repeat' first|(refine zap rfl ?_;refine zbx rfl ?_)|refine zp ?_|refine zyn ?_
   have hb := A.node_bd s c
   refine zee rfl (fun hE => ?_) (fun hE => ?_)
   · have hE : (A.node s c).2.1 = false := by simpa using hE
     repeat' first|refine zck ?_|refine zyq ?_|refine zp ?_|refine zch ?_
     have e : A.way i (d' + 1) c s acc = (none, (A.node s c).2.2) := by simp [Ar.way, hE]
     rw [e]
     refine zec [0] rfl ?_
     exact qret2 (fun _ _ h => h) rfl ⟨rfl, rfl⟩
   · have hE : (A.node s c).2.1 = true := by simpa using hE
     have e : A.way i (d' + 1) c s acc = A.way i d' ((A.node s c).1 + digA i (d' + 1)) (A.node s c).2.2 (acc ++ [(A.node s c).1]) := by simp [Ar.way, hE]
     have hdg := dig_bd i (d' + 1)
     repeat' first|refine zck ?_|refine zcm ?_|refine zcn ?_|refine zyq ?_|(refine zap rfl ?_;first|refine zdt rfl rfl rfl rfl rfl rfl (fun nb2 => ?_)|refine zdz 1 2 rfl rfl rfl rfl rfl rfl rfl rfl (by first | omega | (dsimp only; omega)) (fun _ _ => rfl) (fun a' cap' => ?_)|refine zah [] (digit_spec w0 hw i (d' + 1) hi (by omega) _ (by omega)) rfl rfl rfl zdj rfl ?_|refine zau rfl rfl (by omega) ?_|refine zav rfl rfl (by omega) ?_)|refine zp ?_|refine zch ?_
     refine zec [0, 0] rfl ?_
     refine zeq ⟨rfl, (d', (A.node s c).1 + digA i (d' + 1), (A.node s c).2.2, acc ++ [(A.node s c).1], a', cap'), ⟨rfl, rfl, zes (by dsimp only; omega), rfl, rfl, ?_, trivial⟩, ⟨?_, by dsimp only; omega, by dsimp only; omega, ?_, sm_node hsm, e.symm⟩, ?_⟩
     · rw [List.length_append]; rfl
     · have e2 : intL (acc ++ [(A.node s c).1]) = intL acc ++ [.int .i64 (A.node s c).1] := by simp [intL]
       rw [e2, List.length_append]; rfl
     · simp; omega
     · simp
end Go.Proofs.YtgdhcgnmffgkiaaGreatDoor
namespace Sim
open Go Go.Vc
theorem reads_twice (s : Sp) (a : Int) : (s.reads a).2.reads a = ((s.reads a).1, (s.reads a).2.reads a |>.2) := by
 unfold Sp.reads
 by_cases he : s.ended = true
 · simp [he]
 · cases hk : lookW s.kn a with
   | none => simp [he]
   | some w => simp [he, hk]
theorem value_reads (s : Sp) (a x : Int) : ((s.reads a).2.value x) = s.value x := by
 unfold Sp.reads
 split
 · rfl
 · split <;> rfl
theorem get_get (s : Sp) (a : Int) : ((s.get a).2.get a).1 = (s.get a).1 := by
 by_cases h : (s.reads a).1 = true
 · have h2 : ((s.reads a).2.reads a).1 = true := by rw [reads_twice]; exact h
   simp [Sp.get, h, h2, value_reads]
 · have h2 : ((s.reads a).2.reads a).1 = false := by rw [reads_twice]; simpa using h
   simp [Sp.get, h, h2]
theorem way_len (A : Ar) (i : Int) : ∀ (d : Nat) (c : Int) (s : Sp) (acc l : List Int), (A.way i d c s acc).1 = some l → l.length = acc.length + d ∧ ((∀ x ∈ acc, 0 ≤ x ∧ x ≤ 4096) → ∀ x ∈ l, 0 ≤ x ∧ x ≤ 4096)
 | 0, c, s, acc, l, h => by
   simp only [Ar.way, Option.some.injEq] at h
   subst h
   exact ⟨rfl, fun h => h⟩
 | d + 1, c, s, acc, l, h => by
   simp only [Ar.way] at h
   split at h
   · obtain ⟨h1, h2⟩ := way_len A i d _ _ _ l h
     refine ⟨by simp at h1; omega, fun h3 => h2 fun x hx => ?_⟩
     rcases List.mem_append.1 hx with hx | hx
     · exact h3 x hx
     · simp at hx; subst hx; exact A.node_bd s c
   · cases h
def lastD (l : List Int) : Int := l.getLastD 0
def Ar.place (A : Ar) (s : Sp) (i : Int) : Int × Int × Sp :=
 if i < 0 then (0, 3, s) else
 if (s.get (A.root + 1)).1 ≤ i then (0, 3, (s.get (A.root + 1)).2) else
 if (A.many (s.get (A.root + 1)).2).2.2.1 then
   match A.way i (A.many (s.get (A.root + 1)).2).2.1.toNat A.root (A.many (s.get (A.root + 1)).2).2.2.2 [] with
   | (none, t) => (0, 24, t)
   | (some l, t) => (lastD l + digA i 1, 0, t)
 else (0, 24, (A.many (s.get (A.root + 1)).2).2.2.2)
def Ar.get (A : Ar) (s : Sp) (i : Int) : Int × Int × Sp :=
 if (A.place s i).2.1 = 0 then (((A.place s i).2.2.get (A.place s i).1).1, 0, ((A.place s i).2.2.get (A.place s i).1).2) else (0, (A.place s i).2.1, (A.place s i).2.2)
def Ar.set (A : Ar) (s : Sp) (i v : Int) : Int × Int × Sp :=
 if (A.place s i).2.1 = 0 then (((A.place s i).2.2.get (A.place s i).1).1, 0, ((A.place s i).2.2.get (A.place s i).1).2.put (A.place s i).1 v) else (0, (A.place s i).2.1, (A.place s i).2.2)
def Ar.swap (A : Ar) (s : Sp) (i j : Int) : Int × Sp :=
 let g := s.get (A.root + 1)
 if i < 0 ∨ j < 0 ∨ g.1 ≤ i ∨ g.1 ≤ j then (3, g.2) else
 let x := A.place g.2 i
 if x.2.1 = 0 then
   let y := A.place x.2.2 j
   if y.2.1 = 0 then
     let v := y.2.2.get x.1
     let w := v.2.get y.1
     (0, (w.2.put x.1 w.1).put y.1 v.1)
   else (y.2.1, y.2.2)
 else (x.2.1, x.2.2)
theorem sm_place {A : Ar} {s : Sp} {j : Nat} {i : Int} (h : Sm s j) : Sm (A.place s i).2.2 j := by
 unfold Ar.place
 split
 · exact h
 · split
   · exact sm_get h
   · split
     · have := sm_way (A := A) (i := i) (d := (A.many (s.get (A.root + 1)).2).2.1.toNat) (c := A.root) (acc := []) (sm_many (A := A) (sm_get (a := A.root + 1) h))
       split
       · rename_i t ht; rw [ht] at this; exact this
       · rename_i l t ht; rw [ht] at this; exact this
     · exact sm_many (sm_get h)
theorem many_ok {A : Ar} {s : Sp} (h : (A.many s).2.2.1 = true) : (A.many s).1 = (s.get (A.root + 1)).1 ∧ 0 ≤ (A.many s).1 ∧ (A.many s).1 ≤ 4096 ∧ (A.many s).2.1 = dep (A.many s).1 := by
 unfold Ar.many at h ⊢
 split at h
 · cases h
 · rename_i hn
   rw [if_neg hn]
   exact ⟨rfl, by dsimp only; omega, by dsimp only; omega, rfl⟩
end Sim
namespace Go.Proofs.YtgdhcgnmffgkiaaGreatDoor
variable (w0 : World)
open Go.Vc Sim
set_option maxHeartbeats 4000000
theorem intL_get (l : List Int) (k : Nat) (x : Int) (h : l[k]? = some x) : nth (intL l) k = some (.int .i64 x) := by
 rw [nth_eq, intL, List.getElem?_map, h]; rfl
theorem place_spec (hw : PowOk w0) (p : Nat) (A : Ar) (hA : A.Ok) (s : Sp) (i : Int) (hsm : Sm s 0) : FnE PP w0 [] 168 [arrV A, spP p, .int .i64 i] [SpaceA p s]
   (.tuple #[.int .i64 (A.place s i).1, .int .i64 (A.place s i).2.1]) [SpaceA p (A.place s i).2.2] := by
 obtain ⟨_, h1, h2⟩ := id hA
 refine zep en168 fn168 rfl rfl rfl ?_
 refine zyr ?_
 repeat' first|(refine zap rfl ?_;refine zaq (cs := [_, _, _, _]) rfl (fun nb => ?_))|refine zp ?_|refine zyn ?_
 refine zeb [1] rfl ?_
 by_cases h0 : i < 0
 · have d0 : decide (i < 0) = true := decide_eq_true h0
   have e : A.place s i = (0, 3, s) := by simp [Ar.place, h0]
   repeat' first|refine zck ?_|refine zyq ?_|(refine zap rfl ?_;first|(refine zbq rfl rfl ?_; rw [d0])|refine zak rfl ?_|refine zbu rfl ?_)|refine zp ?_|refine zch ?_|refine zci rfl ?_
   rw [e]
   exact zei rfl ⟨rfl, rfl⟩
 · have d0 : decide (i < 0) = false := decide_eq_false h0
   generalize hg : s.get (A.root + 1) = g
   have hsm2 : Sm g.2 0 := hg ▸ sm_get hsm
   have hG := getS w0 p s (A.root + 1) hsm
   rw [hg] at hG
   by_cases h3 : g.1 ≤ i
   · have d3 : decide (g.1 ≤ i) = true := decide_eq_true h3
     have e : A.place s i = (0, 3, g.2) := by simp [Ar.place, h0, hg, h3]
     repeat' first|refine zck ?_|refine zyq ?_|(refine zap rfl ?_;first|(refine zbq rfl rfl ?_; rw [d0])|(refine zbt rfl rfl ?_; rw [d3])|refine zaj rfl ?_|refine zah [0] hG rfl rfl rfl zdj rfl ?_|refine zau rfl rfl (by omega) ?_|refine zbv rfl ?_)|refine zp ?_|refine zyl 0 rfl ?_|refine zyf rfl ?_|refine zch ?_|refine zci rfl ?_
     rw [e]
     exact zei rfl ⟨rfl, rfl⟩
   · have d3 : decide (g.1 ≤ i) = false := decide_eq_false h3
     generalize hm : A.many g.2 = m
     have hsm3 : Sm m.2.2.2 0 := hm ▸ sm_many hsm2
     have hM := many_spec w0 hw p A hA g.2 hsm2
     rw [hm] at hM
     repeat' first|refine zck ?_|refine zcm ?_|refine zyq ?_|(refine zap rfl ?_;first|(refine zbq rfl rfl ?_; rw [d0])|(refine zbt rfl rfl ?_; rw [d3])|refine zaj rfl ?_|refine zah [0] hG rfl rfl rfl zdj rfl ?_|refine zah [0] hM rfl rfl rfl zdj rfl ?_|refine zau rfl rfl (by omega) ?_|refine zbx rfl ?_|refine zbv rfl ?_)|refine zp ?_|refine zyl 0 rfl ?_|refine zyf rfl ?_|refine zch ?_|refine zcj rfl ?_
     refine zee rfl (fun hE => ?_) (fun hE => ?_)
     · have hE : m.2.2.1 = false := by simpa using hE
       have e : A.place s i = (0, 24, m.2.2.2) := by simp [Ar.place, h0, hg, h3, hm, hE]
       repeat' first|refine zck ?_|refine zyq ?_|refine zp ?_|refine zch ?_
       rw [e]
       exact zei rfl ⟨rfl, rfl⟩
     · have hE : m.2.2.1 = true := by simpa using hE
       have hmo := many_ok (A := A) (s := g.2) (by rw [hm]; exact hE)
       rw [hm] at hmo
       have hgg : (g.2.get (A.root + 1)).1 = g.1 := by rw [← hg]; exact get_get s _
       rw [hgg] at hmo
       have hdp := dep_le m.1
       have hdp0 : 0 < dep m.1 := by unfold dep; (repeat' split) <;> omega
       have hn : m.2.1.toNat = dep m.1 := by omega
       generalize hW : A.way i m.2.1.toNat A.root m.2.2.2 [] = W
       have hWs := way_spec w0 hw p A hA i (by omega) m.2.1.toNat (by omega) m.2.1 (by omega) m.2.2.2 hsm3
       have hWl := way_len A i m.2.1.toNat A.root m.2.2.2 []
       have hsm4 : Sm W.2 0 := hW ▸ sm_way hsm3
       rw [hW] at hWs hWl
       obtain ⟨o, t⟩ := W
       cases o with
       | none =>
         have e : A.place s i = (0, 24, t) := by simp [Ar.place, h0, hg, h3, hm, hE, hW]
         have hWn : FnE PP w0 [] 167 [arrV A, spP p, .int .i64 i, .int .i64 m.2.1] [SpaceA p m.2.2.2] (.tuple #[.slice none 0 0, .bool false]) [SpaceA p t] := hWs
         repeat' first|refine zck ?_|refine zcm ?_|refine zyq ?_|(refine zap rfl ?_;first|refine zah [0] hWn rfl rfl rfl zdj rfl ?_|refine zbx rfl ?_)|refine zp ?_|refine zyl 0 rfl ?_|refine zch ?_|refine zci rfl ?_
         rw [e]
         exact zei rfl ⟨rfl, rfl⟩
       | some l =>
         obtain ⟨hl1, hl2⟩ := hWl l rfl
         have e : A.place s i = (lastD l + digA i 1, 0, t) := by simp [Ar.place, h0, hg, h3, hm, hE, hW]
         obtain ⟨l', x, rfl⟩ : ∃ l' x, l = l' ++ [x] := ⟨l.dropLast, l.getLast (by intro h; subst h; simp at hl1; omega), (List.dropLast_concat_getLast _).symm⟩
         rw [List.length_nil, Nat.zero_add, hn] at hl1
         have hx := hl2 (by simp) x (by simp)
         have hdg := dig_bd i 1
         have hlast : lastD (l' ++ [x]) = x := by simp [lastD]
         refine zyr ?_
         repeat' first|(refine zap rfl ?_; (refine zai [0] hWs rfl rfl rfl zdj ?_; rintro v Γ' ⟨a, cap, rfl, rfl⟩))|refine zp ?_|refine zyl 0 rfl ?_|refine zyn ?_
         refine zyr ?_
         repeat' first|(refine zap rfl ?_;refine zbx rfl ?_)|refine zp ?_|refine zyn ?_
         refine zcj rfl ?_
         refine run_sl_cases 1 rfl (fun _ hz _ _ => absurd hz (by simp)) ?_
         intro lb e1 e2 e3
         subst e1
         refine run_share_sl [1] rfl (fun spare => ?_)
         have hr : ∀ o, o = l'.length → rd false 1 (intL (l' ++ [x]) ++ spare) o = some (.int .i64 x) := by
           intro o ho; subst ho; exact rd_append (intL_get _ _ _ (by simp)) (by intro h; cases h)
         refine run_slots [(2, .int .i64 i), (11, .slice (some ⟨lb, 0, none⟩) (l' ++ [x]).length cap)] ⟨rfl, rfl, trivial⟩ (fun junk => ?_)
         have hlen : ((l' ++ [x]).length : Int) = l'.length + 1 := by simp
         repeat' first|refine zck ?_|refine zcm ?_|refine zyq ?_|(refine zap rfl ?_;first|refine zaa 0 rfl rfl (hr _ (by omega)) ?_|refine zah [] (digit_spec w0 hw i 1 (by omega) (by omega) _ rfl) rfl rfl rfl zdj rfl ?_|refine zce rfl ?_|refine zau rfl rfl (by omega) ?_|refine zav rfl rfl (by omega) ?_|refine zas rfl rfl (by omega) ?_)|refine zp ?_|refine zch ?_
         rw [e, hlast]
         exact zei rfl ⟨rfl, rfl⟩
end Go.Proofs.YtgdhcgnmffgkiaaGreatDoor
namespace Sim
open Go Go.Vc
end Sim
namespace Go.Proofs.YtgdhcgnmffgkiaaGreatDoor
variable (w0 : World)
open Go.Vc Sim
set_option maxHeartbeats 4000000
theorem aget_spec (hw : PowOk w0) (p : Nat) (A : Ar) (hA : A.Ok) (s : Sp) (i : Int) (hsm : Sm s 0) : FnE PP w0 [] 81 [arrV A, spP p, .int .i64 i] [SpaceA p s]
   (.tuple #[.int .i64 (A.get s i).1, .int .i64 (A.get s i).2.1]) [SpaceA p (A.get s i).2.2] := by
 refine zep en81 fn81 rfl rfl rfl ?_
 refine zyr ?_
 repeat' first|(refine zap rfl ?_;refine zaq (cs := [_, _, _, _]) rfl (fun nb => ?_))|refine zp ?_|refine zyn ?_
 refine zeb [1] rfl ?_
 generalize hg : A.place s i = g
 have hsm2 : Sm g.2.2 0 := hg ▸ sm_place hsm
 have hG := place_spec w0 hw p A hA s i hsm
 rw [hg] at hG
 repeat' first|refine zck ?_|refine zyq ?_|(refine zap rfl ?_;first|refine zah [0] hG rfl rfl rfl zdj rfl ?_|refine zbp rfl rfl ?_)|refine zp ?_|refine zyl 0 rfl ?_|refine zch ?_
 refine zed rfl (fun hE => ?_) (fun hE => ?_)
 · have e : A.get s i = (0, g.2.1, g.2.2) := by simp [Ar.get, hg, hE]
   repeat' first|refine zck ?_|refine zyq ?_|refine zp ?_|refine zch ?_
   rw [e]
   exact zei rfl ⟨rfl, rfl⟩
 · have hE : g.2.1 = 0 := by omega
   have e : A.get s i = ((g.2.2.get g.1).1, 0, (g.2.2.get g.1).2) := by simp [Ar.get, hg, hE]
   repeat' first|refine zck ?_|refine zcm ?_|refine zyq ?_|(refine zap rfl ?_;refine zah [0] (getS w0 p _ _ hsm2) rfl rfl rfl zdj rfl ?_)|refine zp ?_|refine zch ?_
   rw [e]
   exact zei rfl ⟨rfl, rfl⟩
theorem aset_spec (hw : PowOk w0) (p : Nat) (A : Ar) (hA : A.Ok) (s : Sp) (i v : Int) (hsm : Sm s 1) : FnE PP w0 [] 82 [arrV A, spP p, .int .i64 i, .int .i64 v] [SpaceA p s]
   (.tuple #[.int .i64 (A.set s i v).1, .int .i64 (A.set s i v).2.1]) [SpaceA p (A.set s i v).2.2] := by
 refine zep en82 fn82 rfl rfl rfl ?_
 refine zyr ?_
 repeat' first|(refine zap rfl ?_;refine zaq (cs := [_, _, _, _]) rfl (fun nb => ?_))|refine zp ?_|refine zyn ?_
 refine zeb [1] rfl ?_
 generalize hg : A.place s i = g
 have hsm2 : Sm g.2.2 1 := hg ▸ sm_place hsm
 have hG := place_spec w0 hw p A hA s i (hsm.mono (by decide))
 rw [hg] at hG
 repeat' first|refine zck ?_|refine zyq ?_|(refine zap rfl ?_;first|refine zah [0] hG rfl rfl rfl zdj rfl ?_|refine zbp rfl rfl ?_)|refine zp ?_|refine zyl 0 rfl ?_|refine zch ?_
 refine zed rfl (fun hE => ?_) (fun hE => ?_)
 · have e : A.set s i v = (0, g.2.1, g.2.2) := by simp [Ar.set, hg, hE]
   repeat' first|refine zck ?_|refine zyq ?_|refine zp ?_|refine zch ?_
   rw [e]
   exact zei rfl ⟨rfl, rfl⟩
 · have hE : g.2.1 = 0 := by omega
   have e : A.set s i v = ((g.2.2.get g.1).1, 0, (g.2.2.get g.1).2.put g.1 v) := by simp [Ar.set, hg, hE]
   repeat' first|refine zck ?_|refine zcm ?_|refine zyq ?_|(refine zap rfl ?_;first|refine zah [0] (getS w0 p _ _ (hsm2.mono (by decide))) rfl rfl rfl zdj rfl ?_|refine zah [0] (putS w0 p _ _ _ (sm_get (hsm2.mono (by decide)))) rfl rfl rfl zdj rfl ?_)|refine zp ?_|refine zch ?_
   rw [e]
   exact zei rfl ⟨rfl, rfl⟩
theorem aswap_spec (hw : PowOk w0) (p : Nat) (A : Ar) (hA : A.Ok) (s : Sp) (i j : Int) (hsm : Sm s 2) : FnE PP w0 [] 83 [arrV A, spP p, .int .i64 i, .int .i64 j] [SpaceA p s]
   (.int .i64 (A.swap s i j).1) [SpaceA p (A.swap s i j).2] := by
 obtain ⟨_, h1, h2⟩ := id hA
 refine zep en83 fn83 rfl rfl rfl ?_
 refine zyr ?_
 repeat' first|(refine zap rfl ?_;refine zaq (cs := [_, _, _, _]) rfl (fun nb => ?_))|refine zp ?_|refine zyn ?_
 refine zeb [1] rfl ?_
 generalize hg : s.get (A.root + 1) = g
 have hsm2 : Sm g.2 2 := hg ▸ sm_get hsm
 have hG := getS w0 p s (A.root + 1) (hsm.mono (by decide))
 rw [hg] at hG
 refine zyr ?_
 repeat' first|(refine zap rfl ?_;first|refine zah [0] hG rfl rfl rfl zdj rfl ?_|refine zau rfl rfl (by omega) ?_)|refine zp ?_|refine zyl 0 rfl ?_|refine zyf rfl ?_|refine zyn ?_
 refine run_slots [(1, spP p), (2, .int .i64 i), (3, .int .i64 j), (4, .pointer (some ⟨nb, 0, none⟩)), (9, .int .i64 g.1)] ⟨rfl, rfl, rfl, rfl, rfl, trivial⟩ (fun junk => ?_)
 repeat' first|refine zck ?_|refine zcm ?_|refine zyq ?_|(refine zap rfl ?_;first|refine zaj rfl ?_|refine zak rfl ?_|refine zam rfl rfl (fun _ => ?_) (fun _ => ?_)|refine zbq rfl rfl ?_|refine zbt rfl rfl ?_|refine zbu rfl ?_|refine zbv rfl ?_)|refine zp ?_|refine zyl 0 rfl ?_|refine zch ?_|refine zci rfl ?_|refine zed rfl (fun _ => ?_) (fun _ => ?_)
 all_goals first|(exact zej rfl (by rw [show A.swap s i j = (3, g.2) by { simp only [Ar.swap, hg]; rw [if_pos (by omega)] }]; exact ⟨rfl, rfl⟩)) | skip
 have hr : ¬ (i < 0 ∨ j < 0 ∨ g.1 ≤ i ∨ g.1 ≤ j) := by omega
 generalize hx : A.place g.2 i = x
 have hsm3 : Sm x.2.2 2 := hx ▸ sm_place hsm2
 have hX := place_spec w0 hw p A hA g.2 i (hsm2.mono (by decide))
 rw [hx] at hX
 repeat' first|refine zck ?_|refine zyq ?_|(refine zap rfl ?_;first|refine zah [0] hX rfl rfl rfl zdj rfl ?_|refine zbp rfl rfl ?_)|refine zp ?_|refine zch ?_
 refine zed rfl (fun hE => ?_) (fun hE => ?_)
 · repeat' first|refine zck ?_|refine zyq ?_|refine zp ?_|refine zch ?_
   refine zej rfl ?_
   have e : A.swap s i j = (x.2.1, x.2.2) := by simp only [Ar.swap, hg]; rw [if_neg hr, hx, if_neg hE]
   rw [e]; exact ⟨rfl, rfl⟩
 · have hE : x.2.1 = 0 := by omega
   generalize hy : A.place x.2.2 j = y
   have hsm4 : Sm y.2.2 2 := hy ▸ sm_place hsm3
   have hY := place_spec w0 hw p A hA x.2.2 j (hsm3.mono (by decide))
   rw [hy] at hY
   repeat (first|refine zck ?_|refine zcl ?_|refine zcm ?_|refine zcn ?_|refine zco ?_)
   refine run_slots [(1, spP p), (3, .int .i64 j), (4, .pointer (some ⟨nb, 0, none⟩)), (10, .int .i64 x.1)] ⟨rfl, rfl, rfl, rfl, trivial⟩ (fun junk => ?_)
   repeat' first|refine zck ?_|refine zyq ?_|(refine zap rfl ?_;first|refine zah [0] hY rfl rfl rfl zdj rfl ?_|refine zbp rfl rfl ?_)|refine zp ?_|refine zyl 0 rfl ?_|refine zch ?_
   refine zed rfl (fun hE2 => ?_) (fun hE2 => ?_)
   · repeat' first|refine zck ?_|refine zyq ?_|refine zp ?_|refine zch ?_
     refine zej rfl ?_
     have e : A.swap s i j = (y.2.1, y.2.2) := by simp only [Ar.swap, hg]; rw [if_neg hr, hx, if_pos hE, hy, if_neg hE2]
     rw [e]; exact ⟨rfl, rfl⟩
   · have hE2 : y.2.1 = 0 := by omega
     repeat (first|refine zck ?_|refine zcl ?_|refine zcm ?_|refine zcn ?_|refine zco ?_)
     refine run_slots [(1, spP p), (12, .int .i64 y.1), (10, .int .i64 x.1)] ⟨rfl, rfl, rfl, trivial⟩ (fun junk => ?_)
     have e : A.swap s i j = (0, ((((y.2.2.get x.1).2.get y.1).2.put x.1 ((y.2.2.get x.1).2.get y.1).1).put y.1 (y.2.2.get x.1).1)) := by simp only [Ar.swap, hg]; rw [if_neg hr, hx, if_pos hE, hy, if_pos hE2]
     rw [e]
     have hsm := hsm4
     repeat' first|refine zck ?_|refine zyq ?_|(refine zap rfl ?_;first|refine zah [0] (getS w0 p _ _ (by first|exact hsm.mono (by decide) | (repeat (first|refine sm_get ?_|refine sm_put ?_|refine sm_node ?_|refine sm_take ?_|refine sm_many ?_|refine sm_way ?_|refine sm_poolTake ?_|refine sm_give ?_|refine sm_place ?_)); exact hsm.mono (by decide))) rfl rfl rfl zdj rfl ?_|refine zah [0] (putS w0 p _ _ _ (by first|exact hsm.mono (by decide) | (repeat (first|refine sm_get ?_|refine sm_put ?_|refine sm_node ?_|refine sm_take ?_|refine sm_many ?_|refine sm_way ?_|refine sm_poolTake ?_|refine sm_give ?_|refine sm_place ?_)); exact hsm.mono (by decide))) rfl rfl rfl zdj rfl ?_)|refine zp ?_|refine zch ?_
     exact zej rfl ⟨rfl, rfl⟩
end Go.Proofs.YtgdhcgnmffgkiaaGreatDoor
namespace Sim
open Go Go.Vc
end Sim
namespace Go.Proofs.YtgdhcgnmffgkiaaGreatDoor
open Go.Vc Sim
set_option maxHeartbeats 4000000
end Go.Proofs.YtgdhcgnmffgkiaaGreatDoor
namespace Sim
open Go Go.Vc
def Ar.grow (A : Ar) (n : Int) (d : Nat) (s : Sp) : Int × Sp :=
 let c := if 0 < d then A.node (s.get A.root).2 A.root else (0, true, (s.get A.root).2)
 if c.2.1 then
   let t := A.take c.2.2
   if t.2.1 = 0 then (0, ((if 0 < d then t.2.2.put t.1 (s.get A.root).1 else t.2.2).put A.root t.1).put (A.root + 2) (dep (n + 1)))
   else (t.2.1, t.2.2)
 else (24, c.2.2)
def Ar.add (A : Ar) (n : Int) (d : Nat) (cell : Int) (s : Sp) : Int × Sp :=
 if n % pw (d - 1) = 0 then
   let t := A.take s
   if t.2.1 = 0 then (0, t.2.2.put cell t.1) else (t.2.1, t.2.2)
 else (0, s)
def Ar.down (A : Ar) (n : Int) : Nat → Int → Sp → Int × Int × Sp
 | 0, at_, s => (0, at_, s)
 | d + 1, at_, s =>
   if d = 0 then (0, at_, s) else
   let r := A.add n (d + 1) (at_ + digA n (d + 1)) s
   if r.1 = 0 then
     let q := A.node r.2 (at_ + digA n (d + 1))
     if q.2.1 then A.down n d q.1 q.2.2 else (24, 0, q.2.2)
   else (r.1, 0, r.2)
def Ar.rest (A : Ar) (n v : Int) (d : Nat) (s : Sp) : Int × Int × Sp :=
 let c := A.node s A.root
 if c.2.1 then
   let r := A.down n d c.1 c.2.2
   if r.1 = 0 then (n, 0, ((r.2.2.put (r.2.1 + digA n 1) v).put (A.root + 1) (n + 1))) else (0, r.1, r.2.2)
 else (0, 24, c.2.2)
def Ar.pushIn (A : Ar) (n v : Int) (d : Nat) (s : Sp) : Int × Int × Sp :=
 if d < dep (n + 1) then
   if (A.grow n d s).1 = 0 then A.rest n v (dep (n + 1)) (A.grow n d s).2 else (0, (A.grow n d s).1, (A.grow n d s).2)
 else A.rest n v d s
def Ar.undo (m : Int) (r : Int × Int × Sp) : Int × Int × Sp := (r.1, r.2.1, if r.2.1 ≠ 0 then r.2.2.back m else r.2.2)
def Ar.push (A : Ar) (s : Sp) (v : Int) : Int × Int × Sp :=
 let m := A.many s
 if m.2.2.1 then if m.1 = 4096 then (0, 9, m.2.2.2) else Ar.undo m.2.2.2.puts.length (A.pushIn m.1 v m.2.1.toNat m.2.2.2) else (0, 24, m.2.2.2)
theorem sm_grow {A : Ar} {n : Int} {d : Nat} {s : Sp} {j : Nat} (h : Sm s (j + 6)) : Sm (A.grow n d s).2 j := by
 have h1 : Sm (if 0 < d then A.node (s.get A.root).2 A.root else (0, true, (s.get A.root).2)).2.2 (j + 6) := by
   split
   · exact sm_node (sm_get h)
   · exact sm_get h
 simp only [Ar.grow]
 generalize (if 0 < d then A.node (s.get A.root).2 A.root else (0, true, (s.get A.root).2)) = c at h1
 by_cases hc : c.2.1 = true
 · rw [if_pos hc]
   have h2 := sm_take (A := A) (j := j + 3) h1
   by_cases ht : (A.take c.2.2).2.1 = 0
   · rw [if_pos ht]
     refine sm_put (sm_put ?_)
     split
     · exact sm_put h2
     · exact h2.mono (by omega)
   · rw [if_neg ht]; exact h2.mono (by omega)
 · rw [if_neg hc]; exact h1.mono (by omega)
theorem sm_aadd {A : Ar} {n : Int} {d : Nat} {c : Int} {s : Sp} {j : Nat} (h : Sm s (j + 4)) : Sm (A.add n d c s).2 j := by
 simp only [Ar.add]
 split
 · have h2 := sm_take (A := A) (j := j + 1) h
   split
   · exact sm_put h2
   · exact h2.mono (by omega)
 · exact h.mono (by omega)
theorem sm_down {A : Ar} {n : Int} : ∀ {d : Nat} {a : Int} {s : Sp} {j : Nat}, Sm s (j + 4 * d) → Sm (A.down n d a s).2.2 j
 | 0, a, s, j, h => h.mono (by omega)
 | d + 1, a, s, j, h => by
   simp only [Ar.down]
   split
   · exact h.mono (by omega)
   · have h2 := sm_aadd (A := A) (n := n) (d := d + 1) (c := a + digA n (d + 1)) (s := s) (j := j + 4 * d) (h.mono (by omega))
     split
     · split
       · exact sm_down (sm_node h2)
       · exact (sm_node h2).mono (by omega)
     · exact h2.mono (by omega)
theorem sm_rest {A : Ar} {n v : Int} {d : Nat} {s : Sp} {j : Nat} (h : Sm s (j + 2 + 4 * d)) : Sm (A.rest n v d s).2.2 j := by
 simp only [Ar.rest]
 split
 · have h2 := sm_down (A := A) (n := n) (d := d) (a := (A.node s A.root).1) (j := j + 2) (sm_node (A := A) (c := A.root) h)
   split
   · exact sm_put (sm_put h2)
   · exact h2.mono (by omega)
 · exact (sm_node h).mono (by omega)
theorem sm_push {A : Ar} {s : Sp} {v : Int} {j : Nat} (h : Sm s (j + 24)) : Sm (A.push s v).2.2 j := by
 have h1 := sm_many (A := A) h
 simp only [Ar.push]
 split
 · split
   · exact h1.mono (by omega)
   · have key : Sm (A.pushIn (A.many s).1 v (A.many s).2.1.toNat (A.many s).2.2.2).2.2 j := by
       have hm := many_ok (A := A) (s := s) ‹_›
       have hd := dep_le (A.many s).1
       simp only [Ar.pushIn]
       have hd2 := dep_le ((A.many s).1 + 1)
       split
       · have h2 := sm_grow (A := A) (n := (A.many s).1) (d := (A.many s).2.1.toNat) (j := j + 18) h1
         split
         · exact sm_rest (h2.mono (by omega))
         · exact h2.mono (by omega)
       · exact sm_rest (h1.mono (by omega))
     simp only [Ar.undo]
     split
     · exact sm_back key
     · exact key
 · exact h1.mono (by omega)
end Sim
namespace Go.Proofs.YtgdhcgnmffgkiaaGreatDoor
variable (w0 : World)
open Go.Vc Sim
set_option maxHeartbeats 4000000
abbrev eV (eb : Nat) (e : Int) : Asn := pt eb (.cells (List.toArray [.int .i64 e]) 39 (0, 0))
abbrev ptrA (b : Nat) : Value := .pointer (some ⟨b, 0, none⟩)
theorem back_specD (p : Nat) (s : Sp) (m : Int) (eb : Nat) (e : Int) : FnD PP w0 [] 161 [spP p, .int .i64 m, ptrA eb] [SpaceA p s, eV eb e]
   fun v Γ' => v = .tuple #[] ∧ Γ' = [SpaceA p (if e ≠ 0 then s.back m else s), eV eb e] := by
 refine fnD_of_run en161 fn161 rfl rfl rfl ?_
 repeat' first|refine zck ?_|refine zyq ?_|(refine zap rfl ?_;first|refine zab 1 rfl rfl rfl ?_|refine zbp rfl rfl ?_)|refine zp ?_|refine zch ?_
 refine zed rfl (fun hE => ?_) (fun hE => ?_)
 · repeat' first|refine zyq ?_|(refine zap rfl ?_;refine zah [0] (back_spec w0 p s m) rfl rfl rfl zdj rfl ?_)|refine zp ?_|refine zch ?_
   refine run_nil ⟨rfl, ends_none rfl ?_⟩
   rw [if_pos hE]; exact ⟨rfl, rfl⟩
 · repeat' first|refine zcm ?_|(refine zap rfl ?_;first|refine zaj rfl ?_|refine zak rfl ?_|refine zal rfl ?_|refine zam rfl rfl (fun _ => ?_) (fun _ => ?_))|refine zch ?_
   refine run_nil ⟨rfl, ends_none rfl ?_⟩
   rw [if_neg hE]; exact ⟨rfl, rfl⟩
def pushD (p eb : Nat) (m : Int) : Deferred := { target := .fn (.func 161) #[], args := List.toArray [spP p, .int .i64 m, ptrA eb] }
def pushRV (p : Nat) (r : Int × Int × Sp) (v' : Value) (Γ'' : List Asn) : Prop := v' = .tuple #[.int .i64 r.1, .int .i64 r.2.1] ∧ Γ'' = [SpaceA p r.2.2]
theorem push_fin (p eb : Nat) (mk : Int) (r : Int × Int × Sp) (i e : Int) (s' : Sp) (ρ : Env) (h6 : ρ 6 = .int .i64 i) (h7 : ρ 7 = ptrA eb) (hr : r = (i, e, s')) :
   LeavesS PP w0 [] Tryz.f79 ρ [pushD p eb mk] [SpaceA p s', eV eb e] (pushRV p (Ar.undo mk r)) := by
 subst hr
 refine leaves_defer1 [0, 0] (back_specD w0 p s' mk eb e) rfl rfl zdj ?_
 refine zek (zel [0] rfl (zen rfl h6 (zeo 1 h7 rfl rfl) ?_))
 exact ⟨rfl, rfl, rfl⟩
theorem push_spec (hw : PowOk w0) (p : Nat) (A : Ar) (hA : A.Ok) (s : Sp) (v : Int) (hsm : Sm s 24) :
   Vc.Fn PP w0 [] 79 [arrV A, spP p, .int .i64 v] [SpaceA p s] (pushRV p (A.push s v)) := by
 obtain ⟨_, h1, h2⟩ := id hA
 obtain ⟨T, fr, hw2⟩ := id hw
 generalize hm : A.many s = m
 have hsm2 : Sm m.2.2.2 24 := hm ▸ sm_many hsm
 have hM := many_spec w0 hw p A hA s (hsm.mono (by decide))
 rw [hm] at hM
 have hmo := many_ok (A := A) (s := s)
 rw [hm] at hmo
 refine zep en79 fn79 rfl rfl rfl ?_
 refine zyr ?_
 repeat' first|(refine zap rfl ?_;first|refine zaq (cs := [_, _, _, _]) rfl (fun nb => ?_)|refine zar (fun nb => ?_))|refine zp ?_|refine zyn ?_
 refine zeb [1] rfl ?_
 rename_i bx
 refine zyr ?_
 repeat' first|(refine zap rfl ?_;refine zah [0] hM rfl rfl rfl zdj rfl ?_)|refine zp ?_|refine zyl 0 rfl ?_|refine zyn ?_
 refine zyr ?_
 repeat' first|(refine zap rfl ?_;refine zbx rfl ?_)|refine zp ?_|refine zyn ?_
 refine run_slots [(1, spP p), (2, .int .i64 v), (3, ptrA bx), (7, ptrA nb), (8, .int .i64 m.1), (9, .int .i64 m.2.1), (10, .bool m.2.2.1), (28, .bool (!m.2.2.1))] ⟨rfl, rfl, rfl, rfl, rfl, rfl, rfl, rfl, trivial⟩ (fun junk => ?_)
 refine zee rfl (fun hE => ?_) (fun hE => ?_)
 · have hE : m.2.2.1 = false := by simpa using hE
   have e : A.push s v = (0, 24, m.2.2.2) := by simp [Ar.push, hm, hE]
   repeat' first|refine zck ?_|refine zyq ?_|(refine zap rfl ?_;refine zae 1 rfl rfl rfl rfl rfl rfl rfl ?_)|refine zp ?_|refine zch ?_
   rw [e]
   exact zeg (zek (zel [0] rfl (zen rfl rfl (zeo 1 rfl rfl rfl) ⟨rfl, rfl, rfl⟩)))
 have hE : m.2.2.1 = true := by simpa using hE
 obtain ⟨_, hn0, hn1, hn2⟩ := hmo hE
 refine zyr ?_
 repeat' first|(refine zap rfl ?_;first|refine zac rfl hw2 (powL_rd 4 (by decide) _ rfl) ?_|refine zbo rfl rfl ?_|refine zat rfl rfl (by omega) ?_)|refine zp ?_|refine zyn ?_
 refine zed rfl (fun hZ => ?_) (fun hZ => ?_)
 · have hZ : m.1 = 4096 := hZ
   have e : A.push s v = (0, 9, m.2.2.2) := by simp only [Ar.push, hm]; rw [if_pos hE, if_pos hZ]
   repeat' first|refine zck ?_|refine zyq ?_|(refine zap rfl ?_;refine zae 1 rfl rfl rfl rfl rfl rfl rfl ?_)|refine zp ?_|refine zch ?_
   rw [e]
   exact zeg (zek (zel [0] rfl (zen rfl rfl (zeo 1 rfl rfl rfl) ⟨rfl, rfl, rfl⟩)))
 have hZ : m.1 ≠ 4096 := hZ
 have e : A.push s v = Ar.undo m.2.2.2.puts.length (A.pushIn m.1 v m.2.1.toNat m.2.2.2) := by simp only [Ar.push, hm]; rw [if_pos hE, if_neg hZ]
 rw [e]
 have hd4 := dep_le m.1
 have hd5 := dep_le (m.1 + 1)
 have hd6 : 0 < dep (m.1 + 1) := by unfold dep; (repeat' split) <;> omega
 have hd7 : dep m.1 ≤ dep (m.1 + 1) := by unfold dep; (repeat' split) <;> omega
 have hdd : m.2.1.toNat = dep m.1 := by omega
 rw [hdd, hn2]
 generalize hmk : m.2.2.2.puts.length = mk
 generalize dep m.1 = d at *
 generalize hnn : m.1 = n at *
 generalize hss : m.2.2.2 = t at *
 have fin := push_fin w0 p nb mk (A.pushIn n v d t)
 have hMk := mark_spec w0 p t
 rw [hmk] at hMk
 refine zyr ?_
 repeat' first|(refine zap rfl ?_;first|refine zcd rfl rfl ?_|refine zah [0] hMk rfl rfl rfl zdj rfl ?_)|refine zp ?_|refine zyn ?_
 refine zyr ?_
 repeat' first|(refine zap rfl ?_;first|refine zah [] (depth_spec w0 hw _) rfl rfl rfl zdj rfl ?_|refine zau rfl rfl (by omega) ?_)|refine zp ?_|refine zyn ?_
 refine zyr ?_
 repeat' first|(refine zap rfl ?_;refine zbs rfl rfl ?_)|refine zp ?_|refine zyn ?_
 refine run_slots [(1, spP p), (2, .int .i64 v), (3, ptrA bx), (7, ptrA nb), (8, .int .i64 n), (9, .int .i64 d), (11, .int .i64 (dep (n + 1))), (44, .bool (decide ((d : Int) < dep (n + 1))))] ⟨rfl, rfl, rfl, rfl, rfl, rfl, rfl, rfl, trivial⟩ (fun junk => ?_)
 show Run PP w0 _ _ _ _ _ [pushD p nb mk] _
 refine run_join (S := Nat × Sp) (fun st => [(1, spP p), (2, .int .i64 v), (3, ptrA bx), (7, ptrA nb), (8, .int .i64 n), (9, .int .i64 (st.1 : Int))])
   (fun st Γ => Γ = [SpaceA p st.2, eV nb 0] ∧ st.1 ≤ 4 ∧ 1 ≤ st.1 ∧ Sm st.2 18 ∧ A.pushIn n v d t = A.rest n v st.1 st.2) ?_ ?_
 · by_cases hlt : d < dep (n + 1)
   rotate_left
   · refine zcj (bool_eq (decide_eq_false (by omega))) ?_
     repeat (first|refine zck ?_|refine zcl ?_|refine zcm ?_|refine zcn ?_|refine zco ?_)
     have hpi : A.pushIn n v d t = A.rest n v d t := by simp only [Ar.pushIn]; rw [if_neg hlt]
     refine zeq ⟨rfl, (d, t), ⟨rfl, rfl, rfl, rfl, rfl, rfl, trivial⟩, ⟨rfl, hd4, by dsimp only; omega, hsm2.mono (by decide), hpi⟩⟩
   refine zci (bool_eq (decide_eq_true (by omega))) ?_
   have hgOk : ∀ s', A.grow n d t = (0, s') → A.pushIn n v d t = A.rest n v (dep (n + 1)) s' := fun s' h => by
     simp only [Ar.pushIn]; rw [if_pos hlt, h]; rfl
   have hgNo : ∀ e s', A.grow n d t = (e, s') → e ≠ 0 → A.pushIn n v d t = (0, e, s') := fun e s' h he => by
     simp only [Ar.pushIn]; rw [if_pos hlt, h, if_neg he]
   have hgr : A.grow n d t = A.grow n d t := rfl
   conv at hgr => rhs; simp only [Ar.grow]
   have hG := getS w0 p t A.root (hsm2.mono (by decide))
   have hsm3 : Sm (t.get A.root).2 24 := sm_get hsm2
   generalize t.get A.root = g at hgr hG hsm3
   refine zyr ?_
   repeat' first|(refine zap rfl ?_;first|(refine zau rfl rfl (by omega) ?_; rw [Int.add_zero])|refine zah [0] hG rfl rfl rfl zdj rfl ?_)|refine zp ?_|refine zyl 0 rfl ?_|refine zyf rfl ?_|refine zyn ?_
   refine zyr ?_
   repeat' first|(refine zap rfl ?_;refine zbs rfl rfl ?_)|refine zp ?_|refine zyn ?_
   refine run_slots [(1, spP p), (2, .int .i64 v), (3, ptrA bx), (7, ptrA nb), (8, .int .i64 n), (9, .int .i64 d), (11, .int .i64 (dep (n + 1))), (12, .int .i64 g.1), (51, .bool (decide (0 < d)))] ⟨rfl, rfl, rfl, rfl, rfl, rfl, rfl, rfl, bool_eq (dec_eq (by omega)), trivial⟩ (fun junk => ?_)
   refine run_join (S := Int × Sp) (fun st => [(1, spP p), (2, .int .i64 v), (3, ptrA bx), (7, ptrA nb), (8, .int .i64 n), (9, .int .i64 d), (11, .int .i64 (dep (n + 1))), (12, .int .i64 g.1)])
     (fun st Γ => Γ = [SpaceA p st.2, eV nb 0] ∧ Sm st.2 24 ∧ (if 0 < d then A.node g.2 A.root else (0, true, g.2)) = (st.1, true, st.2)) ?_ ?_
   · by_cases hd0 : 0 < d
     · refine zci (bool_eq (decide_eq_true hd0)) ?_
       rw [if_pos hd0] at hgr
       have hN := anode_spec w0 p A hA g.2 A.root (hsm3.mono (by decide))
       have hsm4 : Sm (A.node g.2 A.root).2.2 24 := sm_node hsm3
       rw [if_pos hd0]
       generalize A.node g.2 A.root = c at hgr hN hsm4
       refine zyr ?_
       repeat' first|(refine zap rfl ?_;first|(refine zau rfl rfl (by omega) ?_; rw [Int.add_zero])|refine zah [0] hN rfl rfl rfl zdj rfl ?_)|refine zp ?_|refine zyl 0 rfl ?_|refine zyf rfl ?_|refine zyn ?_
       refine zyr ?_
       repeat' first|(refine zap rfl ?_;refine zbx rfl ?_)|refine zp ?_|refine zyn ?_
       refine zee rfl (fun hE => ?_) (fun hE => ?_)
       · have hE : c.2.1 = false := by simpa using hE
         rw [hE, if_neg (by decide)] at hgr
         repeat' first|refine zck ?_|refine zyq ?_|(refine zap rfl ?_;refine zae 1 rfl rfl rfl rfl rfl rfl rfl ?_)|refine zp ?_|refine zch ?_
         exact qret rfl (fun _ _ h => h) (fin _ _ _ _ rfl rfl (hgNo _ _ hgr (by decide)))
       · have hE : c.2.1 = true := by simpa using hE
         repeat (first|refine zck ?_|refine zcl ?_|refine zcm ?_|refine zcn ?_|refine zco ?_)
         exact zeq ⟨rfl, (c.1, c.2.2), ⟨rfl, rfl, rfl, rfl, rfl, rfl, rfl, rfl, trivial⟩, ⟨rfl, hsm4, by rw [← hE]⟩⟩
     · refine zcj (bool_eq (decide_eq_false hd0)) ?_
       repeat (first|refine zck ?_|refine zcl ?_|refine zcm ?_|refine zcn ?_|refine zco ?_)
       exact zeq ⟨rfl, (0, g.2), ⟨rfl, rfl, rfl, rfl, rfl, rfl, rfl, rfl, trivial⟩, ⟨rfl, hsm3, by rw [if_neg hd0]⟩⟩
   rintro ⟨ca, s1⟩ Γ' junk ⟨rfl, hsm4, hc⟩
   dsimp only at hsm4 hc ⊢
   rw [hc] at hgr
   rw [if_pos rfl] at hgr
   have hT := atake_spec w0 p A hA s1 (hsm4.mono (by decide))
   have hsm5 : Sm (A.take s1).2.2 21 := sm_take hsm4
   dsimp only at hgr
   generalize A.take s1 = k1 at hgr hT hsm5
   refine zyr ?_
   repeat' first|(refine zap rfl ?_;refine zah [0] hT rfl rfl rfl zdj rfl ?_)|refine zp ?_|refine zyl 0 rfl ?_|refine zyn ?_
   refine zyr ?_
   repeat' first|(refine zap rfl ?_;refine zbp rfl rfl ?_)|refine zp ?_|refine zyn ?_
   refine zed rfl (fun hE => ?_) (fun hE => ?_)
   · rw [if_neg hE] at hgr
     repeat' first|refine zck ?_|refine zyq ?_|(refine zap rfl ?_;refine zae 1 rfl rfl rfl rfl rfl rfl rfl ?_)|refine zp ?_|refine zch ?_
     exact qret rfl (fun _ _ h => h) (fin _ _ _ _ rfl rfl (hgNo _ _ hgr hE))
   have hE : k1.2.1 = 0 := Decidable.of_not_not hE
   rw [if_pos hE] at hgr
   refine zyr ?_
   repeat' first|(refine zap rfl ?_;refine zbs rfl rfl ?_)|refine zp ?_|refine zyn ?_
   refine run_slots [(1, spP p), (2, .int .i64 v), (3, ptrA bx), (7, ptrA nb), (8, .int .i64 n), (9, .int .i64 d), (11, .int .i64 (dep (n + 1))), (12, .int .i64 g.1), (15, .int .i64 k1.1), (73, .bool (decide (0 < d)))] ⟨rfl, rfl, rfl, rfl, rfl, rfl, rfl, rfl, rfl, bool_eq (dec_eq (by omega)), trivial⟩ (fun junk => ?_)
   refine run_join (S := Sp) (fun _ => [(1, spP p), (2, .int .i64 v), (3, ptrA bx), (7, ptrA nb), (8, .int .i64 n), (11, .int .i64 (dep (n + 1))), (15, .int .i64 k1.1)])
     (fun st Γ => Γ = [SpaceA p st, eV nb 0] ∧ Sm st 20 ∧ (if 0 < d then k1.2.2.put k1.1 g.1 else k1.2.2) = st) ?_ ?_
   · by_cases hd0 : 0 < d
     · refine zci (bool_eq (decide_eq_true hd0)) ?_
       repeat' first|refine zyq ?_|(refine zap rfl ?_;refine zah [0] (putS w0 p _ _ _ (hsm5.mono (by decide))) rfl rfl rfl zdj rfl ?_)|refine zp ?_|refine zch ?_
       exact zeq ⟨rfl, _, ⟨rfl, rfl, rfl, rfl, rfl, rfl, rfl, trivial⟩, ⟨rfl, sm_put hsm5, by rw [if_pos hd0]⟩⟩
     · refine zcj (bool_eq (decide_eq_false hd0)) ?_
       repeat (first|refine zck ?_|refine zcl ?_|refine zcm ?_|refine zcn ?_|refine zco ?_)
       exact zeq ⟨rfl, _, ⟨rfl, rfl, rfl, rfl, rfl, rfl, rfl, trivial⟩, ⟨rfl, hsm5.mono (by decide), by rw [if_neg hd0]⟩⟩
   rintro s2 Γ' junk ⟨rfl, hsm6, hc2⟩
   rw [hc2] at hgr
   have hsm := hsm6
   repeat' first|refine zck ?_|refine zyq ?_|(refine zap rfl ?_;first|(refine zau rfl rfl (by omega) ?_; rw [Int.add_zero])|refine zah [0] (putS w0 p _ _ _ (by first|exact hsm.mono (by decide) | (repeat (first|refine sm_get ?_|refine sm_put ?_|refine sm_node ?_|refine sm_take ?_|refine sm_many ?_|refine sm_way ?_|refine sm_poolTake ?_|refine sm_give ?_|refine sm_place ?_)); exact hsm.mono (by decide))) rfl rfl rfl zdj rfl ?_|refine zau rfl rfl (by omega) ?_)|refine zp ?_|refine zyl 0 rfl ?_|refine zyf rfl ?_|refine zch ?_
   exact zeq ⟨rfl, (dep (n + 1), (s2.put A.root k1.1).put (A.root + 2) (dep (n + 1))), ⟨rfl, rfl, rfl, rfl, rfl, rfl, trivial⟩, ⟨rfl, hd5, hd6, sm_put (sm_put hsm6), hgOk _ hgr⟩⟩
 · rintro ⟨d1, s1⟩ Γ' junk ⟨rfl, hd1, hd2, hsm3, hpi⟩
   dsimp only at hd1 hd2 hsm3 hpi ⊢
   have hr : A.rest n v d1 s1 = A.rest n v d1 s1 := rfl
   conv at hr => rhs; simp only [Ar.rest]
   rw [← hpi] at hr
   have hN := anode_spec w0 p A hA s1 A.root (hsm3.mono (by decide))
   have hsm4 : Sm (A.node s1 A.root).2.2 18 := sm_node hsm3
   have hb := A.node_bd s1 A.root
   generalize A.node s1 A.root = c at hr hN hsm4 hb
   refine zyr ?_
   repeat' first|(refine zap rfl ?_;first|(refine zau rfl rfl (by omega) ?_; rw [Int.add_zero])|refine zah [0] hN rfl rfl rfl zdj rfl ?_)|refine zp ?_|refine zyl 0 rfl ?_|refine zyf rfl ?_|refine zyn ?_
   refine zyr ?_
   repeat' first|(refine zap rfl ?_;refine zbx rfl ?_)|refine zp ?_|refine zyn ?_
   refine zee rfl (fun hE => ?_) (fun hE => ?_)
   · have hE : c.2.1 = false := by simpa using hE
     rw [hE, if_neg (by decide)] at hr
     repeat' first|refine zck ?_|refine zyq ?_|(refine zap rfl ?_;refine zae 1 rfl rfl rfl rfl rfl rfl rfl ?_)|refine zp ?_|refine zch ?_
     exact qret rfl (fun _ _ h => h) (fin _ _ _ _ rfl rfl hr)
   have hE : c.2.1 = true := by simpa using hE
   rw [if_pos hE] at hr
   repeat (first|refine zck ?_|refine zcl ?_|refine zcm ?_|refine zcn ?_|refine zco ?_)
   refine run_loop (S := Nat × Int × Sp) (fun st => [(1, spP p), (2, .int .i64 v), (3, ptrA bx), (7, ptrA nb), (8, .int .i64 n), (9, .int .i64 ((st.1 + 1 : Nat) : Int)), (17, .int .i64 st.2.1)])
     (fun st Γ => Γ = [SpaceA p st.2.2, eV nb 0] ∧ st.1 ≤ 3 ∧ (0 ≤ st.2.1 ∧ st.2.1 ≤ 4096) ∧ Sm st.2.2 (2 + 4 * st.1) ∧ A.down n d1 c.1 c.2.2 = A.down n (st.1 + 1) st.2.1 st.2.2)
     (fun st => st.1) (d1 - 1, c.1, c.2.2) ⟨rfl, rfl, rfl, rfl, rfl, zes (by dsimp only; omega), rfl, trivial⟩
     ⟨rfl, by dsimp only; omega, hb, hsm4.mono (by dsimp only; omega), by dsimp only; rw [Nat.sub_add_cancel hd2]⟩ ?_
   rintro ⟨d2, at_, s2⟩ Γ' junk ⟨rfl, hdb, hab, hsm5, hdn⟩
   dsimp only at hdb hab hsm5 hdn ⊢
   rw [hdn] at hr
   cases d2 with
   | zero =>
     have hdn0 : A.down n (0 + 1) at_ s2 = (0, at_, s2) := rfl
     rw [hdn0] at hr
     dsimp only at hr
     rw [if_pos rfl] at hr
     have hsm := hsm5
     repeat' first|refine zck ?_|refine zyq ?_|(refine zap rfl ?_;refine zbs rfl rfl ?_)|refine zp ?_|refine zch ?_|refine zcj rfl ?_
     refine zer rfl rfl ?_
     have hdg := dig_bd n 1
     repeat' first|refine zck ?_|refine zyq ?_|(refine zap rfl ?_;first|refine zah [0] (putS w0 p _ _ _ (by first|exact hsm.mono (by decide) | (repeat (first|refine sm_get ?_|refine sm_put ?_|refine sm_node ?_|refine sm_take ?_|refine sm_many ?_|refine sm_way ?_|refine sm_poolTake ?_|refine sm_give ?_|refine sm_place ?_)); exact hsm.mono (by decide))) rfl rfl rfl zdj rfl ?_|refine zah [] (digit_spec w0 hw n 1 (by omega) (by omega) _ rfl) rfl rfl rfl zdj rfl ?_|refine zau rfl rfl (by omega) ?_|refine zae 1 rfl rfl rfl rfl rfl rfl rfl ?_)|refine zp ?_|refine zyl 0 rfl ?_|refine zyf rfl ?_|refine zch ?_
     exact qret rfl (fun _ _ h => h) (fin _ _ _ _ rfl rfl hr)
   | succ d2 =>
     have hdg := dig_bd n (d2 + 1 + 1)
     have hp := pw_pos (d2 + 1)
     have hdn1 : A.down n (d2 + 1 + 1) at_ s2 = A.down n (d2 + 1 + 1) at_ s2 := rfl
     conv at hdn1 => rhs; unfold Ar.down
     rw [if_neg (by omega)] at hdn1
     rw [hdn1] at hr
     have hsm6 : Sm s2 (2 + 4 * d2 + 4) := hsm5.mono (by omega)
     refine zyr ?_
     repeat' first|(refine zap rfl ?_;refine zbs rfl rfl ?_)|refine zp ?_|refine zyn ?_
     refine zci (bool_eq (decide_eq_true (by omega))) ?_
     refine zyr ?_
     repeat' first|(refine zap rfl ?_;first|refine zah [] (digit_spec w0 hw n (d2 + 1 + 1) (by omega) (by omega) _ rfl) rfl rfl rfl zdj rfl ?_|refine zau rfl rfl (by omega) ?_)|refine zp ?_|refine zyn ?_
     refine zyr ?_
     repeat' first|(refine zap rfl ?_;first|refine zac rfl hw2 (powL_rd (d2 + 1) (by omega) _ (by omega)) ?_|refine zav rfl rfl (by omega) ?_|refine zbo rfl rfl ?_|refine zay rfl rfl (by omega) ?_|refine zat rfl rfl (by omega) ?_)|refine zp ?_|refine zyn ?_
     refine run_slots [(1, spP p), (2, .int .i64 v), (3, ptrA bx), (7, ptrA nb), (8, .int .i64 n), (9, .int .i64 ((d2 + 1 + 1 : Nat) : Int)), (18, .int .i64 (at_ + digA n (d2 + 1 + 1))), (117, .bool (decide (n % pw (d2 + 1) = 0)))] ⟨rfl, rfl, rfl, rfl, rfl, rfl, rfl, rfl, trivial⟩ (fun junk => ?_)
     generalize hce : at_ + digA n (d2 + 1 + 1) = cell at hr
     have hcb : 0 ≤ cell ∧ cell ≤ 5000 := by omega
     refine run_join (S := Sp) (fun _ => [(1, spP p), (2, .int .i64 v), (3, ptrA bx), (7, ptrA nb), (8, .int .i64 n), (9, .int .i64 ((d2 + 1 + 1 : Nat) : Int)), (18, .int .i64 cell)])
       (fun st Γ => Γ = [SpaceA p st, eV nb 0] ∧ Sm st (2 + 4 * d2) ∧ A.add n (d2 + 1 + 1) cell s2 = (0, st)) ?_ ?_
     · by_cases hz : n % pw (d2 + 1) = 0
       · refine zci (bool_eq (decide_eq_true hz)) ?_
         have ha : A.add n (d2 + 1 + 1) cell s2 = A.add n (d2 + 1 + 1) cell s2 := rfl
         conv at ha => rhs; unfold Ar.add
         rw [Nat.add_sub_cancel, if_pos hz] at ha
         have hT := atake_spec w0 p A hA s2 (hsm6.mono (by omega))
         have hsm7 : Sm (A.take s2).2.2 (2 + 4 * d2 + 1) := sm_take hsm6
         dsimp only at ha
         generalize A.take s2 = k1 at ha hT hsm7
         refine zyr ?_
         repeat' first|(refine zap rfl ?_;refine zah [0] hT rfl rfl rfl zdj rfl ?_)|refine zp ?_|refine zyl 0 rfl ?_|refine zyn ?_
         refine zyr ?_
         repeat' first|(refine zap rfl ?_;refine zbp rfl rfl ?_)|refine zp ?_|refine zyn ?_
         refine zed rfl (fun hE => ?_) (fun hE => ?_)
         · rw [if_neg hE] at ha
           rw [ha] at hr
           dsimp only at hr
           rw [if_neg hE] at hr
           dsimp only at hr
           rw [if_neg hE] at hr
           repeat' first|refine zck ?_|refine zyq ?_|(refine zap rfl ?_;refine zae 1 rfl rfl rfl rfl rfl rfl rfl ?_)|refine zp ?_|refine zch ?_
           exact qret rfl (fun _ _ h => h) (fin _ _ _ _ rfl rfl hr)
         · have hE : k1.2.1 = 0 := Decidable.of_not_not hE
           rw [if_pos hE] at ha
           repeat' first|refine zcm ?_|refine zyq ?_|(refine zap rfl ?_;refine zah [0] (putS w0 p _ _ _ (hsm7.mono (by omega))) rfl rfl rfl zdj rfl ?_)|refine zp ?_|refine zch ?_
           exact zeq ⟨rfl, _, ⟨rfl, rfl, rfl, rfl, rfl, rfl, rfl, trivial⟩, ⟨rfl, sm_put hsm7, ha⟩⟩
       · refine zcj (bool_eq (decide_eq_false hz)) ?_
         repeat (first|refine zck ?_|refine zcl ?_|refine zcm ?_|refine zcn ?_|refine zco ?_)
         refine zeq ⟨rfl, s2, ⟨rfl, rfl, rfl, rfl, rfl, rfl, rfl, trivial⟩, ⟨rfl, hsm6.mono (by omega), ?_⟩⟩
         unfold Ar.add
         rw [Nat.add_sub_cancel, if_neg hz]
     rintro s3 Γ' junk ⟨rfl, hsm7, ha⟩
     rw [ha] at hr
     dsimp only at hr
     rw [if_pos rfl] at hr
     have hN := anode_spec w0 p A hA s3 cell (hsm7.mono (by omega))
     have hsm8 : Sm (A.node s3 cell).2.2 (2 + 4 * d2) := sm_node hsm7
     have hb3 := A.node_bd s3 cell
     have hdn2 : (A.node s3 cell).2.1 = true → A.down n (d2 + 1 + 1) at_ s2 = A.down n (d2 + 1) (A.node s3 cell).1 (A.node s3 cell).2.2 := fun h => by
       rw [hdn1]; simp [hce, ha, h]
     generalize A.node s3 cell = q at hr hN hsm8 hb3 hdn2
     refine zyr ?_
     repeat' first|(refine zap rfl ?_;refine zah [0] hN rfl rfl rfl zdj rfl ?_)|refine zp ?_|refine zyl 0 rfl ?_|refine zyn ?_
     refine zyr ?_
     repeat' first|(refine zap rfl ?_;refine zbx rfl ?_)|refine zp ?_|refine zyn ?_
     refine zee rfl (fun hE => ?_) (fun hE => ?_)
     · have hE : q.2.1 = false := by simpa using hE
       have hr : A.pushIn n v d t = (0, 24, q.2.2) := by rw [hr]; simp [hE]
       repeat' first|refine zck ?_|refine zyq ?_|(refine zap rfl ?_;refine zae 1 rfl rfl rfl rfl rfl rfl rfl ?_)|refine zp ?_|refine zch ?_
       exact qret rfl (fun _ _ h => h) (fin _ _ _ _ rfl rfl hr)
     · have hE : q.2.1 = true := by simpa using hE
       repeat' first|refine zcm ?_|refine zcn ?_|refine zyq ?_|(refine zap rfl ?_;refine zav rfl rfl (by omega) ?_)|refine zp ?_|refine zch ?_
       exact zeq ⟨rfl, (d2, q.1, q.2.2), ⟨rfl, rfl, rfl, rfl, rfl, zes (by dsimp only; omega), rfl, trivial⟩, ⟨rfl, by dsimp only; omega, hb3, hsm8, hdn.trans (hdn2 hE)⟩, by dsimp only; omega⟩
end Go.Proofs.YtgdhcgnmffgkiaaGreatDoor
namespace Sim
open Go Go.Vc
def Ar.gives (A : Ar) (n : Int) (d now : Nat) : List Int → Nat → Int → Sp → Int × Int × Sp
 | [], _, gone, s => (0, gone, s)
 | a :: l, i, gone, s =>
   if (n - 1) % pw (d - i) ≠ 0 ∧ (0 < i ∨ now = d) then A.gives n d now l (i + 1) gone s
   else if (A.pool.give s a).1 = 0 then A.gives n d now l (i + 1) (gone + 1) (A.pool.give s a).2 else ((A.pool.give s a).1, gone, (A.pool.give s a).2)
def Ar.fell (A : Ar) (n : Int) (d now : Nat) (top gone : Int) (s : Sp) : Sp :=
 let s1 := if 0 < gone then (s.get (A.root + 7)).2.put (A.root + 7) (w64 ((s.get (A.root + 7)).1 - gone)) else s
 let s2 := if now < d then (s1.put A.root top).put (A.root + 2) now else s1
 s2.put (A.root + 1) (n - 1)
def Ar.popOn (A : Ar) (n : Int) (d now : Nat) (l : List Int) (v top : Int) (s : Sp) : Int × Int × Sp :=
 let g := A.gives n d now l 0 0 s
 if g.1 = 0 then (v, 0, A.fell n d now top g.2.1 g.2.2) else (0, g.1, g.2.2)
def Ar.popIn (A : Ar) (n : Int) (d : Nat) (s : Sp) : Int × Int × Sp :=
 match A.way (n - 1) d A.root s [] with
 | (none, t) => (0, 24, t)
 | (some l, t) =>
   let g := t.get (l.getD (d - 1) 0 + digA (n - 1) 1)
   let now := dep (n - 1)
   if 0 < now ∧ now < d then
     let x := A.node g.2 (l.getD 0 0)
     if x.2.1 then A.popOn n d now l g.1 x.1 x.2.2 else (0, 24, x.2.2)
   else A.popOn n d now l g.1 (if 0 < now then l.getD 0 0 else 0) g.2
def Ar.undoPop (m : Int) (r : Int × Int × Sp) : Int × Int × Sp := if r.2.1 ≠ 0 then (0, r.2.1, r.2.2.back m) else r
def Ar.pop (A : Ar) (s : Sp) : Int × Int × Sp :=
 let m := A.many s
 if m.1 = 0 then (0, 8, m.2.2.2) else
 if m.2.2.1 then Ar.undoPop m.2.2.2.puts.length (A.popIn m.1 m.2.1.toNat m.2.2.2) else (0, 24, m.2.2.2)
theorem sm_gives {A : Ar} {n : Int} {d now : Nat} : ∀ {l : List Int} {i : Nat} {gone : Int} {s : Sp} {j : Nat}, Sm s (j + 3 * l.length) → Sm (A.gives n d now l i gone s).2.2 j
 | [], i, gone, s, j, h => h.mono (by omega)
 | a :: l, i, gone, s, j, h => by
   simp only [List.length_cons] at h
   simp only [Ar.gives]
   split
   · exact sm_gives (h.mono (by omega))
   · have h2 := sm_give (P := A.pool) (a := a) (s := s) (j := j + 3 * l.length) (h.mono (by omega))
     split
     · exact sm_gives h2
     · exact h2.mono (by omega)
theorem sm_fell {A : Ar} {n : Int} {d now : Nat} {top gone : Int} {s : Sp} {j : Nat} (h : Sm s (j + 4)) : Sm (A.fell n d now top gone s) j := by
 unfold Ar.fell
 have h1 : Sm (if 0 < gone then (s.get (A.root + 7)).2.put (A.root + 7) (w64 ((s.get (A.root + 7)).1 - gone)) else s) (j + 3) := by
   split
   · exact sm_put (sm_get h)
   · exact h.mono (by omega)
 dsimp only
 generalize (if 0 < gone then (s.get (A.root + 7)).2.put (A.root + 7) (w64 ((s.get (A.root + 7)).1 - gone)) else s) = s1 at h1
 refine sm_put ?_
 split
 · exact sm_put (sm_put h1)
 · exact h1.mono (by omega)
theorem sm_popOn {A : Ar} {n : Int} {d now : Nat} {l : List Int} {v top : Int} {s : Sp} {j : Nat} (h : Sm s (j + 4 + 3 * l.length)) : Sm (A.popOn n d now l v top s).2.2 j := by
 unfold Ar.popOn
 have h1 := sm_gives (A := A) (n := n) (d := d) (now := now) (l := l) (i := 0) (gone := 0) h
 dsimp only
 split
 · exact sm_fell h1
 · exact h1.mono (by omega)
theorem sm_pop {A : Ar} {s : Sp} {j : Nat} (h : Sm s (j + 24)) : Sm (A.pop s).2.2 j := by
 have h1 := sm_many (A := A) h
 unfold Ar.pop
 dsimp only
 split
 · exact h1.mono (by omega)
 · split
   · have hm := many_ok (A := A) (s := s) ‹_›
     have hd := dep_le (A.many s).1
     have key : Sm (A.popIn (A.many s).1 (A.many s).2.1.toNat (A.many s).2.2.2).2.2 j := by
       unfold Ar.popIn
       have h2 := sm_way (A := A) (i := (A.many s).1 - 1) (d := (A.many s).2.1.toNat) (c := A.root) (acc := []) h1
       have h3 := way_len A ((A.many s).1 - 1) (A.many s).2.1.toNat A.root (A.many s).2.2.2 []
       split
       · rename_i t ht; rw [ht] at h2; exact h2.mono (by omega)
       · rename_i l t ht
         rw [ht] at h2 h3
         have hl := (h3 l rfl).1
         rw [List.length_nil] at hl
         dsimp only
         split
         · split
           · exact sm_popOn (sm_node (sm_get (h2.mono (by omega))))
           · exact (sm_node (sm_get h2)).mono (by omega)
         · exact sm_popOn (sm_get (h2.mono (by omega)))
     unfold Ar.undoPop
     split
     · exact sm_back key
     · exact key
   · exact h1.mono (by omega)
end Sim
namespace Go.Proofs.YtgdhcgnmffgkiaaGreatDoor
variable (w0 : World)
open Go.Vc Sim
set_option maxHeartbeats 4000000
abbrev vV (vb : Nat) (x : Int) : Asn := pt vb (.cells (List.toArray [.int .i64 x]) 2 (0, 0))
abbrev mVA (b : Nat) (x : Int) : Asn := pt b (.cells (List.toArray [.int .i64 x]) 3 (0, 0))
abbrev sV (b p : Nat) : Asn := pt b (.cells (List.toArray [spP p]) 24 (0, 0))
theorem aback_spec (p : Nat) (s : Sp) (m : Int) (eb : Nat) (e : Int) : FnE PP w0 [] 161 [spP p, .int .i64 m, ptrA eb] [SpaceA p s, eV eb e]
   (.tuple #[]) [SpaceA p (if e ≠ 0 then s.back m else s), eV eb e] := by
 refine zep en161 fn161 rfl rfl rfl ?_
 repeat' first|refine zck ?_|refine zyq ?_|(refine zap rfl ?_;first|refine zab 1 rfl rfl rfl ?_|refine zbp rfl rfl ?_)|refine zp ?_|refine zch ?_
 refine zed rfl (fun hE => ?_) (fun hE => ?_)
 · repeat' first|refine zyq ?_|(refine zap rfl ?_;refine zah [0] (back_spec w0 p s m) rfl rfl rfl zdj rfl ?_)|refine zp ?_|refine zch ?_
   rw [if_pos hE]; exact end_tmp0 rfl ⟨rfl, rfl⟩
 · repeat' first|refine zcm ?_|refine zp ?_|refine zch ?_
   rw [if_neg hE]; exact end_tmp0 rfl ⟨rfl, rfl⟩
theorem pop1_specD (p : Nat) (s : Sp) (mk e x : Int) (b3 b9 eb vb : Nat) : FnD PP w0 [] 166 [ptrA b3, ptrA b9, ptrA eb, ptrA vb] [SpaceA p s, eV eb e, vV vb x, sV b3 p, mVA b9 mk]
   fun v Γ' => v = .tuple #[] ∧ Γ' = [SpaceA p (if e ≠ 0 then s.back mk else s), eV eb e, vV vb (if e ≠ 0 then 0 else x), sV b3 p, mVA b9 mk] := by
 refine fnD_of_run en166 fn166 rfl rfl rfl ?_
 repeat' first|refine zck ?_|refine zyq ?_|(refine zap rfl ?_;first|refine zab 1 rfl rfl rfl ?_|refine zab 3 rfl rfl rfl ?_|refine zab 4 rfl rfl rfl ?_|refine zah [0, 0] (aback_spec w0 p s mk eb e) rfl rfl rfl zdj rfl ?_|refine zbp rfl rfl ?_)|refine zch ?_
 by_cases hE : e ≠ 0
 · refine zci (bool_eq (decide_eq_true hE)) ?_
   repeat' first|refine zyq ?_|(refine zap rfl ?_;refine zae 2 rfl rfl rfl rfl rfl rfl rfl ?_)|refine zch ?_
   refine run_nil ⟨rfl, ends_none rfl ?_⟩
   rw [if_pos hE, if_pos hE]; exact ⟨rfl, rfl⟩
 · refine zcj (bool_eq (decide_eq_false hE)) ?_
   repeat' first|refine zcm ?_|(refine zap rfl ?_;first|refine zaj rfl ?_|refine zak rfl ?_|refine zal rfl ?_|refine zam rfl rfl (fun _ => ?_) (fun _ => ?_))|refine zch ?_
   refine run_nil ⟨rfl, ends_none rfl ?_⟩
   rw [if_neg hE, if_neg hE]; exact ⟨rfl, rfl⟩
def popD (b3 b9 eb vb : Nat) : Deferred := { target := .fn (.func 166) (List.toArray [ptrA b3, ptrA b9, ptrA eb, ptrA vb]), args := List.toArray [] }
theorem pop_fin (p b3 b9 eb vb : Nat) (mk : Int) (r : Int × Int × Sp) (x e : Int) (s' : Sp) (ρ : Env) (h4 : ρ 4 = ptrA vb) (h5 : ρ 5 = ptrA eb) (hr : r = (x, e, s')) :
   LeavesS PP w0 [] Tryz.f80 ρ [popD b3 b9 eb vb] [SpaceA p s', vV vb x, eV eb e, mVA b9 mk, sV b3 p] (pushRV p (Ar.undoPop mk r)) := by
 subst hr
 refine leaves_defer1 [0, 1, 0, 1, 0] (pop1_specD w0 p s' mk e x b3 b9 eb vb) rfl rfl zdj ?_
 refine zek (zel [0] rfl (zen rfl (zeo 2 h4 rfl rfl) (zeo 1 h5 rfl rfl) ?_))
 refine ⟨rfl, ?_⟩
 unfold Ar.undoPop
 by_cases hE : e ≠ 0
 · simp only [if_pos hE]; exact ⟨rfl, rfl⟩
 · simp only [if_neg hE]; exact ⟨rfl, rfl⟩
end Go.Proofs.YtgdhcgnmffgkiaaGreatDoor
