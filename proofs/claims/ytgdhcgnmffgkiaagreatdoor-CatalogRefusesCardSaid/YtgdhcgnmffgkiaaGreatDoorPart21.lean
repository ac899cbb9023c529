import Derived.Test.YtgdhcgnmffgkiaaGreatDoorPart20
import Derived.Test.YtgdhcgnmffgkiaaGreatDoorKitA
/- Own work: lemmas of this claim. -/
namespace Sim
open Go Go.Vc
structure Ar where
 pool : Pl
 root : Int
def Ar.Ok (A : Ar) : Prop := A.pool.Ok ∧ -9223372036854775808 ≤ A.root ∧ A.root ≤ 9223372036854775807
def pw : Nat → Int
 | 0 => 1
 | 1 => 8
 | 2 => 64
 | 3 => 512
 | _ => 4096
def dep (n : Int) : Nat := if n = 0 then 0 else if n ≤ 8 then 1 else if n ≤ 64 then 2 else if n ≤ 512 then 3 else 4
def digA (i : Int) (d : Nat) : Int := i / pw (d - 1) % 8
theorem pw_pos : ∀ d, 1 ≤ pw d ∧ pw d ≤ 4096
 | 0 => by decide
 | 1 => by decide
 | 2 => by decide
 | 3 => by decide
 | _ + 4 => ⟨by simp [pw], by simp [pw]⟩
theorem dig_bd (i : Int) (d : Nat) : 0 ≤ digA i d ∧ digA i d ≤ 7 := by unfold digA; omega
theorem dep_le (n : Int) : dep n ≤ 4 := by unfold dep; split <;> try split <;> try split <;> try split
                                           all_goals omega
def Ar.many (A : Ar) (s : Sp) : Int × Int × Bool × Sp :=
 if (s.get (w64 (A.root + 1))).1 < 0 ∨ 4096 < (s.get (w64 (A.root + 1))).1 then ((s.get (w64 (A.root + 1))).1, 0, false, (s.get (w64 (A.root + 1))).2)
 else ((s.get (w64 (A.root + 1))).1, dep (s.get (w64 (A.root + 1))).1, decide (((s.get (w64 (A.root + 1))).2.get (w64 (A.root + 2))).1 = dep (s.get (w64 (A.root + 1))).1), ((s.get (w64 (A.root + 1))).2.get (w64 (A.root + 2))).2)
def Ar.node (A : Ar) (s : Sp) (cell : Int) : Int × Bool × Sp :=
 if (s.get cell).1 ≤ 0 ∨ 4096 < (s.get cell).1 then (0, false, (s.get cell).2) else ((s.get cell).1, A.pool.node (s.get cell).1, (s.get cell).2)
theorem Ar.node_bd (A : Ar) (s : Sp) (cell : Int) : 0 ≤ (A.node s cell).1 ∧ (A.node s cell).1 ≤ 4096 := by
 unfold Ar.node; split
 · simp
 · simp; omega
def Ar.take (A : Ar) (s : Sp) : Int × Int × Sp :=
 if (A.pool.take s).2.1 = 0 then ((A.pool.take s).1, (A.pool.take s).2.1, ((A.pool.take s).2.2.get (w64 (A.root + 7))).2.put (w64 (A.root + 7)) (w64 (((A.pool.take s).2.2.get (w64 (A.root + 7))).1 + 1)))
 else ((A.pool.take s).1, (A.pool.take s).2.1, (A.pool.take s).2.2)
def Ar.way (A : Ar) (i : Int) : Nat → Int → Sp → List Int → Option (List Int) × Sp
 | 0, _, s, acc => (some acc, s)
 | d + 1, cell, s, acc =>
   if (A.node s cell).2.1 then A.way i d ((A.node s cell).1 + digA i (d + 1)) (A.node s cell).2.2 (acc ++ [(A.node s cell).1])
   else (none, (A.node s cell).2.2)
theorem sm_add {P : Pl} {s : Sp} {j : Nat} {a v : Int} (h : Sm s (j + 1)) : Sm (P.add s a v) j := sm_put (sm_get h)
theorem sm_poolTake {P : Pl} {s : Sp} {j : Nat} (h : Sm s (j + 2)) : Sm (P.take s).2.2 j := by
 unfold Pl.take
 split
 · split
   · exact sm_add (sm_put (sm_get (sm_get h)))
   · exact (sm_get h).mono (by omega)
 · split
   · exact (sm_get (sm_get h)).mono (by omega)
   · exact (sm_put (sm_get (sm_get h))).mono (by omega)
theorem sm_give {P : Pl} {s : Sp} {j : Nat} {a : Int} (h : Sm s (j + 3)) : Sm (P.give s a).2 j := by
 unfold Pl.give
 split
 · exact sm_add (sm_put (sm_put (sm_get h)))
 · exact h.mono (by omega)
theorem sm_many {A : Ar} {s : Sp} {j : Nat} (h : Sm s j) : Sm (A.many s).2.2.2 j := by
 unfold Ar.many; split
 · exact sm_get h
 · exact sm_get (sm_get h)
theorem sm_node {A : Ar} {s : Sp} {j : Nat} {c : Int} (h : Sm s j) : Sm (A.node s c).2.2 j := by
 unfold Ar.node; split <;> exact sm_get h
theorem sm_take {A : Ar} {s : Sp} {j : Nat} (h : Sm s (j + 3)) : Sm (A.take s).2.2 j := by
 unfold Ar.take; split
 · exact sm_put (sm_get (sm_poolTake h))
 · exact (sm_poolTake h).mono (by omega)
theorem sm_way {A : Ar} {i : Int} : ∀ {d : Nat} {c : Int} {s : Sp} {acc : List Int} {j : Nat}, Sm s j → Sm (A.way i d c s acc).2 j
 | 0, _, _, _, _, h => h
 | d + 1, c, s, acc, j, h => by
   simp only [Ar.way]; split
   · exact sm_way (sm_node h)
   · exact sm_node h
end Sim
namespace Go.Proofs.YtgdhcgnmffgkiaaGreatDoor
variable (w0 : World)
open Go.Vc Sim
set_option maxHeartbeats 4000000
def powL : List Value := [.int .i64 1, .int .i64 8, .int .i64 64, .int .i64 512, .int .i64 4096]
def PowOk (w0 : World) : Prop := ∃ T fr, w0.heap[0]? = some (.cells (List.toArray powL) T fr)
theorem powL_rd (d : Nat) (hd : d ≤ 4) (o : Nat) (ho : o = d) : rd false 1 powL o = some (.int .i64 (pw d)) := by
 subst ho
 match o, hd with
 | 0, _ => rfl
 | 1, _ => rfl
 | 2, _ => rfl
 | 3, _ => rfl
 | 4, _ => rfl
def arrV (A : Ar) : Value := .agg #[.int .i64 A.pool.root, .int .i64 A.pool.frm, .int .i64 A.pool.nodes, .int .i64 A.root]
theorem depth_spec (hw : PowOk w0) (m : Int) : FnE PP w0 [] 162 [.int .i64 m] [] (.int .i64 (dep m)) [] := by
 obtain ⟨T, fr, hw⟩ := hw
 refine zep en162 fn162 rfl rfl rfl ?_
 repeat' (first|refine zck ?_|refine zcp (by kernel_rfl) ?_|(refine zap rfl ?_; first|refine zdw rfl rfl (by omega) ?_|refine zau rfl rfl (by omega) ?_|refine zdu rfl rfl ?_|refine zan rfl ?_|refine zan rfl ?_|refine zbo rfl rfl ?_)|refine zch ?_)
 refine zed rfl (fun hE => ?_) (fun hE => ?_)
 · repeat' (first|refine zck ?_|refine zcp (by kernel_rfl) ?_|(refine zap rfl ?_; first|refine zdw rfl rfl (by omega) ?_|refine zau rfl rfl (by omega) ?_|refine zdu rfl rfl ?_|refine zan rfl ?_)|refine zch ?_)
   refine zej rfl ⟨?_, rfl⟩
   rw [hE]; rfl
 · repeat' (first|refine zck ?_|refine zcp (by kernel_rfl) ?_|refine zcm ?_|refine zcl ?_|(refine zap rfl ?_; first|refine zdw rfl rfl (by omega) ?_|refine zau rfl rfl (by omega) ?_|refine zdu rfl rfl ?_|refine zan rfl ?_)|refine zch ?_)
   refine run_loop (S := Nat) (fun d => [(0, .int .i64 m), (3, .int .i64 d)]) (fun d Γ => Γ = [] ∧ 1 ≤ d ∧ d ≤ 4 ∧ d ≤ dep m) (fun d => 4 - d) 1 ⟨rfl, rfl, trivial⟩
     ⟨rfl, by decide, by decide, by unfold dep; rw [if_neg hE]; split <;> try split <;> try split
                                    all_goals omega⟩ ?_
   rintro d Γ junk ⟨rfl, h1, h2, h3⟩
   by_cases hd : d < 4
   · have dd : decide ((d : Int) < 4) = true := decide_eq_true (by omega)
     by_cases hm : pw d < m
     · have dm : decide (pw d < m) = true := decide_eq_true hm
       repeat' (first|refine zck ?_|refine zcp (by kernel_rfl) ?_|refine zcm ?_|refine zcl ?_|refine zcn ?_|(refine zap rfl ?_; first|(refine zbq rfl rfl ?_; rw [dd])|(refine zbq rfl rfl ?_; rw [dm])|refine zac rfl hw (powL_rd d h2 _ (by omega)) ?_|refine zdw rfl rfl (by omega) ?_|refine zau rfl rfl (by omega) ?_|refine zdu rfl rfl ?_|refine zaj rfl ?_|refine zan rfl ?_|refine zan rfl ?_|refine zbu rfl ?_|refine zat rfl rfl (by omega) ?_)|refine zch ?_|refine zci rfl ?_)
       refine zeq ⟨rfl, d + 1, ⟨rfl, zes (by omega), trivial⟩, ⟨rfl, by omega, by omega, ?_⟩, by omega⟩
       have : d = 1 ∨ d = 2 ∨ d = 3 := by omega
       unfold dep
       rcases this with rfl | rfl | rfl <;> simp only [pw] at hm
       all_goals (split <;> try split <;> try split <;> try split)
       all_goals omega
     · have dm : decide (pw d < m) = false := decide_eq_false hm
       repeat' (first|refine zck ?_|refine zcp (by kernel_rfl) ?_|(refine zap rfl ?_; first|(refine zbq rfl rfl ?_; rw [dd])|(refine zbq rfl rfl ?_; rw [dm])|refine zac rfl hw (powL_rd d h2 _ (by omega)) ?_|refine zdw rfl rfl (by omega) ?_|refine zau rfl rfl (by omega) ?_|refine zdu rfl rfl ?_|refine zaj rfl ?_|refine zan rfl ?_|refine zbu rfl ?_|refine zat rfl rfl (by omega) ?_)|refine zch ?_|refine zcj rfl ?_)
       refine zer rfl rfl ?_
       repeat' (first|refine zck ?_|refine zcp (by kernel_rfl) ?_|(refine zap rfl ?_; first|refine zdw rfl rfl (by omega) ?_|refine zau rfl rfl (by omega) ?_|refine zdu rfl rfl ?_|refine zan rfl ?_|refine zan rfl ?_)|refine zch ?_)
       refine zej rfl ⟨zes ?_, rfl⟩
       have hc : d = 1 ∨ d = 2 ∨ d = 3 := by omega
       have : d = dep m := by
         unfold dep at h3 ⊢
         rcases hc with rfl | rfl | rfl <;> simp only [pw] at hm
         all_goals (split at h3 <;> try split at h3 <;> try split at h3 <;> try split at h3)
         all_goals (try split)
         all_goals (try split)
         all_goals (try split)
         all_goals (try split)
         all_goals omega
       rw [← this]
   · have dd : decide ((d : Int) < 4) = false := decide_eq_false (by omega)
     repeat' (first|refine zck ?_|refine zcp (by kernel_rfl) ?_|(refine zap rfl ?_; first|(refine zbq rfl rfl ?_; rw [dd])|refine zdw rfl rfl (by omega) ?_|refine zau rfl rfl (by omega) ?_|refine zdu rfl rfl ?_|refine zak rfl ?_|refine zan rfl ?_|refine zbv rfl ?_)|refine zch ?_|refine zcj rfl ?_)
     refine zer rfl rfl ?_
     repeat' (first|refine zck ?_|refine zcp (by kernel_rfl) ?_|(refine zap rfl ?_; first|refine zdw rfl rfl (by omega) ?_|refine zau rfl rfl (by omega) ?_|refine zdu rfl rfl ?_|refine zan rfl ?_|refine zan rfl ?_)|refine zch ?_)
     refine zej rfl ⟨zes ?_, rfl⟩
     have := dep_le m
     omega
theorem digit_spec (hw : PowOk w0) (m : Int) (d : Nat) (hm : 0 ≤ m ∧ m ≤ 4096) (hd : 1 ≤ d ∧ d ≤ 4) (dI : Int) (hdI : dI = d) : FnE PP w0 [] 165 [.int .i64 m, .int .i64 dI] [] (.int .i64 (digA m d)) [] := by
 subst hdI
 obtain ⟨T, fr, hw⟩ := hw
 have hp := pw_pos (d - 1)
 have hq : m / pw (d - 1) ≤ m := Int.ediv_le_self _ hm.1
 have hq0 : 0 ≤ m / pw (d - 1) := Int.ediv_nonneg hm.1 (by omega)
 refine zep en165 fn165 rfl rfl rfl ?_
 repeat' (first|refine zck ?_|refine zcp (by kernel_rfl) ?_|(refine zap rfl ?_; first|refine zac rfl hw (powL_rd (d - 1) (by omega) _ (by omega)) ?_|refine zdw rfl rfl (by omega) ?_|refine zau rfl rfl (by omega) ?_|refine zdu rfl rfl ?_|refine zan rfl ?_|refine zan rfl ?_|refine zav rfl rfl (by omega) ?_|refine zax rfl rfl (by omega) ?_|refine zay rfl rfl (by omega) ?_|refine zat rfl rfl (by omega) ?_)|refine zch ?_)
 exact zej rfl ⟨rfl, rfl⟩
theorem anode_spec (p : Nat) (A : Ar) (hA : A.Ok) (s : Sp) (c : Int) (hsm : Sm s 0) : FnE PP w0 [] 163 [arrV A, spP p, .int .i64 c] [SpaceA p s]
   (.tuple #[.int .i64 (A.node s c).1, .bool (A.node s c).2.1]) [SpaceA p (A.node s c).2.2] := by
 refine zep en163 fn163 rfl rfl rfl ?_
 refine zyr ?_
 repeat' (refine zap rfl ?_;first|refine zdw rfl rfl (by omega) ?_|refine zau rfl rfl (by omega) ?_|refine zdu rfl rfl ?_|refine zan rfl ?_|refine zaq (cs := [_, _, _, _]) rfl (fun nb => ?_))
 all_goals refine zyn ?_
 refine zeb [1] rfl ?_
 refine zyr ?_
 repeat' (refine zap rfl ?_;first|refine zdw rfl rfl (by omega) ?_|refine zau rfl rfl (by omega) ?_|refine zdu rfl rfl ?_|refine zan rfl ?_|refine zan rfl ?_|refine zah [0] (getS w0 p _ _ (by first|exact hsm.mono (by decide) | (repeat (first|refine sm_get ?_|refine sm_put ?_|refine sm_node ?_|refine sm_take ?_|refine sm_many ?_|refine sm_way ?_|refine sm_poolTake ?_|refine sm_give ?_)); exact hsm.mono (by decide))) rfl rfl rfl zdj rfl ?_)
 all_goals refine zyn ?_
 by_cases h0 : (s.get c).1 ≤ 0
 · have d0 : decide ((s.get c).1 ≤ 0) = true := decide_eq_true h0
   have e : A.node s c = (0, false, (s.get c).2) := by simp [Ar.node, h0]
   repeat' (first|refine zck ?_|refine zcp (by kernel_rfl) ?_|(refine zap rfl ?_;first|(refine zbr rfl rfl ?_; rw [d0])|refine zdw rfl rfl (by omega) ?_|refine zau rfl rfl (by omega) ?_|refine zdu rfl rfl ?_|refine zak rfl ?_|refine zan rfl ?_|refine zan rfl ?_|refine zbu rfl ?_)|refine zch ?_|refine zci rfl ?_)
   rw [e]
   exact zei rfl ⟨rfl, rfl⟩
 · have d0 : decide ((s.get c).1 ≤ 0) = false := decide_eq_false h0
   by_cases h1 : 4096 < (s.get c).1
   · have d1 : decide (4096 < (s.get c).1) = true := decide_eq_true h1
     have e : A.node s c = (0, false, (s.get c).2) := by simp [Ar.node, h1]
     repeat' (first|refine zck ?_|refine zcp (by kernel_rfl) ?_|(refine zap rfl ?_;first|(refine zbr rfl rfl ?_; rw [d0])|(refine zbs rfl rfl ?_; rw [d1])|refine zdw rfl rfl (by omega) ?_|refine zau rfl rfl (by omega) ?_|refine zdu rfl rfl ?_|refine zaj rfl ?_|refine zan rfl ?_|refine zan rfl ?_|refine zbv rfl ?_)|refine zch ?_|refine zci rfl ?_)
     rw [e]
     exact zei rfl ⟨rfl, rfl⟩
   · have d1 : decide (4096 < (s.get c).1) = false := decide_eq_false h1
     have e : A.node s c = ((s.get c).1, A.pool.node (s.get c).1, (s.get c).2) := by simp [Ar.node, h0, h1]
     repeat' (first|refine zck ?_|refine zcp (by kernel_rfl) ?_|refine zcm ?_|(refine zap rfl ?_;first|(refine zbr rfl rfl ?_; rw [d0])|(refine zbs rfl rfl ?_; rw [d1])|refine zdw rfl rfl (by omega) ?_|refine zau rfl rfl (by omega) ?_|refine zdu rfl rfl ?_|refine zaj rfl ?_|refine zan rfl ?_|refine zan rfl ?_|refine zaa 0 rfl rfl rfl ?_|refine zah [] (node_spec w0 A.pool hA.1 _) rfl rfl rfl zdj rfl ?_|refine zao rfl ?_|refine zan rfl ?_|refine zbv rfl ?_)|refine zch ?_|refine zcj rfl ?_)
     rw [e]
     exact zei rfl ⟨rfl, rfl⟩
theorem len_spec (p : Nat) (A : Ar) (hA : A.Ok) (s : Sp) (hsm : Sm s 0) : FnE PP w0 [] 84 [arrV A, spP p] [SpaceA p s]
   (.int .i64 (s.get (w64 (A.root + 1))).1) [SpaceA p (s.get (w64 (A.root + 1))).2] := by
 obtain ⟨_, h1, h2⟩ := id hA
 refine zep en84 fn84 rfl rfl rfl ?_
 refine zyr ?_
 repeat' (refine zap rfl ?_;first|refine zdw rfl rfl (by omega) ?_|refine zau rfl rfl (by omega) ?_|refine zdu rfl rfl ?_|refine zan rfl ?_|refine zaq (cs := [_, _, _, _]) rfl (fun nb => ?_))
 all_goals refine zyn ?_
 refine zeb [1] rfl ?_
 repeat' (first|refine zcp (by kernel_rfl) ?_|(refine zap rfl ?_;first|refine zdw rfl rfl (by omega) ?_|refine zau rfl rfl (by omega) ?_|refine zdu rfl rfl ?_|refine zan rfl ?_|refine zan rfl ?_|refine zaa 0 rfl rfl rfl ?_|refine zah [0] (getS w0 p _ _ (by first|exact hsm.mono (by decide) | (repeat (first|refine sm_get ?_|refine sm_put ?_|refine sm_node ?_|refine sm_take ?_|refine sm_many ?_|refine sm_way ?_|refine sm_poolTake ?_|refine sm_give ?_)); exact hsm.mono (by decide))) rfl rfl rfl zdj rfl ?_|refine zao rfl ?_)|refine zch ?_)
 exact zej rfl ⟨rfl, rfl⟩
theorem many_spec (hw : PowOk w0) (p : Nat) (A : Ar) (hA : A.Ok) (s : Sp) (hsm : Sm s 0) : FnE PP w0 [] 160 [arrV A, spP p] [SpaceA p s]
   (.tuple #[.int .i64 (A.many s).1, .int .i64 (A.many s).2.1, .bool (A.many s).2.2.1]) [SpaceA p (A.many s).2.2.2] := by
 obtain ⟨_, h1, h2⟩ := id hA
 obtain ⟨T, fr, hw2⟩ := id hw
 refine zep en160 fn160 rfl rfl rfl ?_
 refine zyr ?_
 repeat' (refine zap rfl ?_;first|refine zdw rfl rfl (by omega) ?_|refine zau rfl rfl (by omega) ?_|refine zdu rfl rfl ?_|refine zan rfl ?_|refine zaq (cs := [_, _, _, _]) rfl (fun nb => ?_))
 all_goals refine zyn ?_
 refine zeb [1] rfl ?_
 generalize hg : s.get (w64 (A.root + 1)) = g
 have hsm2 : Sm g.2 0 := hg ▸ sm_get hsm
 have hG : FnE PP w0 [] 36 [spP p, .int .i64 (w64 (A.root + 1))] [SpaceA p s] (.int .i64 g.1) [SpaceA p g.2] := hg ▸ getS w0 p s (w64 (A.root + 1)) hsm
 refine zyr ?_
 repeat' (refine zap rfl ?_;first|refine zdw rfl rfl (by omega) ?_|refine zau rfl rfl (by omega) ?_|refine zdu rfl rfl ?_|refine zan rfl ?_|refine zan rfl ?_|refine zaa 0 rfl rfl rfl ?_|refine zah [0] hG rfl rfl rfl zdj rfl ?_|refine zao rfl ?_)
 all_goals refine zyn ?_
 by_cases h0 : g.1 < 0
 · have d0 : decide (g.1 < 0) = true := decide_eq_true h0
   have e : A.many s = (g.1, 0, false, g.2) := by simp [Ar.many, hg, h0]
   repeat' (first|refine zck ?_|refine zcp (by kernel_rfl) ?_|(refine zap rfl ?_;first|(refine zbq rfl rfl ?_; rw [d0])|refine zdw rfl rfl (by omega) ?_|refine zau rfl rfl (by omega) ?_|refine zdu rfl rfl ?_|refine zak rfl ?_|refine zan rfl ?_|refine zan rfl ?_|refine zbu rfl ?_)|refine zch ?_|refine zci rfl ?_)
   rw [e]
   exact ret_tmp3 rfl ⟨rfl, rfl⟩
 · have d0 : decide (g.1 < 0) = false := decide_eq_false h0
   by_cases h1 : 4096 < g.1
   · have d1 : decide (4096 < g.1) = true := decide_eq_true h1
     have e : A.many s = (g.1, 0, false, g.2) := by simp [Ar.many, hg, h1]
     repeat' (first|refine zck ?_|refine zcp (by kernel_rfl) ?_|(refine zap rfl ?_;first|(refine zbq rfl rfl ?_; rw [d0])|refine zac rfl hw2 (powL_rd 4 (by decide) _ rfl) ?_|(refine zbs rfl rfl ?_; rw [show pw 4 = 4096 from rfl, d1])|refine zdw rfl rfl (by omega) ?_|refine zau rfl rfl (by omega) ?_|refine zdu rfl rfl ?_|refine zaj rfl ?_|refine zan rfl ?_|refine zan rfl ?_|refine zbv rfl ?_|refine zat rfl rfl (by omega) ?_)|refine zch ?_|refine zci rfl ?_)
     rw [e]
     exact ret_tmp3 rfl ⟨rfl, rfl⟩
   · have d1 : decide (4096 < g.1) = false := decide_eq_false h1
     have e : A.many s = (g.1, (dep g.1 : Int), decide ((g.2.get (w64 (A.root + 2))).1 = dep g.1), (g.2.get (w64 (A.root + 2))).2) := by simp [Ar.many, hg, h0, h1]
     repeat' (first|refine zck ?_|refine zcp (by kernel_rfl) ?_|refine zcm ?_|(refine zap rfl ?_;first|(refine zbq rfl rfl ?_; rw [d0])|refine zac rfl hw2 (powL_rd 4 (by decide) _ rfl) ?_|(refine zbs rfl rfl ?_; rw [show pw 4 = 4096 from rfl, d1])|refine zdw rfl rfl (by omega) ?_|refine zau rfl rfl (by omega) ?_|refine zdu rfl rfl ?_|refine zaj rfl ?_|refine zan rfl ?_|refine zan rfl ?_|refine zaa 0 rfl rfl rfl ?_|refine zah [0] (getS w0 p _ _ hsm2) rfl rfl rfl zdj rfl ?_|refine zah [] (depth_spec w0 hw _) rfl rfl rfl zdj rfl ?_|refine zao rfl ?_|refine zbo rfl rfl ?_|refine zbv rfl ?_|refine zat rfl rfl (by omega) ?_)|refine zch ?_|refine zcj rfl ?_)
     rw [e]
     exact ret_tmp3 rfl ⟨rfl, rfl⟩
theorem atake_spec (p : Nat) (A : Ar) (hA : A.Ok) (s : Sp) (hsm : Sm s 3) : FnE PP w0 [] 164 [arrV A, spP p] [SpaceA p s]
   (.tuple #[.int .i64 (A.take s).1, .int .i64 (A.take s).2.1]) [SpaceA p (A.take s).2.2] := by
 obtain ⟨_, h1, h2⟩ := id hA
 refine zep en164 fn164 rfl rfl rfl ?_
 refine zyr ?_
 repeat' (refine zap rfl ?_;first|refine zdw rfl rfl (by omega) ?_|refine zau rfl rfl (by omega) ?_|refine zdu rfl rfl ?_|refine zan rfl ?_|refine zaq (cs := [_, _, _, _]) rfl (fun nb => ?_))
 all_goals refine zyn ?_
 refine zeb [1] rfl ?_
 generalize hg : A.pool.take s = g
 have hsm2 : Sm g.2.2 1 := hg ▸ sm_poolTake hsm
 have hG := take_spec w0 p A.pool hA.1 s (hsm.mono (by decide))
 rw [hg] at hG
 repeat' (first|refine zck ?_|refine zcp (by kernel_rfl) ?_|(refine zap rfl ?_;first|refine zdw rfl rfl (by omega) ?_|refine zau rfl rfl (by omega) ?_|refine zdu rfl rfl ?_|refine zan rfl ?_|refine zan rfl ?_|refine zaa 0 rfl rfl rfl ?_|refine zah [0] hG rfl rfl rfl zdj rfl ?_|refine zao rfl ?_|refine zan rfl ?_|refine zbo rfl rfl ?_)|refine zch ?_)
 refine zed rfl (fun hE => ?_) (fun hE => ?_)
 · have e : A.take s = (g.1, g.2.1, (g.2.2.get (w64 (A.root + 7))).2.put (w64 (A.root + 7)) (w64 ((g.2.2.get (w64 (A.root + 7))).1 + 1))) := by simp [Ar.take, hg, hE]
   repeat' (first|refine zck ?_|refine zcp (by kernel_rfl) ?_|refine zcq PP_mixed (by kernel_rfl) (by kernel_rfl) ?_|(refine zap rfl ?_;first|refine zdu (t := 2) rfl rfl ?_|refine zdw rfl rfl (by omega) ?_|refine zau rfl rfl (by omega) ?_|refine zdu rfl rfl ?_|refine zan rfl ?_|refine zan rfl ?_|refine zaa 0 rfl rfl rfl ?_|refine zah [0] (getS w0 p _ _ (hsm2.mono (by decide))) rfl rfl rfl zdj rfl ?_|refine zah [0] (putS w0 p _ _ _ (sm_get (hsm2.mono (by decide)))) rfl rfl rfl zdj rfl ?_|refine zao rfl ?_)|refine zch ?_)
   rw [e]
   exact zei rfl ⟨rfl, rfl⟩
 · have e : A.take s = (g.1, g.2.1, g.2.2) := by simp [Ar.take, hg, hE]
   repeat' (first|refine zck ?_|refine zcp (by kernel_rfl) ?_|refine zcm ?_|(refine zap rfl ?_;first|refine zdw rfl rfl (by omega) ?_|refine zau rfl rfl (by omega) ?_|refine zdu rfl rfl ?_|refine zan rfl ?_|refine zan rfl ?_)|refine zch ?_)
   rw [e]
   exact zei rfl ⟨rfl, rfl⟩
def intL (l : List Int) : List Value := l.map (Value.int .i64)
def wayRA (p : Nat) (r : Option (List Int) × Sp) (v : Value) (Γ : List Asn) : Prop :=
 match r.1 with
 | some l => ∃ a cap, v = .tuple #[.slice a l.length cap, .bool true] ∧ Γ = [SpaceA p r.2, SlA 34 1 a l.length cap (intL l)]
 | none => v = .tuple #[.slice none 0 0, .bool false] ∧ Γ = [SpaceA p r.2]
theorem way_spec (hw : PowOk w0) (p : Nat) (A : Ar) (hA : A.Ok) (i : Int) (hi : 0 ≤ i ∧ i ≤ 4096) (d : Nat) (hd : d ≤ 4) (dI : Int) (hdI : dI = d) (s : Sp) (hsm : Sm s 0) :
   Vc.Fn PP w0 [] 167 [arrV A, spP p, .int .i64 i, .int .i64 dI] [SpaceA p s] (wayRA p (A.way i d A.root s [])) := by
 subst hdI
 obtain ⟨_, h1, h2⟩ := id hA
 refine zep en167 fn167 rfl rfl rfl ?_
 refine zyr ?_
 repeat' (refine zap rfl ?_;first|refine zdw rfl rfl (by omega) ?_|refine zau rfl rfl (by omega) ?_|refine zdu rfl rfl ?_|refine zan rfl ?_|refine zaq (cs := [_, _, _, _]) rfl (fun nb => ?_))
 all_goals refine zyn ?_
 refine zeb [1] rfl ?_
 refine zyr ?_
 repeat' (refine zap rfl ?_;first|refine zdw rfl rfl (by omega) ?_|refine zau rfl rfl (by omega) ?_|refine zdu rfl rfl ?_|refine zan rfl ?_)
 all_goals refine zyn ?_
 refine zyr ?_
 repeat' (refine zap rfl ?_;first|refine zdw rfl rfl (by omega) ?_|refine zau rfl rfl (by omega) ?_|refine zdu rfl rfl ?_|refine zan rfl ?_|refine zaa 0 rfl rfl rfl ?_|refine zao rfl ?_)
 all_goals refine zyn ?_
 repeat (first|refine zck ?_|refine zcl ?_|refine zcm ?_|refine zcn ?_|refine zco ?_)
 refine run_nilslice 34 1 ?_
 refine run_loop (S := Nat × Int × Sp × List Int × Option Addr × Nat)
   (fun st => [(1, spP p), (2, .int .i64 i), (3, .int .i64 (st.1 : Int)), (4, .pointer (some ⟨nb, 0, none⟩)), (11, .int .i64 st.2.1), (10, .slice st.2.2.2.2.1 st.2.2.2.1.length st.2.2.2.2.2)])
   (fun st Γ => Γ = [SpaceA p st.2.2.1, SlA 34 1 st.2.2.2.2.1 st.2.2.2.1.length st.2.2.2.2.2 (intL st.2.2.2.1)] ∧ -9223372036854775808 ≤ st.2.1 ∧ st.2.1 ≤ 9223372036854775807 ∧ st.1 + st.2.2.2.1.length ≤ 4 ∧ Sm st.2.2.1 0 ∧ A.way i st.1 st.2.1 st.2.2.1 st.2.2.2.1 = A.way i d A.root s [])
   (fun st => st.1) (d, A.root, s, [], none, 0) ⟨rfl, rfl, rfl, rfl, zes (by first|exact Int.add_zero _ | rfl), rfl, trivial⟩ ⟨rfl, by dsimp only; omega, by dsimp only; omega, by simpa using hd, hsm, rfl⟩ ?_
 rintro ⟨d', c, s, acc, a, cap⟩ Γ junk ⟨hΓ, hc1, hc2, hl, hsm, he⟩
 dsimp only at hΓ hc1 hc2 hl hsm he ⊢
 subst hΓ
 rw [← he]
 cases d' with
 | zero =>
   repeat' (first|refine zck ?_|refine zcp (by kernel_rfl) ?_|(refine zap rfl ?_;first|refine zdw rfl rfl (by omega) ?_|refine zau rfl rfl (by omega) ?_|refine zdu rfl rfl ?_|refine zan rfl ?_|refine zbs rfl rfl ?_)|refine zch ?_|refine zcj rfl ?_)
   refine zer rfl rfl ?_
   repeat' (first|refine zck ?_|refine zcp (by kernel_rfl) ?_|(refine zap rfl ?_;first|refine zdw rfl rfl (by omega) ?_|refine zau rfl rfl (by omega) ?_|refine zdu rfl rfl ?_|refine zan rfl ?_|refine zan rfl ?_)|refine zch ?_)
   refine zei rfl ⟨a, cap, rfl, rfl⟩
 | succ d' =>
   refine zyr ?_
   repeat' (refine zap rfl ?_;first|refine zdw rfl rfl (by omega) ?_|refine zau rfl rfl (by omega) ?_|refine zdu rfl rfl ?_|refine zan rfl ?_|refine zbs rfl rfl ?_)
   all_goals refine zyn ?_
   refine zci (bool_eq (by simp)) ?_
   refine zyr ?_
   repeat' (refine zap rfl ?_;first|refine zdw rfl rfl (by omega) ?_|refine zau rfl rfl (by omega) ?_|refine zdu rfl rfl ?_|refine zan rfl ?_|refine zan rfl ?_|refine zaa 0 rfl rfl rfl ?_|refine zah [0] (anode_spec w0 p A hA _ _ (by first|exact hsm.mono (by decide) | (repeat (first|refine sm_get ?_|refine sm_put ?_|refine sm_node ?_|refine sm_take ?_|refine sm_many ?_|refine sm_way ?_|refine sm_poolTake ?_|refine sm_give ?_)); exact hsm.mono (by decide))) rfl rfl rfl zdj rfl ?_|refine zan rfl ?_)
   all_goals refine zyn ?_
   refine zyr ?_
   repeat' (refine zap rfl ?_;first|refine zdw rfl rfl (by omega) ?_|refine zau rfl rfl (by omega) ?_|refine zdu rfl rfl ?_|refine zan rfl ?_|refine zbx rfl ?_)
   all_goals refine zyn ?_
   have hb := A.node_bd s c
   refine zee rfl (fun hE => ?_) (fun hE => ?_)
   · have hE : (A.node s c).2.1 = false := by simpa using hE
     repeat' (first|refine zck ?_|refine zcp (by kernel_rfl) ?_|(refine zap rfl ?_;first|refine zdw rfl rfl (by omega) ?_|refine zau rfl rfl (by omega) ?_|refine zdu rfl rfl ?_|refine zan rfl ?_)|refine zch ?_)
     have e : A.way i (d' + 1) c s acc = (none, (A.node s c).2.2) := by simp [Ar.way, hE]
     rw [e]
     refine zec [0] rfl ?_
     exact qret2 (fun _ _ h => h) rfl ⟨rfl, rfl⟩
   · have hE : (A.node s c).2.1 = true := by simpa using hE
     have e : A.way i (d' + 1) c s acc = A.way i d' ((A.node s c).1 + digA i (d' + 1)) (A.node s c).2.2 (acc ++ [(A.node s c).1]) := by simp [Ar.way, hE]
     have hdg := dig_bd i (d' + 1)
     repeat' (first|refine zck ?_|refine zcp (by kernel_rfl) ?_|refine zcm ?_|refine zcn ?_|(refine zap rfl ?_;first|refine zdt rfl rfl rfl rfl rfl rfl (fun nb2 => ?_)|refine zdz 1 2 rfl rfl rfl rfl rfl rfl rfl rfl (by first | omega | (dsimp only; omega)) (fun _ _ => rfl) (fun a' cap' => ?_)|refine zdw rfl rfl (by omega) ?_|refine zau rfl rfl (by omega) ?_|refine zdu rfl rfl ?_|refine zan rfl ?_|refine zan rfl ?_|refine zah [] (digit_spec w0 hw i (d' + 1) hi (by omega) _ (by omega)) rfl rfl rfl zdj rfl ?_|refine zav rfl rfl (by omega) ?_)|refine zch ?_)
     refine zec [0, 0] rfl ?_
     refine zeq ⟨rfl, (d', (A.node s c).1 + digA i (d' + 1), (A.node s c).2.2, acc ++ [(A.node s c).1], a', cap'), ⟨rfl, rfl, zes (by dsimp only; omega), rfl, rfl, ?_, trivial⟩, ⟨?_, by dsimp only; omega, by dsimp only; omega, ?_, sm_node hsm, e.symm⟩, ?_⟩
     · rw [List.length_append]; rfl
     · have e2 : intL (acc ++ [(A.node s c).1]) = intL acc ++ [.int .i64 (A.node s c).1] := by simp [intL]
       rw [e2, List.length_append]; rfl
     · simp; omega
     · simp
end Go.Proofs.YtgdhcgnmffgkiaaGreatDoor
namespace Sim
open Go Go.Vc
theorem reads_twice (s : Sp) (a : Int) : (s.reads a).2.reads a = ((s.reads a).1, (s.reads a).2.reads a |>.2) := by
 unfold Sp.reads
 by_cases he : s.ended = true
 · simp [he]
 · cases hk : lookW s.kn a with
   | none => simp [he]
   | some w => simp [he, hk]
theorem value_reads (s : Sp) (a x : Int) : ((s.reads a).2.value x) = s.value x := by
 unfold Sp.reads
 split
 · rfl
 · split <;> rfl
theorem get_get (s : Sp) (a : Int) : ((s.get a).2.get a).1 = (s.get a).1 := by
 by_cases h : (s.reads a).1 = true
 · have h2 : ((s.reads a).2.reads a).1 = true := by rw [reads_twice]; exact h
   simp [Sp.get, h, h2, value_reads]
 · have h2 : ((s.reads a).2.reads a).1 = false := by rw [reads_twice]; simpa using h
   simp [Sp.get, h, h2]
theorem way_len (A : Ar) (i : Int) : ∀ (d : Nat) (c : Int) (s : Sp) (acc l : List Int), (A.way i d c s acc).1 = some l → l.length = acc.length + d ∧ ((∀ x ∈ acc, 0 ≤ x ∧ x ≤ 4096) → ∀ x ∈ l, 0 ≤ x ∧ x ≤ 4096)
 | 0, c, s, acc, l, h => by
   simp only [Ar.way, Option.some.injEq] at h
   subst h
   exact ⟨rfl, fun h => h⟩
 | d + 1, c, s, acc, l, h => by
   simp only [Ar.way] at h
   split at h
   · obtain ⟨h1, h2⟩ := way_len A i d _ _ _ l h
     refine ⟨by simp at h1; omega, fun h3 => h2 fun x hx => ?_⟩
     rcases List.mem_append.1 hx with hx | hx
     · exact h3 x hx
     · simp at hx; subst hx; exact A.node_bd s c
   · cases h
def lastD (l : List Int) : Int := l.getLastD 0
def Ar.place (A : Ar) (s : Sp) (i : Int) : Int × Int × Sp :=
 if i < 0 then (0, 3, s) else
 if (s.get (w64 (A.root + 1))).1 ≤ i then (0, 3, (s.get (w64 (A.root + 1))).2) else
 if (A.many (s.get (w64 (A.root + 1))).2).2.2.1 then
   match A.way i (A.many (s.get (w64 (A.root + 1))).2).2.1.toNat A.root (A.many (s.get (w64 (A.root + 1))).2).2.2.2 [] with
   | (none, t) => (0, 24, t)
   | (some l, t) => (lastD l + digA i 1, 0, t)
 else (0, 24, (A.many (s.get (w64 (A.root + 1))).2).2.2.2)
def Ar.get (A : Ar) (s : Sp) (i : Int) : Int × Int × Sp :=
 if (A.place s i).2.1 = 0 then (((A.place s i).2.2.get (A.place s i).1).1, 0, ((A.place s i).2.2.get (A.place s i).1).2) else (0, (A.place s i).2.1, (A.place s i).2.2)
def Ar.set (A : Ar) (s : Sp) (i v : Int) : Int × Int × Sp :=
 if (A.place s i).2.1 = 0 then (((A.place s i).2.2.get (A.place s i).1).1, 0, ((A.place s i).2.2.get (A.place s i).1).2.put (A.place s i).1 v) else (0, (A.place s i).2.1, (A.place s i).2.2)
def Ar.swap (A : Ar) (s : Sp) (i j : Int) : Int × Sp :=
 let g := s.get (w64 (A.root + 1))
 if i < 0 ∨ j < 0 ∨ g.1 ≤ i ∨ g.1 ≤ j then (3, g.2) else
 let x := A.place g.2 i
 if x.2.1 = 0 then
   let y := A.place x.2.2 j
   if y.2.1 = 0 then
     let v := y.2.2.get x.1
     let w := v.2.get y.1
     (0, (w.2.put x.1 w.1).put y.1 v.1)
   else (y.2.1, y.2.2)
 else (x.2.1, x.2.2)
theorem sm_place {A : Ar} {s : Sp} {j : Nat} {i : Int} (h : Sm s j) : Sm (A.place s i).2.2 j := by
 unfold Ar.place
 split
 · exact h
 · split
   · exact sm_get h
   · split
     · have := sm_way (A := A) (i := i) (d := (A.many (s.get (w64 (A.root + 1))).2).2.1.toNat) (c := A.root) (acc := []) (sm_many (A := A) (sm_get (a := w64 (A.root + 1)) h))
       split
       · rename_i t ht; rw [ht] at this; exact this
       · rename_i l t ht; rw [ht] at this; exact this
     · exact sm_many (sm_get h)
theorem many_ok {A : Ar} {s : Sp} (h : (A.many s).2.2.1 = true) : (A.many s).1 = (s.get (w64 (A.root + 1))).1 ∧ 0 ≤ (A.many s).1 ∧ (A.many s).1 ≤ 4096 ∧ (A.many s).2.1 = dep (A.many s).1 := by
 unfold Ar.many at h ⊢
 split at h
 · cases h
 · rename_i hn
   rw [if_neg hn]
   exact ⟨rfl, by dsimp only; omega, by dsimp only; omega, rfl⟩
end Sim
namespace Go.Proofs.YtgdhcgnmffgkiaaGreatDoor
variable (w0 : World)
open Go.Vc Sim
set_option maxHeartbeats 4000000
theorem intL_get (l : List Int) (k : Nat) (x : Int) (h : l[k]? = some x) : nth (intL l) k = some (.int .i64 x) := by
 rw [nth_eq, intL, List.getElem?_map, h]; rfl
theorem place_spec (hw : PowOk w0) (p : Nat) (A : Ar) (hA : A.Ok) (s : Sp) (i : Int) (hsm : Sm s 0) : FnE PP w0 [] 168 [arrV A, spP p, .int .i64 i] [SpaceA p s]
   (.tuple #[.int .i64 (A.place s i).1, .int .i64 (A.place s i).2.1]) [SpaceA p (A.place s i).2.2] := by
 obtain ⟨_, h1, h2⟩ := id hA
 refine zep en168 fn168 rfl rfl rfl ?_
 refine zyr ?_
 repeat' (refine zap rfl ?_;first|refine zdw rfl rfl (by omega) ?_|refine zau rfl rfl (by omega) ?_|refine zdu rfl rfl ?_|refine zan rfl ?_|refine zaq (cs := [_, _, _, _]) rfl (fun nb => ?_))
 all_goals refine zyn ?_
 refine zeb [1] rfl ?_
 by_cases h0 : i < 0
 · have d0 : decide (i < 0) = true := decide_eq_true h0
   have e : A.place s i = (0, 3, s) := by simp [Ar.place, h0]
   repeat' (first|refine zck ?_|refine zcp (by kernel_rfl) ?_|(refine zap rfl ?_;first|(refine zbq rfl rfl ?_; rw [d0])|refine zdw rfl rfl (by omega) ?_|refine zau rfl rfl (by omega) ?_|refine zdu rfl rfl ?_|refine zak rfl ?_|refine zan rfl ?_|refine zan rfl ?_|refine zbu rfl ?_)|refine zch ?_|refine zci rfl ?_)
   rw [e]
   exact zei rfl ⟨rfl, rfl⟩
 · have d0 : decide (i < 0) = false := decide_eq_false h0
   generalize hg : s.get (w64 (A.root + 1)) = g
   have hsm2 : Sm g.2 0 := hg ▸ sm_get hsm
   have hG := getS w0 p s (w64 (A.root + 1)) hsm
   rw [hg] at hG
   by_cases h3 : g.1 ≤ i
   · have d3 : decide (g.1 ≤ i) = true := decide_eq_true h3
     have e : A.place s i = (0, 3, g.2) := by simp [Ar.place, h0, hg, h3]
     repeat' (first|refine zck ?_|refine zcp (by kernel_rfl) ?_|(refine zap rfl ?_;first|(refine zbq rfl rfl ?_; rw [d0])|(refine zbt rfl rfl ?_; rw [d3])|refine zdw rfl rfl (by omega) ?_|refine zau rfl rfl (by omega) ?_|refine zdu rfl rfl ?_|refine zaj rfl ?_|refine zan rfl ?_|refine zan rfl ?_|refine zaa 0 rfl rfl rfl ?_|refine zah [0] hG rfl rfl rfl zdj rfl ?_|refine zao rfl ?_|refine zbv rfl ?_)|refine zch ?_|refine zci rfl ?_)
     rw [e]
     exact zei rfl ⟨rfl, rfl⟩
   · have d3 : decide (g.1 ≤ i) = false := decide_eq_false h3
     generalize hm : A.many g.2 = m
     have hsm3 : Sm m.2.2.2 0 := hm ▸ sm_many hsm2
     have hM := many_spec w0 hw p A hA g.2 hsm2
     rw [hm] at hM
     repeat' (first|refine zck ?_|refine zcp (by kernel_rfl) ?_|refine zcm ?_|(refine zap rfl ?_;first|(refine zbq rfl rfl ?_; rw [d0])|(refine zbt rfl rfl ?_; rw [d3])|refine zdw rfl rfl (by omega) ?_|refine zau rfl rfl (by omega) ?_|refine zdu rfl rfl ?_|refine zaj rfl ?_|refine zan rfl ?_|refine zan rfl ?_|refine zaa 0 rfl rfl rfl ?_|refine zah [0] hG rfl rfl rfl zdj rfl ?_|refine zah [0] hM rfl rfl rfl zdj rfl ?_|refine zao rfl ?_|refine zan rfl ?_|refine zbx rfl ?_|refine zbv rfl ?_)|refine zch ?_|refine zcj rfl ?_)
     refine zee rfl (fun hE => ?_) (fun hE => ?_)
     · have hE : m.2.2.1 = false := by simpa using hE
       have e : A.place s i = (0, 24, m.2.2.2) := by simp [Ar.place, h0, hg, h3, hm, hE]
       repeat' (first|refine zck ?_|refine zcp (by kernel_rfl) ?_|(refine zap rfl ?_;first|refine zdw rfl rfl (by omega) ?_|refine zau rfl rfl (by omega) ?_|refine zdu rfl rfl ?_|refine zan rfl ?_)|refine zch ?_)
       rw [e]
       exact zei rfl ⟨rfl, rfl⟩
     · have hE : m.2.2.1 = true := by simpa using hE
       have hmo := many_ok (A := A) (s := g.2) (by rw [hm]; exact hE)
       rw [hm] at hmo
       have hgg : (g.2.get (w64 (A.root + 1))).1 = g.1 := by rw [← hg]; exact get_get s _
       rw [hgg] at hmo
       have hdp := dep_le m.1
       have hdp0 : 0 < dep m.1 := by unfold dep; (repeat' split) <;> omega
       have hn : m.2.1.toNat = dep m.1 := by omega
       generalize hW : A.way i m.2.1.toNat A.root m.2.2.2 [] = W
       have hWs := way_spec w0 hw p A hA i (by omega) m.2.1.toNat (by omega) m.2.1 (by omega) m.2.2.2 hsm3
       have hWl := way_len A i m.2.1.toNat A.root m.2.2.2 []
       have hsm4 : Sm W.2 0 := hW ▸ sm_way hsm3
       rw [hW] at hWs hWl
       obtain ⟨o, t⟩ := W
       cases o with
       | none =>
         have e : A.place s i = (0, 24, t) := by simp [Ar.place, h0, hg, h3, hm, hE, hW]
         have hWn : FnE PP w0 [] 167 [arrV A, spP p, .int .i64 i, .int .i64 m.2.1] [SpaceA p m.2.2.2] (.tuple #[.slice none 0 0, .bool false]) [SpaceA p t] := hWs
         repeat' (first|refine zck ?_|refine zcp (by kernel_rfl) ?_|refine zcm ?_|(refine zap rfl ?_;first|refine zdw rfl rfl (by omega) ?_|refine zau rfl rfl (by omega) ?_|refine zdu rfl rfl ?_|refine zan rfl ?_|refine zan rfl ?_|refine zaa 0 rfl rfl rfl ?_|refine zah [0] hWn rfl rfl rfl zdj rfl ?_|refine zan rfl ?_|refine zbx rfl ?_)|refine zch ?_|refine zci rfl ?_)
         rw [e]
         exact zei rfl ⟨rfl, rfl⟩
       | some l =>
         obtain ⟨hl1, hl2⟩ := hWl l rfl
         have e : A.place s i = (lastD l + digA i 1, 0, t) := by simp [Ar.place, h0, hg, h3, hm, hE, hW]
         obtain ⟨l', x, rfl⟩ : ∃ l' x, l = l' ++ [x] := ⟨l.dropLast, l.getLast (by intro h; subst h; simp at hl1; omega), (List.dropLast_concat_getLast _).symm⟩
         rw [List.length_nil, Nat.zero_add, hn] at hl1
         have hx := hl2 (by simp) x (by simp)
         have hdg := dig_bd i 1
         have hlast : lastD (l' ++ [x]) = x := by simp [lastD]
         refine zyr ?_
         repeat' (refine zap rfl ?_;first|(refine zai [0] hWs rfl rfl rfl zdj ?_; rintro v Γ' ⟨a, cap, rfl, rfl⟩)|refine zdw rfl rfl (by omega) ?_|refine zau rfl rfl (by omega) ?_|refine zdu rfl rfl ?_|refine zan rfl ?_|refine zan rfl ?_|refine zaa 0 rfl rfl rfl ?_|refine zan rfl ?_)
         all_goals refine zyn ?_
         refine zyr ?_
         repeat' (refine zap rfl ?_;first|refine zdw rfl rfl (by omega) ?_|refine zau rfl rfl (by omega) ?_|refine zdu rfl rfl ?_|refine zan rfl ?_|refine zbx rfl ?_)
         all_goals refine zyn ?_
         refine zcj rfl ?_
         refine run_sl_cases 1 rfl (fun _ hz _ _ => absurd hz (by simp)) ?_
         intro lb e1 e2 e3
         subst e1
         refine run_share_sl [1] rfl (fun spare => ?_)
         have hr : ∀ o, o = l'.length → rd false 1 (intL (l' ++ [x]) ++ spare) o = some (.int .i64 x) := by
           intro o ho; subst ho; exact rd_append (intL_get _ _ _ (by simp)) (by intro h; cases h)
         refine run_slots [(2, .int .i64 i), (11, .slice (some ⟨lb, 0, none⟩) (l' ++ [x]).length cap)] ⟨rfl, rfl, trivial⟩ (fun junk => ?_)
         have hlen : ((l' ++ [x]).length : Int) = l'.length + 1 := by simp
         repeat' (first|refine zck ?_|refine zcq PP_mixed (by kernel_rfl) (by kernel_rfl) ?_|refine zcm ?_|(refine zap rfl ?_;first|refine zaa 0 rfl rfl (hr _ (by omega)) ?_|refine zdw rfl rfl (by omega) ?_|refine zau rfl rfl (by omega) ?_|refine zdu rfl rfl ?_|refine zan rfl ?_|refine zan rfl ?_|refine zah [] (digit_spec w0 hw i 1 (by omega) (by omega) _ rfl) rfl rfl rfl zdj rfl ?_|refine zce rfl ?_|refine zav rfl rfl (by omega) ?_|refine zas rfl rfl (by omega) ?_)|refine zch ?_)
         rw [e, hlast]
         exact zei rfl ⟨rfl, rfl⟩
end Go.Proofs.YtgdhcgnmffgkiaaGreatDoor
namespace Sim
open Go Go.Vc
end Sim
