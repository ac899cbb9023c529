import Derived.Test.YtgdhcgnmffgkiaaGreatDoorPart13
import Derived.Test.YtgdhcgnmffgkiaaGreatDoorKitA
/- Own work: lemmas of this claim. -/
namespace Go.Proofs.YtgdhcgnmffgkiaaGreatDoor
variable (w0 : World)
open Go.Vc Sim
set_option maxHeartbeats 4000000
def intL (l : List Int) : List Value := l.map (Value.int .i64)
def wayRA (p : Nat) (r : Option (List Int) × Sp) (v : Value) (Γ : List Asn) : Prop :=
 match r.1 with
 | some l => ∃ a cap, v = .tuple #[.slice a l.length cap, .bool true] ∧ Γ = [SpaceA p r.2, SlA 34 1 a l.length cap (intL l)]
 | none => v = .tuple #[.slice none 0 0, .bool false] ∧ Γ = [SpaceA p r.2]
theorem way_spec (hw : PowOk w0) (p : Nat) (A : Ar) (hA : A.Ok) (i : Int) (hi : 0 ≤ i ∧ i ≤ 4096) (d : Nat) (hd : d ≤ 4) (dI : Int) (hdI : dI = d) (s : Sp) (hsm : Sm s 0) :
   Vc.Fn PP w0 [] 167 [arrV A, spP p, .int .i64 i, .int .i64 dI] [SpaceA p s] (wayRA p (A.way i d A.root s [])) := by
 subst hdI
 obtain ⟨_, h1, h2⟩ := id hA
 refine zep en167 fn167 rfl rfl rfl ?_
 refine zyr ?_
 repeat' first|(refine zap rfl ?_;refine zaq (cs := [_, _, _, _]) rfl (fun nb => ?_))|refine zp ?_|refine zyn ?_
 refine zeb [1] rfl ?_
 refine zyr ?_
 repeat' refine zp ?_
 all_goals refine zyn ?_
 refine zyr ?_
 repeat' first|(refine zap rfl ?_;refine zdw rfl rfl (by omega) ?_)|refine zp ?_|refine zyl 0 rfl ?_|refine zyf rfl ?_|refine zyn ?_
 repeat (first|refine zck ?_|refine zcl ?_|refine zcm ?_|refine zcn ?_|refine zco ?_)
 refine run_nilslice 34 1 ?_
 refine run_loop (S := Nat × Int × Sp × List Int × Option Addr × Nat)
   (fun st => [(1, spP p), (2, .int .i64 i), (3, .int .i64 (st.1 : Int)), (4, .pointer (some ⟨nb, 0, none⟩)), (11, .int .i64 st.2.1), (10, .slice st.2.2.2.2.1 st.2.2.2.1.length st.2.2.2.2.2)])
   (fun st Γ => Γ = [SpaceA p st.2.2.1, SlA 34 1 st.2.2.2.2.1 st.2.2.2.1.length st.2.2.2.2.2 (intL st.2.2.2.1)] ∧ 0 ≤ st.2.1 ∧ st.2.1 ≤ 5000 ∧ st.1 + st.2.2.2.1.length ≤ 4 ∧ Sm st.2.2.1 0 ∧ A.way i st.1 st.2.1 st.2.2.1 st.2.2.2.1 = A.way i d A.root s [])
   (fun st => st.1) (d, A.root, s, [], none, 0) ⟨rfl, rfl, rfl, rfl, zes (by first|exact Int.add_zero _ | rfl), rfl, trivial⟩ ⟨rfl, by dsimp only; omega, by dsimp only; omega, by simpa using hd, hsm, rfl⟩ ?_
 rintro ⟨d', c, s, acc, a, cap⟩ Γ junk ⟨hΓ, hc1, hc2, hl, hsm, he⟩
 dsimp only at hΓ hc1 hc2 hl hsm he ⊢
 subst hΓ
 rw [← he]
 cases d' with
 | zero =>
   repeat' first|refine zck ?_|refine zyq ?_|(refine zap rfl ?_;refine zbs rfl rfl ?_)|refine zp ?_|refine zch ?_|refine zcj rfl ?_
   refine zer rfl rfl ?_
   repeat' first|refine zck ?_|refine zyq ?_|refine zp ?_|refine zch ?_
   refine zei rfl ⟨a, cap, rfl, rfl⟩
 | succ d' =>
   refine zyr ?_
   repeat' first|(refine zap rfl ?_;refine zbs rfl rfl ?_)|refine zp ?_|refine zyn ?_
   refine zci (bool_eq (by simp)) ?_
   refine zyr ?_
   repeat' first|(refine zap rfl ?_;refine zah [0] (anode_spec w0 p A hA _ _ (by first|exact hsm.mono (by decide) | (repeat (first|refine sm_get ?_|refine sm_put ?_|refine sm_node ?_|refine sm_take ?_|refine sm_many ?_|refine sm_way ?_|refine sm_poolTake ?_|refine sm_give ?_)); exact hsm.mono (by decide))) rfl rfl rfl zdj rfl ?_)|refine zp ?_|refine zyl 0 rfl ?_|refine zyn ?_
   refine zyr ?_
   repeat' first|(refine zap rfl ?_;refine zbx rfl ?_)|refine zp ?_|refine zyn ?_
   have hb := A.node_bd s c
   refine zee rfl (fun hE => ?_) (fun hE => ?_)
   · have hE : (A.node s c).2.1 = false := by simpa using hE
     repeat' first|refine zck ?_|refine zyq ?_|refine zp ?_|refine zch ?_
     have e : A.way i (d' + 1) c s acc = (none, (A.node s c).2.2) := by simp [Ar.way, hE]
     rw [e]
     refine zec [0] rfl ?_
     exact qret2 (fun _ _ h => h) rfl ⟨rfl, rfl⟩
   · have hE : (A.node s c).2.1 = true := by simpa using hE
     have e : A.way i (d' + 1) c s acc = A.way i d' ((A.node s c).1 + digA i (d' + 1)) (A.node s c).2.2 (acc ++ [(A.node s c).1]) := by simp [Ar.way, hE]
     have hdg := dig_bd i (d' + 1)
     repeat' first|refine zck ?_|refine zcm ?_|refine zcn ?_|refine zyq ?_|(refine zap rfl ?_;first|refine zdt rfl rfl rfl rfl rfl rfl (fun nb2 => ?_)|refine zdz 1 2 rfl rfl rfl rfl rfl rfl rfl rfl (by first | omega | (dsimp only; omega)) (fun _ _ => rfl) (fun a' cap' => ?_)|refine zah [] (digit_spec w0 hw i (d' + 1) hi (by omega) _ (by omega)) rfl rfl rfl zdj rfl ?_|refine zau rfl rfl (by omega) ?_|refine zav rfl rfl (by omega) ?_)|refine zp ?_|refine zch ?_
     refine zec [0, 0] rfl ?_
     refine zeq ⟨rfl, (d', (A.node s c).1 + digA i (d' + 1), (A.node s c).2.2, acc ++ [(A.node s c).1], a', cap'), ⟨rfl, rfl, zes (by dsimp only; omega), rfl, rfl, ?_, trivial⟩, ⟨?_, by dsimp only; omega, by dsimp only; omega, ?_, sm_node hsm, e.symm⟩, ?_⟩
     · rw [List.length_append]; rfl
     · have e2 : intL (acc ++ [(A.node s c).1]) = intL acc ++ [.int .i64 (A.node s c).1] := by simp [intL]
       rw [e2, List.length_append]; rfl
     · simp; omega
     · simp
end Go.Proofs.YtgdhcgnmffgkiaaGreatDoor
namespace Sim
open Go Go.Vc
theorem reads_twice (s : Sp) (a : Int) : (s.reads a).2.reads a = ((s.reads a).1, (s.reads a).2.reads a |>.2) := by
 unfold Sp.reads
 by_cases he : s.ended = true
 · simp [he]
 · cases hk : lookW s.kn a with
   | none => simp [he]
   | some w => simp [he, hk]
theorem value_reads (s : Sp) (a x : Int) : ((s.reads a).2.value x) = s.value x := by
 unfold Sp.reads
 split
 · rfl
 · split <;> rfl
theorem get_get (s : Sp) (a : Int) : ((s.get a).2.get a).1 = (s.get a).1 := by
 by_cases h : (s.reads a).1 = true
 · have h2 : ((s.reads a).2.reads a).1 = true := by rw [reads_twice]; exact h
   simp [Sp.get, h, h2, value_reads]
 · have h2 : ((s.reads a).2.reads a).1 = false := by rw [reads_twice]; simpa using h
   simp [Sp.get, h, h2]
theorem way_len (A : Ar) (i : Int) : ∀ (d : Nat) (c : Int) (s : Sp) (acc l : List Int), (A.way i d c s acc).1 = some l → l.length = acc.length + d ∧ ((∀ x ∈ acc, 0 ≤ x ∧ x ≤ 4096) → ∀ x ∈ l, 0 ≤ x ∧ x ≤ 4096)
 | 0, c, s, acc, l, h => by
   simp only [Ar.way, Option.some.injEq] at h
   subst h
   exact ⟨rfl, fun h => h⟩
 | d + 1, c, s, acc, l, h => by
   simp only [Ar.way] at h
   split at h
   · obtain ⟨h1, h2⟩ := way_len A i d _ _ _ l h
     refine ⟨by simp at h1; omega, fun h3 => h2 fun x hx => ?_⟩
     rcases List.mem_append.1 hx with hx | hx
     · exact h3 x hx
     · simp at hx; subst hx; exact A.node_bd s c
   · cases h
def lastD (l : List Int) : Int := l.getLastD 0
def Ar.place (A : Ar) (s : Sp) (i : Int) : Int × Int × Sp :=
 if i < 0 then (0, 3, s) else
 if (s.get (A.root + 1)).1 ≤ i then (0, 3, (s.get (A.root + 1)).2) else
 if (A.many (s.get (A.root + 1)).2).2.2.1 then
   match A.way i (A.many (s.get (A.root + 1)).2).2.1.toNat A.root (A.many (s.get (A.root + 1)).2).2.2.2 [] with
   | (none, t) => (0, 24, t)
   | (some l, t) => (lastD l + digA i 1, 0, t)
 else (0, 24, (A.many (s.get (A.root + 1)).2).2.2.2)
def Ar.get (A : Ar) (s : Sp) (i : Int) : Int × Int × Sp :=
 if (A.place s i).2.1 = 0 then (((A.place s i).2.2.get (A.place s i).1).1, 0, ((A.place s i).2.2.get (A.place s i).1).2) else (0, (A.place s i).2.1, (A.place s i).2.2)
def Ar.set (A : Ar) (s : Sp) (i v : Int) : Int × Int × Sp :=
 if (A.place s i).2.1 = 0 then (((A.place s i).2.2.get (A.place s i).1).1, 0, ((A.place s i).2.2.get (A.place s i).1).2.put (A.place s i).1 v) else (0, (A.place s i).2.1, (A.place s i).2.2)
def Ar.swap (A : Ar) (s : Sp) (i j : Int) : Int × Sp :=
 let g := s.get (A.root + 1)
 if i < 0 ∨ j < 0 ∨ g.1 ≤ i ∨ g.1 ≤ j then (3, g.2) else
 let x := A.place g.2 i
 if x.2.1 = 0 then
   let y := A.place x.2.2 j
   if y.2.1 = 0 then
     let v := y.2.2.get x.1
     let w := v.2.get y.1
     (0, (w.2.put x.1 w.1).put y.1 v.1)
   else (y.2.1, y.2.2)
 else (x.2.1, x.2.2)
theorem sm_place {A : Ar} {s : Sp} {j : Nat} {i : Int} (h : Sm s j) : Sm (A.place s i).2.2 j := by
 unfold Ar.place
 split
 · exact h
 · split
   · exact sm_get h
   · split
     · have := sm_way (A := A) (i := i) (d := (A.many (s.get (A.root + 1)).2).2.1.toNat) (c := A.root) (acc := []) (sm_many (A := A) (sm_get (a := A.root + 1) h))
       split
       · rename_i t ht; rw [ht] at this; exact this
       · rename_i l t ht; rw [ht] at this; exact this
     · exact sm_many (sm_get h)
theorem many_ok {A : Ar} {s : Sp} (h : (A.many s).2.2.1 = true) : (A.many s).1 = (s.get (A.root + 1)).1 ∧ 0 ≤ (A.many s).1 ∧ (A.many s).1 ≤ 4096 ∧ (A.many s).2.1 = dep (A.many s).1 := by
 unfold Ar.many at h ⊢
 split at h
 · cases h
 · rename_i hn
   rw [if_neg hn]
   exact ⟨rfl, by dsimp only; omega, by dsimp only; omega, rfl⟩
end Sim
namespace Go.Proofs.YtgdhcgnmffgkiaaGreatDoor
variable (w0 : World)
open Go.Vc Sim
set_option maxHeartbeats 4000000
theorem intL_get (l : List Int) (k : Nat) (x : Int) (h : l[k]? = some x) : nth (intL l) k = some (.int .i64 x) := by
 rw [nth_eq, intL, List.getElem?_map, h]; rfl
theorem place_spec (hw : PowOk w0) (p : Nat) (A : Ar) (hA : A.Ok) (s : Sp) (i : Int) (hsm : Sm s 0) : FnE PP w0 [] 168 [arrV A, spP p, .int .i64 i] [SpaceA p s]
   (.tuple #[.int .i64 (A.place s i).1, .int .i64 (A.place s i).2.1]) [SpaceA p (A.place s i).2.2] := by
 obtain ⟨_, h1, h2⟩ := id hA
 refine zep en168 fn168 rfl rfl rfl ?_
 refine zyr ?_
 repeat' first|(refine zap rfl ?_;refine zaq (cs := [_, _, _, _]) rfl (fun nb => ?_))|refine zp ?_|refine zyn ?_
 refine zeb [1] rfl ?_
 by_cases h0 : i < 0
 · have d0 : decide (i < 0) = true := decide_eq_true h0
   have e : A.place s i = (0, 3, s) := by simp [Ar.place, h0]
   repeat' first|refine zck ?_|refine zyq ?_|(refine zap rfl ?_;first|(refine zbq rfl rfl ?_; rw [d0])|refine zak rfl ?_|refine zbu rfl ?_)|refine zp ?_|refine zch ?_|refine zci rfl ?_
   rw [e]
   exact zei rfl ⟨rfl, rfl⟩
 · have d0 : decide (i < 0) = false := decide_eq_false h0
   generalize hg : s.get (A.root + 1) = g
   have hsm2 : Sm g.2 0 := hg ▸ sm_get hsm
   have hG := getS w0 p s (A.root + 1) hsm
   rw [hg] at hG
   by_cases h3 : g.1 ≤ i
   · have d3 : decide (g.1 ≤ i) = true := decide_eq_true h3
     have e : A.place s i = (0, 3, g.2) := by simp [Ar.place, h0, hg, h3]
     repeat' first|refine zck ?_|refine zyq ?_|(refine zap rfl ?_;first|(refine zbq rfl rfl ?_; rw [d0])|(refine zbt rfl rfl ?_; rw [d3])|refine zaj rfl ?_|refine zah [0] hG rfl rfl rfl zdj rfl ?_|refine zau rfl rfl (by omega) ?_|refine zbv rfl ?_)|refine zp ?_|refine zyl 0 rfl ?_|refine zyf rfl ?_|refine zch ?_|refine zci rfl ?_
     rw [e]
     exact zei rfl ⟨rfl, rfl⟩
   · have d3 : decide (g.1 ≤ i) = false := decide_eq_false h3
     generalize hm : A.many g.2 = m
     have hsm3 : Sm m.2.2.2 0 := hm ▸ sm_many hsm2
     have hM := many_spec w0 hw p A hA g.2 hsm2
     rw [hm] at hM
     repeat' first|refine zck ?_|refine zcm ?_|refine zyq ?_|(refine zap rfl ?_;first|(refine zbq rfl rfl ?_; rw [d0])|(refine zbt rfl rfl ?_; rw [d3])|refine zaj rfl ?_|refine zah [0] hG rfl rfl rfl zdj rfl ?_|refine zah [0] hM rfl rfl rfl zdj rfl ?_|refine zau rfl rfl (by omega) ?_|refine zbx rfl ?_|refine zbv rfl ?_)|refine zp ?_|refine zyl 0 rfl ?_|refine zyf rfl ?_|refine zch ?_|refine zcj rfl ?_
     refine zee rfl (fun hE => ?_) (fun hE => ?_)
     · have hE : m.2.2.1 = false := by simpa using hE
       have e : A.place s i = (0, 24, m.2.2.2) := by simp [Ar.place, h0, hg, h3, hm, hE]
       repeat' first|refine zck ?_|refine zyq ?_|refine zp ?_|refine zch ?_
       rw [e]
       exact zei rfl ⟨rfl, rfl⟩
     · have hE : m.2.2.1 = true := by simpa using hE
       have hmo := many_ok (A := A) (s := g.2) (by rw [hm]; exact hE)
       rw [hm] at hmo
       have hgg : (g.2.get (A.root + 1)).1 = g.1 := by rw [← hg]; exact get_get s _
       rw [hgg] at hmo
       have hdp := dep_le m.1
       have hdp0 : 0 < dep m.1 := by unfold dep; (repeat' split) <;> omega
       have hn : m.2.1.toNat = dep m.1 := by omega
       generalize hW : A.way i m.2.1.toNat A.root m.2.2.2 [] = W
       have hWs := way_spec w0 hw p A hA i (by omega) m.2.1.toNat (by omega) m.2.1 (by omega) m.2.2.2 hsm3
       have hWl := way_len A i m.2.1.toNat A.root m.2.2.2 []
       have hsm4 : Sm W.2 0 := hW ▸ sm_way hsm3
       rw [hW] at hWs hWl
       obtain ⟨o, t⟩ := W
       cases o with
       | none =>
         have e : A.place s i = (0, 24, t) := by simp [Ar.place, h0, hg, h3, hm, hE, hW]
         have hWn : FnE PP w0 [] 167 [arrV A, spP p, .int .i64 i, .int .i64 m.2.1] [SpaceA p m.2.2.2] (.tuple #[.slice none 0 0, .bool false]) [SpaceA p t] := hWs
         repeat' first|refine zck ?_|refine zcm ?_|refine zyq ?_|(refine zap rfl ?_;first|refine zah [0] hWn rfl rfl rfl zdj rfl ?_|refine zbx rfl ?_)|refine zp ?_|refine zyl 0 rfl ?_|refine zch ?_|refine zci rfl ?_
         rw [e]
         exact zei rfl ⟨rfl, rfl⟩
       | some l =>
         obtain ⟨hl1, hl2⟩ := hWl l rfl
         have e : A.place s i = (lastD l + digA i 1, 0, t) := by simp [Ar.place, h0, hg, h3, hm, hE, hW]
         obtain ⟨l', x, rfl⟩ : ∃ l' x, l = l' ++ [x] := ⟨l.dropLast, l.getLast (by intro h; subst h; simp at hl1; omega), (List.dropLast_concat_getLast _).symm⟩
         rw [List.length_nil, Nat.zero_add, hn] at hl1
         have hx := hl2 (by simp) x (by simp)
         have hdg := dig_bd i 1
         have hlast : lastD (l' ++ [x]) = x := by simp [lastD]
         refine zyr ?_
         repeat' first|(refine zap rfl ?_; (refine zai [0] hWs rfl rfl rfl zdj ?_; rintro v Γ' ⟨a, cap, rfl, rfl⟩))|refine zp ?_|refine zyl 0 rfl ?_|refine zyn ?_
         refine zyr ?_
         repeat' first|(refine zap rfl ?_;refine zbx rfl ?_)|refine zp ?_|refine zyn ?_
         refine zcj rfl ?_
         refine run_sl_cases 1 rfl (fun _ hz _ _ => absurd hz (by simp)) ?_
         intro lb e1 e2 e3
         subst e1
         refine run_share_sl [1] rfl (fun spare => ?_)
         have hr : ∀ o, o = l'.length → rd false 1 (intL (l' ++ [x]) ++ spare) o = some (.int .i64 x) := by
           intro o ho; subst ho; exact rd_append (intL_get _ _ _ (by simp)) (by intro h; cases h)
         refine run_slots [(2, .int .i64 i), (11, .slice (some ⟨lb, 0, none⟩) (l' ++ [x]).length cap)] ⟨rfl, rfl, trivial⟩ (fun junk => ?_)
         have hlen : ((l' ++ [x]).length : Int) = l'.length + 1 := by simp
         repeat' first|refine zck ?_|refine zcm ?_|refine zyq ?_|(refine zap rfl ?_;first|refine zaa 0 rfl rfl (hr _ (by omega)) ?_|refine zah [] (digit_spec w0 hw i 1 (by omega) (by omega) _ rfl) rfl rfl rfl zdj rfl ?_|refine zce rfl ?_|refine zau rfl rfl (by omega) ?_|refine zav rfl rfl (by omega) ?_|refine zas rfl rfl (by omega) ?_)|refine zp ?_|refine zch ?_
         rw [e, hlast]
         exact zei rfl ⟨rfl, rfl⟩
end Go.Proofs.YtgdhcgnmffgkiaaGreatDoor
namespace Sim
open Go Go.Vc
end Sim
namespace Go.Proofs.YtgdhcgnmffgkiaaGreatDoor
variable (w0 : World)
open Go.Vc Sim
set_option maxHeartbeats 4000000
theorem aget_spec (hw : PowOk w0) (p : Nat) (A : Ar) (hA : A.Ok) (s : Sp) (i : Int) (hsm : Sm s 0) : FnE PP w0 [] 81 [arrV A, spP p, .int .i64 i] [SpaceA p s]
   (.tuple #[.int .i64 (A.get s i).1, .int .i64 (A.get s i).2.1]) [SpaceA p (A.get s i).2.2] := by
 refine zep en81 fn81 rfl rfl rfl ?_
 refine zyr ?_
 repeat' first|(refine zap rfl ?_;refine zaq (cs := [_, _, _, _]) rfl (fun nb => ?_))|refine zp ?_|refine zyn ?_
 refine zeb [1] rfl ?_
 generalize hg : A.place s i = g
 have hsm2 : Sm g.2.2 0 := hg ▸ sm_place hsm
 have hG := place_spec w0 hw p A hA s i hsm
 rw [hg] at hG
 repeat' first|refine zck ?_|refine zyq ?_|(refine zap rfl ?_;first|refine zah [0] hG rfl rfl rfl zdj rfl ?_|refine zbp rfl rfl ?_)|refine zp ?_|refine zyl 0 rfl ?_|refine zch ?_
 refine zed rfl (fun hE => ?_) (fun hE => ?_)
 · have e : A.get s i = (0, g.2.1, g.2.2) := by simp [Ar.get, hg, hE]
   repeat' first|refine zck ?_|refine zyq ?_|refine zp ?_|refine zch ?_
   rw [e]
   exact zei rfl ⟨rfl, rfl⟩
 · have hE : g.2.1 = 0 := by omega
   have e : A.get s i = ((g.2.2.get g.1).1, 0, (g.2.2.get g.1).2) := by simp [Ar.get, hg, hE]
   repeat' first|refine zck ?_|refine zcm ?_|refine zyq ?_|(refine zap rfl ?_;refine zah [0] (getS w0 p _ _ hsm2) rfl rfl rfl zdj rfl ?_)|refine zp ?_|refine zch ?_
   rw [e]
   exact zei rfl ⟨rfl, rfl⟩
theorem aset_spec (hw : PowOk w0) (p : Nat) (A : Ar) (hA : A.Ok) (s : Sp) (i v : Int) (hsm : Sm s 1) : FnE PP w0 [] 82 [arrV A, spP p, .int .i64 i, .int .i64 v] [SpaceA p s]
   (.tuple #[.int .i64 (A.set s i v).1, .int .i64 (A.set s i v).2.1]) [SpaceA p (A.set s i v).2.2] := by
 refine zep en82 fn82 rfl rfl rfl ?_
 refine zyr ?_
 repeat' first|(refine zap rfl ?_;refine zaq (cs := [_, _, _, _]) rfl (fun nb => ?_))|refine zp ?_|refine zyn ?_
 refine zeb [1] rfl ?_
 generalize hg : A.place s i = g
 have hsm2 : Sm g.2.2 1 := hg ▸ sm_place hsm
 have hG := place_spec w0 hw p A hA s i (hsm.mono (by decide))
 rw [hg] at hG
 repeat' first|refine zck ?_|refine zyq ?_|(refine zap rfl ?_;first|refine zah [0] hG rfl rfl rfl zdj rfl ?_|refine zbp rfl rfl ?_)|refine zp ?_|refine zyl 0 rfl ?_|refine zch ?_
 refine zed rfl (fun hE => ?_) (fun hE => ?_)
 · have e : A.set s i v = (0, g.2.1, g.2.2) := by simp [Ar.set, hg, hE]
   repeat' first|refine zck ?_|refine zyq ?_|refine zp ?_|refine zch ?_
   rw [e]
   exact zei rfl ⟨rfl, rfl⟩
 · have hE : g.2.1 = 0 := by omega
   have e : A.set s i v = ((g.2.2.get g.1).1, 0, (g.2.2.get g.1).2.put g.1 v) := by simp [Ar.set, hg, hE]
   repeat' first|refine zck ?_|refine zcm ?_|refine zyq ?_|(refine zap rfl ?_;first|refine zah [0] (getS w0 p _ _ (hsm2.mono (by decide))) rfl rfl rfl zdj rfl ?_|refine zah [0] (putS w0 p _ _ _ (sm_get (hsm2.mono (by decide)))) rfl rfl rfl zdj rfl ?_)|refine zp ?_|refine zch ?_
   rw [e]
   exact zei rfl ⟨rfl, rfl⟩
theorem aswap_spec (hw : PowOk w0) (p : Nat) (A : Ar) (hA : A.Ok) (s : Sp) (i j : Int) (hsm : Sm s 2) : FnE PP w0 [] 83 [arrV A, spP p, .int .i64 i, .int .i64 j] [SpaceA p s]
   (.int .i64 (A.swap s i j).1) [SpaceA p (A.swap s i j).2] := by
 obtain ⟨_, h1, h2⟩ := id hA
 refine zep en83 fn83 rfl rfl rfl ?_
 refine zyr ?_
 repeat' first|(refine zap rfl ?_;refine zaq (cs := [_, _, _, _]) rfl (fun nb => ?_))|refine zp ?_|refine zyn ?_
 refine zeb [1] rfl ?_
 generalize hg : s.get (A.root + 1) = g
 have hsm2 : Sm g.2 2 := hg ▸ sm_get hsm
 have hG := getS w0 p s (A.root + 1) (hsm.mono (by decide))
 rw [hg] at hG
 refine zyr ?_
 repeat' first|(refine zap rfl ?_;first|refine zah [0] hG rfl rfl rfl zdj rfl ?_|refine zau rfl rfl (by omega) ?_)|refine zp ?_|refine zyl 0 rfl ?_|refine zyf rfl ?_|refine zyn ?_
 refine run_slots [(1, spP p), (2, .int .i64 i), (3, .int .i64 j), (4, .pointer (some ⟨nb, 0, none⟩)), (9, .int .i64 g.1)] ⟨rfl, rfl, rfl, rfl, rfl, trivial⟩ (fun junk => ?_)
 repeat' first|refine zck ?_|refine zcm ?_|refine zyq ?_|(refine zap rfl ?_;first|refine zaj rfl ?_|refine zak rfl ?_|refine zam rfl rfl (fun _ => ?_) (fun _ => ?_)|refine zbq rfl rfl ?_|refine zbt rfl rfl ?_|refine zbu rfl ?_|refine zbv rfl ?_)|refine zp ?_|refine zyl 0 rfl ?_|refine zch ?_|refine zci rfl ?_|refine zed rfl (fun _ => ?_) (fun _ => ?_)
 all_goals first|(exact zej rfl (by rw [show A.swap s i j = (3, g.2) by { simp only [Ar.swap, hg]; rw [if_pos (by omega)] }]; exact ⟨rfl, rfl⟩)) | skip
 have hr : ¬ (i < 0 ∨ j < 0 ∨ g.1 ≤ i ∨ g.1 ≤ j) := by omega
 generalize hx : A.place g.2 i = x
 have hsm3 : Sm x.2.2 2 := hx ▸ sm_place hsm2
 have hX := place_spec w0 hw p A hA g.2 i (hsm2.mono (by decide))
 rw [hx] at hX
 repeat' first|refine zck ?_|refine zyq ?_|(refine zap rfl ?_;first|refine zah [0] hX rfl rfl rfl zdj rfl ?_|refine zbp rfl rfl ?_)|refine zp ?_|refine zch ?_
 refine zed rfl (fun hE => ?_) (fun hE => ?_)
 · repeat' first|refine zck ?_|refine zyq ?_|refine zp ?_|refine zch ?_
   refine zej rfl ?_
   have e : A.swap s i j = (x.2.1, x.2.2) := by simp only [Ar.swap, hg]; rw [if_neg hr, hx, if_neg hE]
   rw [e]; exact ⟨rfl, rfl⟩
 · have hE : x.2.1 = 0 := by omega
   generalize hy : A.place x.2.2 j = y
   have hsm4 : Sm y.2.2 2 := hy ▸ sm_place hsm3
   have hY := place_spec w0 hw p A hA x.2.2 j (hsm3.mono (by decide))
   rw [hy] at hY
   repeat (first|refine zck ?_|refine zcl ?_|refine zcm ?_|refine zcn ?_|refine zco ?_)
   refine run_slots [(1, spP p), (3, .int .i64 j), (4, .pointer (some ⟨nb, 0, none⟩)), (10, .int .i64 x.1)] ⟨rfl, rfl, rfl, rfl, trivial⟩ (fun junk => ?_)
   repeat' first|refine zck ?_|refine zyq ?_|(refine zap rfl ?_;first|refine zah [0] hY rfl rfl rfl zdj rfl ?_|refine zbp rfl rfl ?_)|refine zp ?_|refine zyl 0 rfl ?_|refine zch ?_
   refine zed rfl (fun hE2 => ?_) (fun hE2 => ?_)
   · repeat' first|refine zck ?_|refine zyq ?_|refine zp ?_|refine zch ?_
     refine zej rfl ?_
     have e : A.swap s i j = (y.2.1, y.2.2) := by simp only [Ar.swap, hg]; rw [if_neg hr, hx, if_pos hE, hy, if_neg hE2]
     rw [e]; exact ⟨rfl, rfl⟩
   · have hE2 : y.2.1 = 0 := by omega
     repeat (first|refine zck ?_|refine zcl ?_|refine zcm ?_|refine zcn ?_|refine zco ?_)
     refine run_slots [(1, spP p), (12, .int .i64 y.1), (10, .int .i64 x.1)] ⟨rfl, rfl, rfl, trivial⟩ (fun junk => ?_)
     have e : A.swap s i j = (0, ((((y.2.2.get x.1).2.get y.1).2.put x.1 ((y.2.2.get x.1).2.get y.1).1).put y.1 (y.2.2.get x.1).1)) := by simp only [Ar.swap, hg]; rw [if_neg hr, hx, if_pos hE, hy, if_pos hE2]
     rw [e]
     have hsm := hsm4
     repeat' first|refine zck ?_|refine zyq ?_|(refine zap rfl ?_;first|refine zah [0] (getS w0 p _ _ (by first|exact hsm.mono (by decide) | (repeat (first|refine sm_get ?_|refine sm_put ?_|refine sm_node ?_|refine sm_take ?_|refine sm_many ?_|refine sm_way ?_|refine sm_poolTake ?_|refine sm_give ?_|refine sm_place ?_)); exact hsm.mono (by decide))) rfl rfl rfl zdj rfl ?_|refine zah [0] (putS w0 p _ _ _ (by first|exact hsm.mono (by decide) | (repeat (first|refine sm_get ?_|refine sm_put ?_|refine sm_node ?_|refine sm_take ?_|refine sm_many ?_|refine sm_way ?_|refine sm_poolTake ?_|refine sm_give ?_|refine sm_place ?_)); exact hsm.mono (by decide))) rfl rfl rfl zdj rfl ?_)|refine zp ?_|refine zch ?_
     exact zej rfl ⟨rfl, rfl⟩
end Go.Proofs.YtgdhcgnmffgkiaaGreatDoor
namespace Sim
open Go Go.Vc
end Sim
namespace Go.Proofs.YtgdhcgnmffgkiaaGreatDoor
open Go.Vc Sim
set_option maxHeartbeats 4000000
end Go.Proofs.YtgdhcgnmffgkiaaGreatDoor
namespace Sim
open Go Go.Vc
def Ar.grow (A : Ar) (n : Int) (d : Nat) (s : Sp) : Int × Sp :=
 let c := if 0 < d then A.node (s.get A.root).2 A.root else (0, true, (s.get A.root).2)
 if c.2.1 then
   let t := A.take c.2.2
   if t.2.1 = 0 then (0, ((if 0 < d then t.2.2.put t.1 (s.get A.root).1 else t.2.2).put A.root t.1).put (A.root + 2) (dep (n + 1)))
   else (t.2.1, t.2.2)
 else (24, c.2.2)
def Ar.add (A : Ar) (n : Int) (d : Nat) (cell : Int) (s : Sp) : Int × Sp :=
 if n % pw (d - 1) = 0 then
   let t := A.take s
   if t.2.1 = 0 then (0, t.2.2.put cell t.1) else (t.2.1, t.2.2)
 else (0, s)
def Ar.down (A : Ar) (n : Int) : Nat → Int → Sp → Int × Int × Sp
 | 0, at_, s => (0, at_, s)
 | d + 1, at_, s =>
   if d = 0 then (0, at_, s) else
   let r := A.add n (d + 1) (at_ + digA n (d + 1)) s
   if r.1 = 0 then
     let q := A.node r.2 (at_ + digA n (d + 1))
     if q.2.1 then A.down n d q.1 q.2.2 else (24, 0, q.2.2)
   else (r.1, 0, r.2)
def Ar.rest (A : Ar) (n v : Int) (d : Nat) (s : Sp) : Int × Int × Sp :=
 let c := A.node s A.root
 if c.2.1 then
   let r := A.down n d c.1 c.2.2
   if r.1 = 0 then (n, 0, ((r.2.2.put (r.2.1 + digA n 1) v).put (A.root + 1) (n + 1))) else (0, r.1, r.2.2)
 else (0, 24, c.2.2)
def Ar.pushIn (A : Ar) (n v : Int) (d : Nat) (s : Sp) : Int × Int × Sp :=
 if d < dep (n + 1) then
   if (A.grow n d s).1 = 0 then A.rest n v (dep (n + 1)) (A.grow n d s).2 else (0, (A.grow n d s).1, (A.grow n d s).2)
 else A.rest n v d s
def Ar.undo (m : Int) (r : Int × Int × Sp) : Int × Int × Sp := (r.1, r.2.1, if r.2.1 ≠ 0 then r.2.2.back m else r.2.2)
def Ar.push (A : Ar) (s : Sp) (v : Int) : Int × Int × Sp :=
 let m := A.many s
 if m.2.2.1 then if m.1 = 4096 then (0, 9, m.2.2.2) else Ar.undo m.2.2.2.puts.length (A.pushIn m.1 v m.2.1.toNat m.2.2.2) else (0, 24, m.2.2.2)
theorem sm_grow {A : Ar} {n : Int} {d : Nat} {s : Sp} {j : Nat} (h : Sm s (j + 6)) : Sm (A.grow n d s).2 j := by
 have h1 : Sm (if 0 < d then A.node (s.get A.root).2 A.root else (0, true, (s.get A.root).2)).2.2 (j + 6) := by
   split
   · exact sm_node (sm_get h)
   · exact sm_get h
 simp only [Ar.grow]
 generalize (if 0 < d then A.node (s.get A.root).2 A.root else (0, true, (s.get A.root).2)) = c at h1
 by_cases hc : c.2.1 = true
 · rw [if_pos hc]
   have h2 := sm_take (A := A) (j := j + 3) h1
   by_cases ht : (A.take c.2.2).2.1 = 0
   · rw [if_pos ht]
     refine sm_put (sm_put ?_)
     split
     · exact sm_put h2
     · exact h2.mono (by omega)
   · rw [if_neg ht]; exact h2.mono (by omega)
 · rw [if_neg hc]; exact h1.mono (by omega)
theorem sm_aadd {A : Ar} {n : Int} {d : Nat} {c : Int} {s : Sp} {j : Nat} (h : Sm s (j + 4)) : Sm (A.add n d c s).2 j := by
 simp only [Ar.add]
 split
 · have h2 := sm_take (A := A) (j := j + 1) h
   split
   · exact sm_put h2
   · exact h2.mono (by omega)
 · exact h.mono (by omega)
theorem sm_down {A : Ar} {n : Int} : ∀ {d : Nat} {a : Int} {s : Sp} {j : Nat}, Sm s (j + 4 * d) → Sm (A.down n d a s).2.2 j
 | 0, a, s, j, h => h.mono (by omega)
 | d + 1, a, s, j, h => by
   simp only [Ar.down]
   split
   · exact h.mono (by omega)
   · have h2 := sm_aadd (A := A) (n := n) (d := d + 1) (c := a + digA n (d + 1)) (s := s) (j := j + 4 * d) (h.mono (by omega))
     split
     · split
       · exact sm_down (sm_node h2)
       · exact (sm_node h2).mono (by omega)
     · exact h2.mono (by omega)
theorem sm_rest {A : Ar} {n v : Int} {d : Nat} {s : Sp} {j : Nat} (h : Sm s (j + 2 + 4 * d)) : Sm (A.rest n v d s).2.2 j := by
 simp only [Ar.rest]
 split
 · have h2 := sm_down (A := A) (n := n) (d := d) (a := (A.node s A.root).1) (j := j + 2) (sm_node (A := A) (c := A.root) h)
   split
   · exact sm_put (sm_put h2)
   · exact h2.mono (by omega)
 · exact (sm_node h).mono (by omega)
theorem sm_push {A : Ar} {s : Sp} {v : Int} {j : Nat} (h : Sm s (j + 24)) : Sm (A.push s v).2.2 j := by
 have h1 := sm_many (A := A) h
 simp only [Ar.push]
 split
 · split
   · exact h1.mono (by omega)
   · have key : Sm (A.pushIn (A.many s).1 v (A.many s).2.1.toNat (A.many s).2.2.2).2.2 j := by
       have hm := many_ok (A := A) (s := s) ‹_›
       have hd := dep_le (A.many s).1
       simp only [Ar.pushIn]
       have hd2 := dep_le ((A.many s).1 + 1)
       split
       · have h2 := sm_grow (A := A) (n := (A.many s).1) (d := (A.many s).2.1.toNat) (j := j + 18) h1
         split
         · exact sm_rest (h2.mono (by omega))
         · exact h2.mono (by omega)
       · exact sm_rest (h1.mono (by omega))
     simp only [Ar.undo]
     split
     · exact sm_back key
     · exact key
 · exact h1.mono (by omega)
end Sim
