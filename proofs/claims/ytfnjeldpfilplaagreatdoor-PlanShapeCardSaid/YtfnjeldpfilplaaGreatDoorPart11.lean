import Derived.Test.YtfnjeldpfilplaaGreatDoorRows
import Derived.Test.YtfnjeldpfilplaaGreatDoorTie
import Derived.Test.YtfnjeldpfilplaaGreatDoorCards
import Derived.SevenTiedAt
import Derived.OpenShut
import Derived.Handed
import Derived.Lib.LaidTab
import Derived.Test.YtfnjeldpfilplaaGreatDoorPart10
import Derived.Test.YtfnjeldpfilplaaGreatDoorKit
import Derived.Test.YtfnjeldpfilplaaGreatDoorPart9
import Derived.Test.YtfnjeldpfilplaaGreatDoorPart7
/- Lemmas and walks for the claims of this seat (own work): Pb0 Pb1 Od0 Sm0 Pp2 Pb2 Yw2 Yw3 Yw4 Yw5 Yw11. -/
namespace Sim
open Go Go.Vc
def pxK : PE := .mk 2 0 (bs [107]) (bs []) [] []
def pxHost : PE := .mk 7 0 (bs [100, 111, 117, 98, 108, 101]) (bs []) [pxK] []
def pxGet : PE := .mk 6 0 (bs [110]) (bs [103, 101, 116]) [] []
def pxLen : PE := .mk 6 0 (bs [113]) (bs [108, 101, 110]) [] []
def pxSum : PE := .mk 5 0 (bs []) (bs [43]) [pxGet, pxLen] []
def pxPut : PE := .mk 6 0 (bs [113]) (bs [112, 117, 116]) [pxK] []
def pxOne : PE := .mk 0 1 (bs []) (bs []) [] []
def pxAdd : PE := .mk 6 0 (bs [110]) (bs [97, 100, 100]) [pxOne] []
def pxR1 : PS := .mk 5 (bs []) 0 pxHost [] []
def pxR2 : PS := .mk 5 (bs []) 0 pxSum [] []
def pxD1 : PS := .mk 2 (bs []) 0 pxPut [] []
def pxD2 : PS := .mk 2 (bs []) 0 pxAdd [] []
def pxA : PO := ⟨bs [97], [bs [107]], [pxR1]⟩
def pxB : PO := ⟨bs [98], [], [pxR2]⟩
def pxC : PO := ⟨bs [99], [bs [107]], [pxD1, pxD2]⟩
def pxSt : List (ByteArray × ByteArray) := [(bs [110], bs [99, 111, 117, 110, 116, 101, 114]), (bs [113], bs [113, 117, 101, 117, 101])]
def pxP : PP' := ⟨pxSt, [pxA, pxB, pxC]⟩
def pxT : ByteArray := bs [97, 32, 112, 117, 114, 101, 32, 48, 10, 98, 32, 114, 101, 97, 100, 105, 110, 103, 32, 50, 32, 110, 32, 113, 10, 99, 32, 103, 101, 110, 101, 114, 97, 108, 32, 50, 32, 110, 32, 113, 10]
def pxL : List PL := [⟨bs [97], 0, [], 0⟩, ⟨bs [98], 1, [bs [110], bs [113]], 2⟩, ⟨bs [99], 2, [bs [110], bs [113]], 2⟩]
instance : DecidableEq PL := fun a b =>
  if h : a.oper = b.oper ∧ a.cls = b.cls ∧ a.stores = b.stores ∧ a.calls = b.calls then isTrue (by
    cases a; cases b; obtain ⟨h1, h2, h3, h4⟩ := h
    dsimp only at h1 h2 h3 h4
    subst h1; subst h2; subst h3; subst h4; rfl)
  else isFalse (fun e => h (by subst e; exact ⟨rfl, rfl, rfl, rfl⟩))
theorem pxP_all : planA pxP = (pxL, 0) := by decide +kernel
theorem numB0 : numB 0 = bs [48] := by rw [numB_pos (by decide)]; exact digB_small (by decide)
theorem numB2 : numB 2 = bs [50] := by rw [numB_pos (by decide)]; exact digB_small (by decide)
theorem pxP_text : textB pxL = pxT := by
  unfold textB pxL lineB headB
  simp only [List.foldl_cons, List.foldl_nil, numB0, numB2]
  decide +kernel
theorem pxL_ok : ∀ x ∈ pxL, x.ok := by
  have h : (pxL.all fun x => decide (x.oper.size ≤ 300) && decide (x.stores.length ≤ 30) && (x.stores.all fun s => decide (s.size ≤ 300)) && decide (-9223372036854775808 ≤ x.calls) && decide (x.calls ≤ 9223372036854775807)) = true := by decide +kernel
  intro x hx
  have := List.all_eq_true.1 h x hx
  simp only [Bool.and_eq_true, decide_eq_true_eq, List.all_eq_true] at this
  exact ⟨this.1.1.1.1, this.1.1.1.2, this.1.1.2, this.1.2, this.2⟩
end Sim
namespace Go.Vc
theorem Rds.of_pts0 : ∀ (l : List (Nat × Obj)) {χ : Shared → Prop} (_ : χ l) (g : Heap), Stars (l.map (fun p => pt p.1 p.2)) g → Rds χ g
  | [], χ, h, g, _ => ⟨[], fun _ hp => (by cases hp), h⟩
  | p :: l, χ, h, g, hg => by
    obtain ⟨g1, g2, hd, rfl, h1, h2⟩ := hg
    obtain ⟨bl, h3, h4⟩ := Rds.of_pts0 l (χ := fun bl => χ (p :: bl)) h g2 h2
    refine ⟨p :: bl, fun q hq => ?_, h4⟩
    rcases List.mem_cons.1 hq with rfl | hq
    · refine or_left ?_
      simp only [pt] at h1; subst h1; simp [Heap.one]
    · exact or_right hd (h3 q hq)
end Go.Vc
namespace Go.Proofs.YtfnjeldpfilplaaGreatDoor
open Go.Vc Sim
theorem equalS_spec (w0 : World) (sh : Shared) (a b : Option Addr) (c c2 : Nat) (l : List ByteArray) (ha : RdSl w0 sh encY 1 (.slice a l.length c) l) (hb : RdSl w0 sh encY 1 (.slice b l.length c2) l) (hlen : l.length ≤ 1000000000) :
    FnE PP w0 sh 28 [.slice a l.length c, .slice b l.length c2] [] (.bool true) [] := by
  refine fn_of_run en28 fn28 rfl rfl rfl ?_
  repeat (first | refine zck ?_ | refine zcl ?_ | refine zcm ?_ | refine zcn ?_)
  first | refine zcp (by kernel_rfl) ?_ | refine zcq PP_mixed (by kernel_rfl) (by kernel_rfl) ?_
  repeat' (refine zap rfl ?_; first | refine zan rfl ?_)
  all_goals refine zch ?_
  all_goals repeat (first | refine zck ?_ | refine zcl ?_ | refine zcm ?_ | refine zcn ?_)
  repeat (first | refine zck ?_ | refine zcl ?_ | refine zcm ?_ | refine zcn ?_)
  first | refine zcp (by kernel_rfl) ?_ | refine zcq PP_mixed (by kernel_rfl) (by kernel_rfl) ?_
  repeat' (refine zap rfl ?_; first | refine zan rfl ?_ | refine zce rfl ?_ | refine zbf rfl rfl (by omega) ?_)
  all_goals refine zch ?_
  all_goals repeat (first | refine zck ?_ | refine zcl ?_ | refine zcm ?_ | refine zcn ?_)
  refine zcj rfl ?_
  repeat (first | refine zck ?_ | refine zcl ?_ | refine zcm ?_ | refine zcn ?_ | refine zco ?_)
  repeat (first | refine zck ?_ | refine zcl ?_ | refine zcm ?_ | refine zcn ?_)
  first | refine zcp (by kernel_rfl) ?_ | refine zcq PP_mixed (by kernel_rfl) (by kernel_rfl) ?_
  repeat' (refine zap rfl ?_; first | refine zan rfl ?_ | refine zce rfl ?_)
  all_goals refine zch ?_
  all_goals repeat (first | refine zck ?_ | refine zcl ?_ | refine zcm ?_ | refine zcn ?_)
  refine run_loop (S := Nat) (fun i => [(0, .slice a l.length c), (1, .slice b l.length c2), (12, .int .i64 l.length), (13, .int .i64 (i : Int))])
    (fun i Γ => Γ = [] ∧ i ≤ l.length) (fun i => l.length - i) 0 ⟨rfl, rfl, rfl, rfl, trivial⟩ ⟨rfl, Nat.zero_le _⟩ ?_
  rintro i Γ junk ⟨rfl, hi⟩
  by_cases hlt : i < l.length
  · have hx : l[i]? = some l[i] := List.getElem?_eq_getElem hlt
    generalize l[i] = x at hx
    obtain ⟨bb, off, cc, TT, fr, e2, hm, _, hrd⟩ := ha.cells hx
    obtain ⟨b2, off2, cc2, TT2, fr2, e3, hm2, _, hrd2⟩ := hb.cells hx
    subst e2
    subst e3
    repeat' (first | refine zck ?_ | refine zcp (by kernel_rfl) ?_ | refine zcq PP_mixed (by kernel_rfl) (by kernel_rfl) ?_ | refine zcm ?_ | refine zcl ?_ | refine zcn ?_ | (refine zap rfl ?_; first | refine zad rfl hm (hrd 0 _ rfl _ (by omega)) ?_ | refine zad rfl hm2 (hrd2 0 _ rfl _ (by omega)) ?_ | refine reg_neSF rfl rfl rfl ?_ | refine zan rfl ?_ | refine zan rfl ?_ | refine zbg rfl rfl (by omega) ?_ | refine zau rfl rfl (by omega) ?_ | refine zas rfl rfl (by omega) ?_) | refine zch ?_ | refine zci rfl ?_ | refine zcj rfl ?_)
    exact cut_end ⟨rfl, i + 1, ⟨rfl, rfl, rfl, int_eq (by omega), trivial⟩, ⟨rfl, hlt⟩, by omega⟩
  · repeat' (first | refine zck ?_ | refine zcp (by kernel_rfl) ?_ | (refine zap rfl ?_; first | refine zbh rfl rfl (by omega) ?_) | refine zch ?_ | refine zcj rfl ?_)
    refine cut_exit rfl rfl ?_
    repeat' (first | refine zck ?_ | refine zcp (by kernel_rfl) ?_ | (refine zap rfl ?_; first | refine zan rfl ?_) | refine zch ?_)
    exact ret_tmp1 rfl ⟨rfl, rfl⟩
abbrev RdY (w0 : World) (sh : Shared) (y : PLA) : Prop := RdSl w0 sh encY 1 (.slice y.2.1 y.1.stores.length y.2.2) y.1.stores
theorem alike_spec (w0 : World) (sh : Shared) (x : PL) (q r : Option Addr × Nat) (h1 : RdY w0 sh (x, q)) (h2 : RdY w0 sh (x, r)) (hl : x.stores.length ≤ 1000000000) :
    FnE PP w0 sh 13 [plV (x, q), plV (x, r)] [] (.bool true) [] := by
  have he := equalS_spec w0 sh q.1 r.1 q.2 r.2 x.stores h1 h2 hl
  show FnE PP w0 sh 13 [.agg (List.toArray [.string x.oper, .int .i64 x.cls, .slice q.1 x.stores.length q.2, .int .i64 x.calls]), .agg (List.toArray [.string x.oper, .int .i64 x.cls, .slice r.1 x.stores.length r.2, .int .i64 x.calls])] [] (.bool true) []
  refine fn_of_run en13 fn13 rfl rfl rfl ?_
  repeat (first | refine zck ?_ | refine zcl ?_ | refine zcm ?_ | refine zcn ?_)
  first | refine zcp (by kernel_rfl) ?_ | refine zcq PP_mixed (by kernel_rfl) (by kernel_rfl) ?_
  repeat' (refine zap rfl ?_; first | refine zaq (cs := [_, _, _, _]) rfl (fun t2 => ?_) | refine zan rfl ?_)
  all_goals refine zch ?_
  all_goals repeat (first | refine zck ?_ | refine zcl ?_ | refine zcm ?_ | refine zcn ?_)
  refine run_share [0] rfl ?_
  refine run_share [0] rfl ?_
  repeat' (first | refine zcp (by kernel_rfl) ?_ | (refine zap rfl ?_; first | refine reg_eqST rfl rfl rfl ?_ | refine zaj rfl ?_ | refine zan rfl ?_ | refine zan rfl ?_ | refine zaa 0 rfl rfl rfl ?_ | refine zaa 1 rfl rfl rfl ?_ | refine zah [] he rfl rfl rfl (fun p hp => .tail _ (.tail _ hp)) rfl ?_ | refine zao rfl ?_ | refine zbc rfl rfl (by omega) ?_ | refine zbu rfl ?_) | refine zch ?_)
  exact ret_tmp1 rfl ⟨rfl, rfl⟩
theorem pxCall_spec (w0 : World) (s m : ByteArray) (a : Option Addr) (n c : Nat) : FnE PP w0 [] 32 [.string s, .string m, .slice a n c] [] (.agg (List.toArray (peC 6 0 s m (.slice a n c) nilS))) [] := by
  refine fn_of_run en32 fn32 rfl rfl rfl ?_
  repeat' (first | refine zck ?_ | refine zcp (by kernel_rfl) ?_ | (refine zap rfl ?_; first | refine zan rfl ?_ | refine zae 0 rfl rfl rfl rfl rfl rfl rfl ?_ | refine zar (fun nb => ?_) | refine zcb rfl ?_) | refine zch ?_)
  exact run_ret (leaves_nil (ends_take [] rfl (ends_one rfl (resOk_pt 0 rfl rfl rfl) ⟨rfl, rfl, rfl⟩)))
abbrev pxBl (sSt sP1 sA1 sB1 sA2 sB2 sP2 sA3 sA4 sB3 sOp : Nat) : List (Nat × Obj) :=
  [(sSt, .cells (List.toArray ([.string (bs [110]), .string (bs [99, 111, 117, 110, 116, 101, 114])] ++ ([.string (bs [113]), .string (bs [113, 117, 101, 117, 101])] ++ []))) 56 (0, 0)),
   (sP1, .cells (List.toArray [.string (bs [107])]) 9 (0, 0)),
   (sA1, .cells (List.toArray (cE pxK nilS nilS ++ [])) 91 (0, 0)),
   (sB1, .cells (List.toArray (psC pxR1 (sl1 sA1) nilS nilS nilS ++ [])) 93 (0, 0)),
   (sA2, .cells (List.toArray (cE pxGet nilS nilS ++ (cE pxLen nilS nilS ++ []))) 91 (0, 0)),
   (sB2, .cells (List.toArray (psC pxR2 (sl2 sA2) nilS nilS nilS ++ [])) 93 (0, 0)),
   (sP2, .cells (List.toArray [.string (bs [107])]) 9 (0, 0)),
   (sA3, .cells (List.toArray (cE pxK nilS nilS ++ [])) 91 (0, 0)),
   (sA4, .cells (List.toArray (cE pxOne nilS nilS ++ [])) 91 (0, 0)),
   (sB3, .cells (List.toArray (psC pxD1 (sl1 sA3) nilS nilS nilS ++ (psC pxD2 (sl1 sA4) nilS nilS nilS ++ []))) 93 (0, 0)),
   (sOp, .cells (List.toArray ([.string (bs [97]), sl1 sP1, sl1 sB1] ++ ([.string (bs [98]), nilS, sl1 sB2] ++ ([.string (bs [99]), sl1 sP2, sl2 sB3] ++ [])))) 45 (0, 0))]
theorem pxP_rd (w0 : World) (bl : Shared) (sSt sP1 sA1 sB1 sA2 sB2 sP2 sA3 sA4 sB3 sOp : Nat) (hm : ∀ p ∈ pxBl sSt sP1 sA1 sB1 sA2 sB2 sP2 sA3 sA4 sB3 sOp, p ∈ bl) :
    RdP w0 bl (.agg #[sl2 sSt, .slice (some ⟨sOp, 0, none⟩) 3 3]) pxP := by
  have e0 : ∀ e : PE, e.args = [] → e.or = [] → RdE w0 bl e (cE e nilS nilS) := fun e h1 h2 => RdE.of (by rw [h1]; exact RdEl.nil0) (by rw [h2]; exact RdEl.nil0)
  have lA1 : RdEl w0 bl (sl1 sA1) [pxK] := RdEl.one (e0 pxK rfl rfl) rfl (hm _ (by repeat (first | exact List.Mem.head _ | refine List.Mem.tail _ ?_)))
  have lA2 : RdEl w0 bl (sl2 sA2) [pxGet, pxLen] := RdEl.two (e0 pxGet rfl rfl) rfl (e0 pxLen rfl rfl) rfl (hm _ (by repeat (first | exact List.Mem.head _ | refine List.Mem.tail _ ?_)))
  have lA3 : RdEl w0 bl (sl1 sA3) [pxK] := RdEl.one (e0 pxK rfl rfl) rfl (hm _ (by repeat (first | exact List.Mem.head _ | refine List.Mem.tail _ ?_)))
  have lA4 : RdEl w0 bl (sl1 sA4) [pxOne] := RdEl.one (e0 pxOne rfl rfl) rfl (hm _ (by repeat (first | exact List.Mem.head _ | refine List.Mem.tail _ ?_)))
  have lB1 : RdSt w0 bl (sl1 sB1) [pxR1] := RdSt.one (RdS.of (s := pxR1) lA1 RdEl.nil0 RdSt.nil0 RdSt.nil0) rfl (hm _ (by repeat (first | exact List.Mem.head _ | refine List.Mem.tail _ ?_)))
  have lB2 : RdSt w0 bl (sl1 sB2) [pxR2] := RdSt.one (RdS.of (s := pxR2) lA2 RdEl.nil0 RdSt.nil0 RdSt.nil0) rfl (hm _ (by repeat (first | exact List.Mem.head _ | refine List.Mem.tail _ ?_)))
  have lB3 : RdSt w0 bl (sl2 sB3) [pxD1, pxD2] := RdSt.two (RdS.of (s := pxD1) lA3 RdEl.nil0 RdSt.nil0 RdSt.nil0) rfl (RdS.of (s := pxD2) lA4 RdEl.nil0 RdSt.nil0 RdSt.nil0) rfl (hm _ (by repeat (first | exact List.Mem.head _ | refine List.Mem.tail _ ?_)))
  have lP1 : RdSl w0 bl encY 1 (sl1 sP1) [bs [107]] := RdSl.flat (encE := encY) (q := 1) (w0 := w0) (b := sP1) (l := [bs [107]]) (fun _ _ => rfl) (hm _ (by repeat (first | exact List.Mem.head _ | refine List.Mem.tail _ ?_)))
  have lP2 : RdSl w0 bl encY 1 (sl1 sP2) [bs [107]] := RdSl.flat (encE := encY) (q := 1) (w0 := w0) (b := sP2) (l := [bs [107]]) (fun _ _ => rfl) (hm _ (by repeat (first | exact List.Mem.head _ | refine List.Mem.tail _ ?_)))
  have lSt : RdSl w0 bl encD 2 (sl2 sSt) pxSt := RdSl.flat (encE := encD) (q := 2) (w0 := w0) (b := sSt) (l := pxSt) (fun _ _ => rfl) (hm _ (by repeat (first | exact List.Mem.head _ | refine List.Mem.tail _ ?_)))
  have hC : RdC w0 bl 3 (.slice (some ⟨sOp, 0, none⟩) 3 3) [[.string (bs [97]), sl1 sP1, sl1 sB1], [.string (bs [98]), nilS, sl1 sB2], [.string (bs [99]), sl1 sP2, sl2 sB3]] := RdC.of (cl := [[.string (bs [97]), sl1 sP1, sl1 sB1], [.string (bs [98]), nilS, sl1 sB2], [.string (bs [99]), sl1 sP2, sl2 sB3]]) (fun x hx => by
    simp only [List.mem_cons, List.not_mem_nil, or_false] at hx
    rcases hx with rfl | rfl | rfl <;> rfl) (hm _ (by repeat (first | exact List.Mem.head _ | refine List.Mem.tail _ ?_)))
  refine ⟨_, _, rfl, lSt, _, hC, ?_⟩
  show RdOs w0 bl (pxA :: pxB :: pxC :: []) _
  unfold RdOs
  refine ⟨_, _, rfl, ⟨_, _, rfl, lP1, lB1⟩, ?_⟩
  unfold RdOs
  refine ⟨_, _, rfl, ⟨_, _, rfl, RdSl.nil, lB2⟩, ?_⟩
  unfold RdOs
  refine ⟨_, _, rfl, ⟨_, _, rfl, lP2, lB3⟩, ?_⟩
  unfold RdOs
  rfl
set_option maxHeartbeats 4000000 in
theorem pxExample_spec (w0 : World) : Vc.Fn PP w0 [] 17 [] []
    (fun r Γ => ∃ sSt sOp : Nat, r = .agg #[sl2 sSt, .slice (some ⟨sOp, 0, none⟩) 3 3] ∧ Γ = [Rds fun bl => RdP w0 bl (.agg #[sl2 sSt, .slice (some ⟨sOp, 0, none⟩) 3 3]) pxP]) := by
  have hc := fun s m a n c => pxCall_spec w0 s m a n c
  refine fn_of_run en17 fn17 rfl rfl rfl ?_
  repeat (first | refine zck ?_ | refine zcl ?_ | refine zcm ?_ | refine zcn ?_)
  first | refine zcp (by kernel_rfl) ?_ | refine zcr [(.quiet, 0), (.quiet, 1), (.quiet, 4), (.loud, 10), (.loud, 11), (.quiet, 18), (.loud, 19), (.loud, 20), (.quiet, 21), (.quiet, 22), (.loud, 23), (.loud, 24), (.quiet, 25), (.loud, 2), (.loud, 3), (.loud, 5), (.quiet, 6), (.quiet, 7), (.loud, 8), (.quiet, 9), (.loud, 12), (.quiet, 13), (.quiet, 14), (.loud, 15), (.quiet, 16), (.loud, 17), (.loud, 26), (.quiet, 27), (.loud, 28), (.quiet, 29), (.loud, 30)] PP_mixed (by kernel_rfl) (by kernel_rfl) ?_ | refine zcq PP_mixed (by kernel_rfl) (by kernel_rfl) ?_
  repeat' (refine zap rfl ?_; first | refine zar (fun t0 => ?_))
  all_goals refine zch ?_
  all_goals repeat (first | refine zck ?_ | refine zcl ?_ | refine zcm ?_ | refine zcn ?_)
  repeat (first | refine zck ?_ | refine zcl ?_ | refine zcm ?_ | refine zcn ?_)
  first | refine zcp (by kernel_rfl) ?_ | refine zcr [(.quiet, 0), (.quiet, 1), (.quiet, 4), (.loud, 10), (.loud, 11), (.quiet, 18), (.loud, 19), (.loud, 20), (.quiet, 21), (.quiet, 22), (.loud, 23), (.loud, 24), (.quiet, 25), (.loud, 2), (.loud, 3), (.loud, 5), (.quiet, 6), (.quiet, 7), (.loud, 8), (.quiet, 9), (.loud, 12), (.quiet, 13), (.quiet, 14), (.loud, 15), (.quiet, 16), (.loud, 17), (.loud, 26), (.quiet, 27), (.loud, 28), (.quiet, 29), (.loud, 30)] PP_mixed (by kernel_rfl) (by kernel_rfl) ?_ | refine zcq PP_mixed (by kernel_rfl) (by kernel_rfl) ?_
  repeat' (refine zap rfl ?_; first | refine zar (fun t1 => ?_) | refine zae 1 rfl rfl rfl rfl rfl rfl rfl ?_ | refine zcb rfl ?_)
  all_goals refine zch ?_
  all_goals repeat (first | refine zck ?_ | refine zcl ?_ | refine zcm ?_ | refine zcn ?_)
  refine run_share [1] rfl ?_
  repeat (first | refine zck ?_ | refine zcl ?_ | refine zcm ?_ | refine zcn ?_)
  first | refine zcp (by kernel_rfl) ?_ | refine zcr [(.quiet, 0), (.quiet, 1), (.quiet, 4), (.loud, 10), (.loud, 11), (.quiet, 18), (.loud, 19), (.loud, 20), (.quiet, 21), (.quiet, 22), (.loud, 23), (.loud, 24), (.quiet, 25), (.loud, 2), (.loud, 3), (.loud, 5), (.quiet, 6), (.quiet, 7), (.loud, 8), (.quiet, 9), (.loud, 12), (.quiet, 13), (.quiet, 14), (.loud, 15), (.quiet, 16), (.loud, 17), (.loud, 26), (.quiet, 27), (.loud, 28), (.quiet, 29), (.loud, 30)] PP_mixed (by kernel_rfl) (by kernel_rfl) ?_ | refine run_drawR PP_mixed (by kernel_rfl) (by kernel_rfl) ?_
  repeat' (refine zap rfl ?_; first | refine reg_buildSlice rfl rfl rfl rfl rfl rfl (fun nb => ?_) | refine zaa 0 rfl rfl rfl ?_ | refine zah [] (hc _ _ _ _ _) rfl rfl rfl sub_nil rfl ?_ | refine zae 0 rfl rfl rfl rfl rfl rfl rfl ?_ | refine zcb rfl ?_)
  all_goals refine zch ?_
  all_goals repeat (first | refine zck ?_ | refine zcl ?_ | refine zcm ?_ | refine zcn ?_)
  rename_i sA3 sA4 sSt sP1 sA1 sB1 sA2 sB2 sP2 sB3
  refine run_close [3, 3, 3, 3, 3, 3, 3, 1, 1, 1, 1] rfl (Rds.of_pts0 (pxBl sSt sP1 sA1 sB1 sA2 sB2 sP2 sA3 sA4 sB3 nb) (χ := fun bl => RdP w0 bl (.agg #[sl2 sSt, .slice (some ⟨nb, 0, none⟩) 3 3]) pxP) (pxP_rd w0 _ sSt sP1 sA1 sB1 sA2 sB2 sP2 sA3 sA4 sB3 nb (fun _ h => h))) ?_
  exact run_ret (leaves_nil (ends_take [0] rfl (ends_one rfl (resOk_pt 1 rfl rfl rfl) ⟨rfl, sSt, nb, rfl, rfl⟩)))
theorem pxAll_own (w0 : World) (hk : KwOk w0) (sSt sOp : Nat) : Vc.Fn PP w0 [] 11 [.agg #[sl2 sSt, .slice (some ⟨sOp, 0, none⟩) 3 3]] [Rds fun bl => RdP w0 bl (.agg #[sl2 sSt, .slice (some ⟨sOp, 0, none⟩) 3 3]) pxP]
    (fun r Γ => ∃ a c, r = .tuple #[.slice a 3 c, .int .i64 0] ∧ Γ = [Rds fun bl => RdPs w0 bl (.slice a 3 c) pxL, Rds fun bl => RdP w0 bl (.agg #[sl2 sSt, .slice (some ⟨sOp, 0, none⟩) 3 3]) pxP]) := by
  refine (Fn.lendR (φ := fun bl => RdP w0 bl (.agg #[sl2 sSt, .slice (some ⟨sOp, 0, none⟩) 3 3]) pxP) en11 (fun sh1 bl1 h1 h2 h3 => planAll_spec w0 hk sh1 _ pxP ((show RdP w0 bl1 _ _ from h3).mono h2) ⟨by decide, by decide, fun o ho => ?_⟩ (fun o ho => ?_))).mono ?_
  · simp only [pxP, List.mem_cons, List.not_mem_nil, or_false] at ho
    rcases ho with rfl | rfl | rfl <;> decide +kernel
  · simp only [pxP, List.mem_cons, List.not_mem_nil, or_false] at ho
    rcases ho with rfl | rfl | rfl <;> decide +kernel
  · rintro v Γ ⟨_, ⟨a, c, rfl, rfl⟩, rfl⟩
    rw [pxP_all]
    exact ⟨a, c, rfl, rfl⟩
theorem pxText_own (w0 : World) (ht : TabOk w0) (hwd : WordsOk w0) (sh : Shared) (a : Option Addr) (c : Nat) : Vc.Fn PP w0 sh 8 [.slice a 3 c] [Rds fun bl => RdPs w0 bl (.slice a 3 c) pxL]
    (fun r Γ => r = .string pxT ∧ Γ = [Rds fun bl => RdPs w0 bl (.slice a 3 c) pxL]) := by
  refine (Fn.lendR (φ := fun bl => RdPs w0 bl (.slice a 3 c) pxL) en8 (fun sh1 bl1 h1 h2 h3 => text_spec w0 ht hwd sh1 _ pxL ((show RdPs w0 bl1 _ _ from h3).mono h2) pxL_ok (by decide))).mono ?_
  rintro v Γ ⟨_, ⟨rfl, rfl⟩, rfl⟩
  rw [pxP_text]
  exact ⟨rfl, rfl⟩
theorem awake_spec (w0 : World) (hk : KwOk w0) (ht : TabOk w0) (hwd : WordsOk w0) : FnE PP w0 [] 6 [] [] (.bool true) [] := by
  have h0 := pxExample_spec w0
  have h1 := pxAll_own w0 hk
  have h2 := fun a c => pxText_own w0 ht hwd [] a c
  refine fn_of_run en6 fn6 rfl rfl rfl ?_
  repeat (first | refine zck ?_ | refine zcl ?_ | refine zcm ?_ | refine zcn ?_)
  first | refine zcp (by kernel_rfl) ?_ | refine zcq PP_mixed (by kernel_rfl) (by kernel_rfl) ?_
  repeat' (refine zap rfl ?_; first | refine zan rfl ?_)
  all_goals refine zch ?_
  all_goals repeat (first | refine zck ?_ | refine zcl ?_ | refine zcm ?_ | refine zcn ?_)
  repeat (first | refine zck ?_ | refine zcl ?_ | refine zcm ?_ | refine zcn ?_)
  first | refine zcp (by kernel_rfl) ?_ | refine zcq PP_mixed (by kernel_rfl) (by kernel_rfl) ?_
  repeat' (refine zap rfl ?_; first | refine zan rfl ?_ | refine zan rfl ?_ | (refine zai [] h0 rfl rfl rfl sub_nil ?_; rintro v Γ ⟨s1, s2, rfl, rfl⟩) | (refine zai [0] (h1 s1 s2) rfl rfl rfl sub_nil ?_; rintro v Γ ⟨a1, c1, rfl, rfl⟩) | refine zan rfl ?_)
  all_goals refine zch ?_
  all_goals repeat (first | refine zck ?_ | refine zcl ?_ | refine zcm ?_ | refine zcn ?_)
  refine run_take [0] rfl ?_
  repeat' (first | refine zcp (by kernel_rfl) ?_ | (refine zap rfl ?_; first | refine reg_eqST rfl rfl rfl ?_ | refine zaj rfl ?_ | refine zan rfl ?_ | refine zan rfl ?_ | (refine zai [0] (h2 a1 c1) rfl rfl rfl sub_nil ?_; rintro v Γ ⟨rfl, rfl⟩) | refine zbc rfl rfl (by omega) ?_ | refine zbu rfl ?_) | refine zch ?_)
  refine run_take [] rfl ?_
  exact ret_tmp1 rfl ⟨rfl, rfl⟩
end Go.Proofs.YtfnjeldpfilplaaGreatDoor

namespace Sim
open Go Go.Vc
def PL.i64 (x : PL) : Prop := -9223372036854775808 ≤ x.calls ∧ x.calls ≤ 9223372036854775807
end Sim
namespace Go.Proofs.YtfnjeldpfilplaaGreatDoor
open Go.Vc Sim
set_option maxHeartbeats 8000000 in
theorem planTexts_spec (w0 : World) (hk : KwOk w0) (ht : TabOk w0) (hwd : WordsOk w0) (v : Value) (l : List PL) (hv : RdPs w0 [] v l) (hn : ∀ x ∈ l, x.i64) (hlen : l.length ≤ 2513169434843) :
    FnE PP w0 [] 3 [v] [] (.bool true) [] := by
  have haw := awake_spec w0 hk ht hwd
  have htx := fun h1 h2 => text_spec w0 ht hwd [] v l hv h1 h2
  obtain ⟨l', rfl, h2, h3⟩ := hv
  obtain ⟨a0, c0, rfl, hc0, _⟩ := id h2
  rw [List.length_map] at hlen htx
  refine fn_of_run en3 fn3 rfl rfl rfl ?_
  repeat (first | refine zck ?_ | refine zcl ?_ | refine zcm ?_ | refine zcn ?_)
  first | refine zcp (by kernel_rfl) ?_ | refine zcq PP_mixed (by kernel_rfl) (by kernel_rfl) ?_
  repeat' (refine zap rfl ?_; first | refine zan rfl ?_)
  all_goals refine zch ?_
  all_goals repeat (first | refine zck ?_ | refine zcl ?_ | refine zcm ?_ | refine zcn ?_)
  repeat (first | refine zck ?_ | refine zcl ?_ | refine zcm ?_ | refine zcn ?_)
  first | refine zcp (by kernel_rfl) ?_ | refine zcq PP_mixed (by kernel_rfl) (by kernel_rfl) ?_
  repeat' (refine zap rfl ?_; first | refine zan rfl ?_)
  all_goals refine zch ?_
  all_goals repeat (first | refine zck ?_ | refine zcl ?_ | refine zcm ?_ | refine zcn ?_)
  repeat (first | refine zck ?_ | refine zcl ?_ | refine zcm ?_ | refine zcn ?_)
  first | refine zcp (by kernel_rfl) ?_ | refine zcq PP_mixed (by kernel_rfl) (by kernel_rfl) ?_
  repeat' (refine zap rfl ?_; first | refine zan rfl ?_ | refine zce rfl ?_)
  all_goals refine zch ?_
  all_goals repeat (first | refine zck ?_ | refine zcl ?_ | refine zcm ?_ | refine zcn ?_)
  refine run_loop (S := Nat) (fun j => [(0, .slice a0 l'.length c0), (3, .string (textB ((l'.map (·.1)).take j))), (8, .slice a0 l'.length c0), (9, .int .i64 l'.length), (10, .int .i64 (j : Int))])
    (fun j Γ => Γ = [] ∧ j ≤ l'.length ∧ ∀ x ∈ (l'.map (·.1)).take j, x.ok) (fun j => l'.length - j) 0 ⟨rfl, rfl, rfl, rfl, rfl, trivial⟩ ⟨rfl, Nat.zero_le _, fun x hx => by cases hx⟩ ?_
  rintro j Γ junk ⟨rfl, g1, g2⟩
  try dsimp only at g1 g2 ⊢
  have hts := textB_size g2
  rw [List.length_take, List.length_map] at hts
  have h5 : min j l'.length ≤ 2513169434843 := by omega
  by_cases hj : j < l'.length
  · obtain ⟨y, hy⟩ : ∃ y, l'[j]? = some y := ⟨_, List.getElem?_eq_getElem hj⟩
    have hym : (l'.map (·.1))[j]? = some y.1 := by rw [List.getElem?_map, hy]; rfl
    obtain ⟨b', off, cc, T, fr, rfl, e2, e3, _⟩ := h2.cells hy
    have hcn := hn y.1 (List.mem_of_getElem? hym)
    have hst := h3 y (List.mem_of_getElem? hy)
    obtain ⟨⟨op, cl, ss, cs⟩, q1, q2⟩ := y
    dsimp only at hst e3 hym hcn
    have e3 : ∀ o, o = off + j * 4 → rd true 4 cc.toList o = some (.agg (List.toArray [.string op, .int .i64 cl, .slice q1 ss.length q2, .int .i64 cs])) := e3
    repeat (first | refine zck ?_ | refine zcl ?_ | refine zcm ?_ | refine zcn ?_)
    first | refine zcp (by kernel_rfl) ?_ | refine zcq PP_mixed (by kernel_rfl) (by kernel_rfl) ?_
    repeat' (refine zap rfl ?_; first | refine zbg rfl rfl (by omega) ?_)
    all_goals refine zch ?_
    all_goals repeat (first | refine zck ?_ | refine zcl ?_ | refine zcm ?_ | refine zcn ?_)
    refine zci rfl ?_
    repeat (first | refine zck ?_ | refine zcl ?_ | refine zcm ?_ | refine zcn ?_)
    first | refine zcp (by kernel_rfl) ?_ | refine zcq PP_mixed (by kernel_rfl) (by kernel_rfl) ?_
    repeat' (refine zap rfl ?_; first | refine zad rfl e2 (e3 _ (by omega)) ?_ | refine zar (fun t5 => ?_) | refine zae 0 rfl rfl rfl rfl rfl rfl rfl ?_ | refine zas rfl rfl (by omega) ?_)
    all_goals refine zch ?_
    all_goals repeat (first | refine zck ?_ | refine zcl ?_ | refine zcm ?_ | refine zcn ?_)
    refine run_share [0] rfl ?_
    by_cases ho : 300 < op.size
    · repeat (first | refine zck ?_ | refine zcl ?_ | refine zcm ?_ | refine zcn ?_)
      first | refine zcp (by kernel_rfl) ?_ | refine zcq PP_mixed (by kernel_rfl) (by kernel_rfl) ?_
      repeat' (refine zap rfl ?_; first | refine zak rfl ?_ | refine zan rfl ?_ | refine zaa 0 rfl rfl rfl ?_ | refine reg_lenS rfl ?_ | refine zao rfl ?_ | refine zbk rfl rfl (by omega) ?_ | refine zbu rfl ?_)
      all_goals refine zch ?_
      all_goals repeat (first | refine zck ?_ | refine zcl ?_ | refine zcm ?_ | refine zcn ?_)
      refine zci rfl ?_
      repeat' (first | refine zck ?_ | refine zcp (by kernel_rfl) ?_ | (refine zap rfl ?_; first | refine zan rfl ?_ | refine zah [] haw rfl rfl rfl sub_nil rfl ?_) | refine zch ?_)
      exact cut_ret (leaves_nil (ends_one rfl rfl ⟨rfl, rfl⟩))
    by_cases hsl : 30 < ss.length
    · repeat (first | refine zck ?_ | refine zcl ?_ | refine zcm ?_ | refine zcn ?_)
      first | refine zcp (by kernel_rfl) ?_ | refine zcq PP_mixed (by kernel_rfl) (by kernel_rfl) ?_
      repeat' (refine zap rfl ?_; first | refine zaj rfl ?_ | refine zan rfl ?_ | refine zaa 0 rfl rfl rfl ?_ | refine reg_lenS rfl ?_ | refine zce rfl ?_ | refine zao rfl ?_ | refine zbk rfl rfl (by omega) ?_ | refine zbl rfl rfl (by omega) ?_ | refine zbv rfl ?_)
      all_goals refine zch ?_
      all_goals repeat (first | refine zck ?_ | refine zcl ?_ | refine zcm ?_ | refine zcn ?_)
      refine zci rfl ?_
      repeat' (first | refine zck ?_ | refine zcp (by kernel_rfl) ?_ | (refine zap rfl ?_; first | refine zan rfl ?_ | refine zah [] haw rfl rfl rfl sub_nil rfl ?_) | refine zch ?_)
      exact cut_ret (leaves_nil (ends_one rfl rfl ⟨rfl, rfl⟩))
    repeat (first | refine zck ?_ | refine zcl ?_ | refine zcm ?_ | refine zcn ?_)
    first | refine zcp (by kernel_rfl) ?_ | refine zcq PP_mixed (by kernel_rfl) (by kernel_rfl) ?_
    repeat' (refine zap rfl ?_; first | refine zaj rfl ?_ | refine zan rfl ?_ | refine zaa 0 rfl rfl rfl ?_ | refine reg_lenS rfl ?_ | refine zce rfl ?_ | refine zao rfl ?_ | refine zbl rfl rfl (by omega) ?_ | refine zbv rfl ?_)
    all_goals refine zch ?_
    all_goals repeat (first | refine zck ?_ | refine zcl ?_ | refine zcm ?_ | refine zcn ?_)
    refine zcj rfl ?_
    repeat (first | refine zck ?_ | refine zcl ?_ | refine zcm ?_ | refine zcn ?_)
    first | refine zcp (by kernel_rfl) ?_ | refine zcq PP_mixed (by kernel_rfl) (by kernel_rfl) ?_
    repeat' (refine zap rfl ?_; first | refine zan rfl ?_ | refine zaa 0 rfl rfl rfl ?_ | refine zce rfl ?_ | refine zao rfl ?_)
    all_goals refine zch ?_
    all_goals repeat (first | refine zck ?_ | refine zcl ?_ | refine zcm ?_ | refine zcn ?_)
    refine run_loop (S := Nat) (fun k => [(0, .slice (some ⟨b', off, none⟩) l'.length c0), (3, .string (textB ((l'.map (·.1)).take j))), (5, .pointer (some ⟨t5, 0, none⟩)), (8, .slice (some ⟨b', off, none⟩) l'.length c0), (9, .int .i64 l'.length), (10, .int .i64 (j : Int)), (26, .slice q1 ss.length q2), (27, .int .i64 ss.length), (28, .int .i64 (k : Int))])
      (fun k Γ => Γ = [] ∧ k ≤ ss.length ∧ ∀ x ∈ ss.take k, x.size ≤ 300) (fun k => ss.length - k) 0 ⟨rfl, rfl, rfl, rfl, rfl, rfl, rfl, rfl, rfl, trivial⟩ ⟨rfl, Nat.zero_le _, fun x hx => by cases hx⟩ ?_
    rintro k Γ junk2 ⟨rfl, f1, f2⟩
    try dsimp only at f1 f2 ⊢
    by_cases hkk : k < ss.length
    · obtain ⟨s, hs⟩ : ∃ s, ss[k]? = some s := ⟨_, List.getElem?_eq_getElem hkk⟩
      obtain ⟨bs', offs, ccs, Ts, frs, rfl, u2, _, u4⟩ := hst.cells hs
      repeat (first | refine zck ?_ | refine zcl ?_ | refine zcm ?_ | refine zcn ?_)
      first | refine zcp (by kernel_rfl) ?_ | refine zcq PP_mixed (by kernel_rfl) (by kernel_rfl) ?_
      repeat' (refine zap rfl ?_; first | refine zbg rfl rfl (by omega) ?_)
      all_goals refine zch ?_
      all_goals repeat (first | refine zck ?_ | refine zcl ?_ | refine zcm ?_ | refine zcn ?_)
      refine zci rfl ?_
      repeat (first | refine zck ?_ | refine zcl ?_ | refine zcm ?_ | refine zcn ?_)
      first | refine zcp (by kernel_rfl) ?_ | refine zcq PP_mixed (by kernel_rfl) (by kernel_rfl) ?_
      repeat' (refine zap rfl ?_; first | refine zad rfl (fun hF Γ w h1 h2 => u2 hF Γ w (fun p hp => by cases hp) h2) (u4 0 _ rfl _ (by omega)) ?_ | refine zan rfl ?_ | refine zas rfl rfl (by omega) ?_)
      all_goals refine zch ?_
      all_goals repeat (first | refine zck ?_ | refine zcl ?_ | refine zcm ?_ | refine zcn ?_)
      by_cases hsz : 300 < s.size
      · repeat (first | refine zck ?_ | refine zcl ?_ | refine zcm ?_ | refine zcn ?_)
        first | refine zcp (by kernel_rfl) ?_ | refine zcq PP_mixed (by kernel_rfl) (by kernel_rfl) ?_
        repeat' (refine zap rfl ?_; first | refine zan rfl ?_ | refine reg_lenS rfl ?_ | refine zbk rfl rfl (by omega) ?_)
        all_goals refine zch ?_
        all_goals repeat (first | refine zck ?_ | refine zcl ?_ | refine zcm ?_ | refine zcn ?_)
        refine zci rfl ?_
        repeat' (first | refine zck ?_ | refine zcp (by kernel_rfl) ?_ | (refine zap rfl ?_; first | refine zan rfl ?_ | refine zah [] haw rfl rfl rfl sub_nil rfl ?_) | refine zch ?_)
        exact cut_ret (leaves_nil (ends_one rfl rfl ⟨rfl, rfl⟩))
      repeat (first | refine zck ?_ | refine zcl ?_ | refine zcm ?_ | refine zcn ?_)
      first | refine zcp (by kernel_rfl) ?_ | refine zcq PP_mixed (by kernel_rfl) (by kernel_rfl) ?_
      repeat' (refine zap rfl ?_; first | refine zan rfl ?_ | refine reg_lenS rfl ?_ | refine zbl rfl rfl (by omega) ?_)
      all_goals refine zch ?_
      all_goals repeat (first | refine zck ?_ | refine zcl ?_ | refine zcm ?_ | refine zcn ?_)
      refine zcj rfl ?_
      repeat' (first | refine zcp (by kernel_rfl) ?_ | refine zcm ?_ | refine zcn ?_ | (refine zap rfl ?_; first | refine zan rfl ?_ | refine zau rfl rfl (by omega) ?_) | refine zch ?_)
      refine cut_end ⟨rfl, k + 1, ⟨rfl, rfl, rfl, rfl, rfl, rfl, rfl, rfl, int_eq (by omega), trivial⟩, ⟨rfl, by omega, fun x hx => ?_⟩, by omega⟩
      rw [List.take_add_one, hs, List.mem_append] at hx
      rcases hx with hx | hx
      · exact f2 x hx
      · have : x = s := by simpa using hx
        subst this; omega
    · repeat (first | refine zck ?_ | refine zcl ?_ | refine zcm ?_ | refine zcn ?_)
      first | refine zcp (by kernel_rfl) ?_ | refine zcq PP_mixed (by kernel_rfl) (by kernel_rfl) ?_
      repeat' (refine zap rfl ?_; first | refine zbh rfl rfl (by omega) ?_)
      all_goals refine zch ?_
      all_goals repeat (first | refine zck ?_ | refine zcl ?_ | refine zcm ?_ | refine zcn ?_)
      refine zcj rfl ?_
      refine cut_exit rfl rfl ?_
      rw [List.take_of_length_le (by omega)] at f2
      have hok : PL.ok ⟨op, cl, ss, cs⟩ := ⟨by dsimp only; omega, by dsimp only; omega, f2, hcn.1, hcn.2⟩
      have hli := fun sh (hsh : ∀ p ∈ ([] : Shared), p ∈ sh) => line_spec w0 sh _ ⟨op, cl, ss, cs⟩ hok (hst.mono hsh)
      have hls := lineB_size hok
      dsimp only at hli
      have htk := textB_take hym
      have r1 : (textB ((l'.map (·.1)).take j)).size + (lineB ⟨op, cl, ss, cs⟩).size ≤ 9223372036854775807 := by omega
      repeat (first | refine zck ?_ | refine zcl ?_ | refine zcm ?_ | refine zcn ?_)
      first | refine zcp (by kernel_rfl) ?_ | refine zcq PP_mixed (by kernel_rfl) (by kernel_rfl) ?_
      repeat' (refine zap rfl ?_; first | refine reg_addS rfl rfl r1 ?_ | refine zan rfl ?_ | refine zan rfl ?_ | refine zaa 0 rfl rfl rfl ?_ | refine zah [] (hli _ sub_nil) rfl rfl rfl (fun _ h => h) rfl ?_ | refine zao rfl ?_)
      all_goals refine zch ?_
      all_goals repeat (first | refine zck ?_ | refine zcl ?_ | refine zcm ?_ | refine zcn ?_)
      repeat' (first | refine zcp (by kernel_rfl) ?_ | (refine zap rfl ?_; first | refine zan rfl ?_ | refine zau rfl rfl (by omega) ?_) | refine zch ?_)
      refine cut_end ⟨rfl, j + 1, ⟨rfl, ?_, rfl, rfl, int_eq (by omega), trivial⟩, ⟨rfl, by omega, fun x hx => ?_⟩, by omega⟩
      · rw [htk]; rfl
      · rw [List.take_add_one, hym, List.mem_append] at hx
        rcases hx with hx | hx
        · exact g2 x hx
        · have : x = ⟨op, cl, ss, cs⟩ := by simpa using hx
          subst this; exact hok
  · repeat (first | refine zck ?_ | refine zcl ?_ | refine zcm ?_ | refine zcn ?_)
    first | refine zcp (by kernel_rfl) ?_ | refine zcq PP_mixed (by kernel_rfl) (by kernel_rfl) ?_
    repeat' (refine zap rfl ?_; first | refine zbh rfl rfl (by omega) ?_)
    all_goals refine zch ?_
    all_goals repeat (first | refine zck ?_ | refine zcl ?_ | refine zcm ?_ | refine zcn ?_)
    refine zcj rfl ?_
    refine cut_exit rfl rfl ?_
    have hjl : j = l'.length := by omega
    subst hjl
    rw [List.take_of_length_le (by rw [List.length_map]; exact Nat.le_refl _)] at g2 ⊢
    by_cases h40 : 40 < l'.length
    · repeat' (first | refine zck ?_ | refine zcp (by kernel_rfl) ?_ | (refine zap rfl ?_; first | refine zak rfl ?_ | refine zal rfl ?_ | refine zan rfl ?_ | refine zan rfl ?_ | refine zce rfl ?_ | refine zbk rfl rfl (by omega) ?_ | refine zbu rfl ?_) | refine zch ?_)
      exact ret_tmp1 rfl ⟨rfl, rfl⟩
    · have htx := htx g2 (by omega)
      repeat' (first | refine zck ?_ | refine zcp (by kernel_rfl) ?_ | (refine zap rfl ?_; first | refine reg_eqST rfl rfl rfl ?_ | refine zaj rfl ?_ | refine zan rfl ?_ | refine zan rfl ?_ | refine zce rfl ?_ | refine zah [] haw rfl rfl rfl sub_nil rfl ?_ | refine zah [] htx rfl rfl rfl sub_nil rfl ?_ | refine zbl rfl rfl (by omega) ?_ | refine zbu rfl ?_ | refine zbv rfl ?_) | refine zch ?_)
      exact ret_tmp1 rfl ⟨rfl, rfl⟩
end Go.Proofs.YtfnjeldpfilplaaGreatDoor

namespace Go.Proofs.YtfnjeldpfilplaaGreatDoor
open Go.Vc Sim Go.ChangeShapes Go.WideShapes Go.RowKit
set_option maxRecDepth 100000
theorem cOwn : ownKnob Tryz.prog.godebug = none := by kernel_rfl
theorem cLaid : laidOutB Tryz.prog = true := by kernel_rfl
def nPl (i : Nat) : String := Rows.planOfRow.named.getD i ""
def lKw : List (String × DataW Unit) := [(nPl 4, Rows.laid_math_bits_deBruijn32tab), (nPl 5, Rows.laid_math_bits_deBruijn64tab), (nPl 3, Rows.laid_internal_strconv_uint64pow10), (nPl 0, Rows.laid_simulcast_lexer_keywords), (nPl 1, Rows.laid_simulcast_array_powers), (nPl 2, Rows.laid_simulcast_plan_words)]
def strData (l : List ByteArray) : DataW Unit := .agg (l.map fun s => .lit (.string s.data.toList))
theorem laid_kw : (Rows.laid_simulcast_lexer_keywords : DataW Unit) = strData kwL := rfl
theorem laid_wd : (Rows.laid_simulcast_plan_words : DataW Unit) = strData [wordB 0, wordB 1, wordB 2] := rfl
theorem laid_p10 : (Rows.laid_internal_strconv_uint64pow10 : DataW Unit) = Lib.tabData .u64 Lib.pow10Tab := by kernel_rfl
theorem cells_of_strs {H : Type} {enc : TypeId × Value → H} {P : Program} {w : World} {base : Nat} {sp : Nat → Bool} {held : Bool} {fuel : Nat} {t e : TypeId} {n : Nat} {cs : List Value} {l : List ByteArray} {x : DataW H × List MemPlace}
    (ht : P.underlying t = some (.array n e)) (he : P.underlying e = some .string) (hce : P.cellsOf e = 1) (hct : P.cellsOf t = n) (hx : x.1 = .agg (l.map fun s => .lit (.string s.data.toList)))
    (h : DataW.trod enc P w base sp held fuel t cs = some x) : cs = l.flatMap encY := by
  obtain ⟨xs, m, _, rfl, hl, hxl, hf⟩ := DataW.trod_array ht h
  have hxs : xs.map (·.1) = l.map fun s => (DataW.lit (.string s.data.toList) : DataW H) := by simpa using hx
  rw [hct] at hl
  have hll : l.length = n := by
    have := congrArg List.length hxs
    simp at this
    omega
  have hfl : l.flatMap encY = l.map fun s => Value.string s := by
    clear hx hxs hll
    induction l with
    | nil => rfl
    | cons a l ih => rw [List.flatMap_cons, ih]; rfl
  rw [hfl]
  apply List.ext_getElem?
  intro i
  by_cases hi : i < n
  · have h1 := hf i hi
    rw [hce] at h1
    have h2 : xs[i]? = some xs[i] := List.getElem?_eq_getElem (by omega)
    rw [h2] at h1
    obtain ⟨s, hc, hz, _⟩ := DataW.trod_string he h1
    have h3 : cs[i]? = some (.string s) := by
      have := congrArg (·[0]?) hc
      simpa [List.getElem?_take, List.getElem?_drop] using this
    have h4 : (xs.map (·.1))[i]? = some (DataW.lit (.string s.data.toList) : DataW H) := by simp [h2, hz]
    rw [hxs] at h4
    simp only [List.getElem?_map, Option.map_eq_some_iff, DataW.lit.injEq, Lit.string.injEq] at h4
    obtain ⟨s', hs', he'⟩ := h4
    have : s' = s := WideShapes.bytes_inj he'
    subst this
    simp [h3, hs']
  · rw [List.getElem?_eq_none (by omega), List.getElem?_eq_none (by simp; omega)]
theorem gKw : Tryz.prog.globalNamed (nPl 0) = some 2 := by kernel_rfl
theorem gP10 : Tryz.prog.globalNamed (nPl 3) = some 1 := by kernel_rfl
theorem gWd : Tryz.prog.globalNamed (nPl 2) = some 0 := by kernel_rfl
theorem tKw : (Tryz.prog.globals[2]?).map (·.type) = some 150 := by kernel_rfl
theorem tP10 : (Tryz.prog.globals[1]?).map (·.type) = some 130 := by kernel_rfl
theorem tWd : (Tryz.prog.globals[0]?).map (·.type) = some 65 := by kernel_rfl
theorem heap_var {W : World} {g : Nat} {s : String} {cs : Array Value} (hg : Tryz.prog.globalNamed s = some g) (h : W.var? Tryz.prog s = some cs) : ∃ T fr, W.heap[g]? = some (.cells cs T fr) := by
  unfold World.var? at h
  rw [hg] at h
  simp only [Option.bind_some] at h
  split at h
  · rename_i c T fr hc
    cases h
    exact ⟨T, fr, hc⟩
  · cases h
theorem glob_ok {W : World} (h : laidMetH Tryz.prog lKw W) : KwOk W ∧ TabOk W ∧ WordsOk W := by
  rw [MakeChecks.laidMetH_plain _ _ _ (by kernel_rfl), lKw] at h
  obtain ⟨ps, ⟨_, _, _, _, _, q1, _, _, _, _, ⟨_, _, _, _, _, q2, _, _, _, _, ⟨g3, t3, c3, f3, p3, q3, hg3, ht3, hv3, hd3, ⟨g4, t4, c4, f4, p4, q4, hg4, ht4, hv4, hd4, ⟨_, _, _, _, _, q5, _, _, _, _, ⟨g6, t6, c6, f6, p6, q6, hg6, ht6, hv6, hd6, _, _⟩, _⟩, _⟩, _⟩, _⟩, _⟩, _⟩ := h
  obtain rfl := Option.some.inj (gP10.symm.trans hg3)
  obtain rfl := Option.some.inj (tP10.symm.trans ht3)
  obtain rfl := Option.some.inj (gKw.symm.trans hg4)
  obtain rfl := Option.some.inj (tKw.symm.trans ht4)
  obtain rfl := Option.some.inj (gWd.symm.trans hg6)
  obtain rfl := Option.some.inj (tWd.symm.trans ht6)
  rw [laid_p10] at hd3
  rw [laid_kw] at hd4
  rw [laid_wd] at hd6
  have e3 := Lib.cells_of_tab Tryz.underlying130 Tryz.underlying60 (by kernel_rfl) (by kernel_rfl) hd3
  have e4 := cells_of_strs (l := kwL) Tryz.underlying150 Tryz.underlying9 (by kernel_rfl) (by kernel_rfl) rfl hd4
  have e6 := cells_of_strs (l := [wordB 0, wordB 1, wordB 2]) Tryz.underlying65 Tryz.underlying9 (by kernel_rfl) (by kernel_rfl) rfl hd6
  obtain ⟨T3, r3, w3⟩ := heap_var gP10 hv3
  obtain ⟨T4, r4, w4⟩ := heap_var gKw hv4
  obtain ⟨T6, r6, w6⟩ := heap_var gWd hv6
  refine ⟨⟨T4, r4, by rw [w4, kwCells, ← e4]⟩, ⟨T3, r3, by rw [w3, ← e3]⟩, ⟨T6, r6, ?_⟩⟩
  have e6 : c6.toList = [.string (wordB 0), .string (wordB 1), .string (wordB 2)] := e6
  rw [w6, ← e6]
theorem door_met (os : Os) (args : Array Value) : laidMetH Tryz.prog lKw ((World.doorLaid Tryz.prog 400 os).forCall (fun _ _ => 0) ⟨#[], args, []⟩).memory :=
  laidMetH_of_parts3 (fuel := 8) (laidMet_of_run' 8 (by kernel_rfl) (by kernel_rfl)) (by kernel_rfl) (by kernel_rfl)
theorem calls_of {f : FuncId} {args : List Value} {W : World} (h : FnE PP W [] f args [] (.bool true) []) : Calls Tryz.prog f args.toArray W fun e W' => e = .returned (.bool true) ∧ Below W.heap.size W W' := by
  have := h.calls Heap.emp W (fun p hp => by cases hp) (st_start W)
  rw [PP_def] at this
  exact this.mono fun e W' ⟨v, Γ', he, ⟨hv, hΓ⟩, hst⟩ => ⟨by rw [he, hv], below_of_good hst.good⟩
theorem in_prog {H : Type} {enc : TypeId × Value → H} {w : World} {base : Nat} {spare : Nat → Bool} {held : Bool} {r : Reach} {b0 : Nat} {v : Value} {d : DataW H} {ps : List MemPlace}
    (hval : Value.okWide Tryz.prog w r b0 33 v) (h : DataW.Trod enc Tryz.prog w base spare held 33 v d ps) (hw : ∀ q ∈ d.weights Tryz.prog 33, q ≤ reachBytes) :
    ∃ p : PP', RdP w [] v p ∧ p.sz := by
  obtain ⟨fuel, hf⟩ := h
  simp only [Value.okWide, Tryz.underlying33] at hval
  obtain ⟨cs, rfl, _⟩ := hval
  have hf : DataW.trod enc Tryz.prog w base spare held fuel 33 cs.toList = some (d, ps) := hf
  obtain ⟨a, b, p, e, h1, h2⟩ := in_pp fuel _ _ hf hw
  have e2 : cs = #[a, b] := by rw [← Array.toList_inj, e]
  rw [e2]
  exact ⟨p, h1, h2⟩
section
variable {H : Type} {enc : TypeId × Value → H} {w : World} {base : Nat} {spare : Nat → Bool} {held : Bool}
theorem in_plan (n : Nat) (cs : List Value) (y : DataW H × List MemPlace) (h : DataW.trod enc Tryz.prog w base spare held n 25 cs = some y) : ∃ x : PLA, (RdY w [] x ∧ x.1.i64) ∧ cs = plL x := by
  obtain ⟨xs, n', _, hy, hlen, hxl, hf⟩ := DataW.trod_struct Tryz.underlying25 h
  have c0 : Tryz.prog.cellsOf 9 = 1 := by kernel_rfl
  have c1 : Tryz.prog.cellsOf 3 = 1 := by kernel_rfl
  have c2 : Tryz.prog.cellsOf 23 = 1 := by kernel_rfl
  have c3 : Tryz.prog.cellsOf 2 = 1 := by kernel_rfl
  have cT : Tryz.prog.cellsOf 25 = 4 := by kernel_rfl
  rw [cT] at hlen
  have f0 : DataW.trod enc Tryz.prog w base spare held n' 9 ((cs.drop 0).take (Tryz.prog.cellsOf 9)) = xs[0]? := hf 0 _ rfl
  have f1 : DataW.trod enc Tryz.prog w base spare held n' 3 ((cs.drop 1).take (Tryz.prog.cellsOf 3)) = xs[1]? := hf 1 _ rfl
  have f2 : DataW.trod enc Tryz.prog w base spare held n' 23 ((cs.drop 2).take (Tryz.prog.cellsOf 23)) = xs[2]? := hf 2 _ rfl
  have f3 : DataW.trod enc Tryz.prog w base spare held n' 2 ((cs.drop 3).take (Tryz.prog.cellsOf 2)) = xs[3]? := hf 3 _ rfl
  rw [c0] at f0
  rw [c1] at f1
  rw [c2] at f2
  rw [c3] at f3
  match cs, hlen with
  | [a0, a1, a2, a3], _ =>
    match xs, hxl with
    | [y0, y1, y2, y3], _ =>
      obtain ⟨s0, e0, _, _⟩ := DataW.trod_string Tryz.underlying9 (show DataW.trod _ _ _ _ _ _ n' _ [a0] = some y0 from f0)
      obtain ⟨k1, e1, _⟩ := DataW.trod_int Tryz.underlying3 (show DataW.trod _ _ _ _ _ _ n' _ [a1] = some y1 from f1)
      obtain ⟨v2, l2, e2, r2, _, _⟩ := in_strsT Tryz.underlying23 Tryz.underlying9 c0 (show DataW.trod _ _ _ _ _ _ n' _ [a2] = some y2 from f2)
      obtain ⟨k3, e3, _, w3⟩ := DataW.trod_int Tryz.underlying2 (show DataW.trod _ _ _ _ _ _ n' _ [a3] = some y3 from f3)
      simp only [List.cons.injEq, and_true] at e0 e1 e2 e3
      subst e0; subst e1; subst e2; subst e3
      have r2 : RdSl w [] encY 1 a2 l2 := r2.rd
      obtain ⟨x2, d2, ev2, _⟩ := id r2
      subst ev2
      exact ⟨(⟨s0, k1, l2, k3⟩, (x2, d2)), ⟨r2, wf_i64 w3⟩, rfl⟩
theorem in_plans {r : Reach} {b0 : Nat} {v : Value} {d : DataW H} {ps : List MemPlace}
    (hval : Value.okWide Tryz.prog w r b0 22 v) (h : DataW.Trod enc Tryz.prog w base spare held 22 v d ps) (hw : ∀ q ∈ d.weights Tryz.prog 22, q ≤ reachBytes) :
    ∃ l : List PL, RdPs w [] v l ∧ (∀ x ∈ l, x.i64) ∧ l.length ≤ 2513169434843 := by
  obtain ⟨fuel, hf⟩ := h
  have cT : Tryz.prog.cellsOf 25 = 4 := by kernel_rfl
  have bT : Tryz.prog.bytesOf 25 = 56 := by kernel_rfl
  obtain ⟨u, l, e1, hin, hall, hsz⟩ := in_sliceT plL (fun x => RdY w [] x ∧ x.1.i64) Tryz.underlying22 cT (by decide) in_plan hf
  have hv : v = u := by
    simp only [Value.okWide, Tryz.underlying22] at hval
    cases v with
    | agg cs => simp [Cell.okWide, Cell.ok, Tryz.underlying22] at hval
    | _ => simpa [Value.cells] using e1
  subst hv
  have hlen := hsz hw
  rw [bT] at hlen
  have hR : reachBytes = 140737488351232 := rfl
  refine ⟨l.map (·.1), ⟨l, rfl, hin.rd, fun y hy => (hall y hy).1⟩, fun x hx => ?_, ?_⟩
  · obtain ⟨y, hy, rfl⟩ := List.mem_map.1 hx
    exact (hall y hy).2
  · rw [List.length_map]
    omega
end
end Go.Proofs.YtfnjeldpfilplaaGreatDoor

namespace Go.Proofs.YtfnjeldpfilplaaGreatDoor
open Go.Vc Sim

end Go.Proofs.YtfnjeldpfilplaaGreatDoor

namespace Sim
end Sim
namespace Go.Vc
open Sim
theorem RdOs.put {w0 : World} {sh : Shared} : ∀ {l : List PO} {cl : List (List Value)} {j : Nat} {o : PO} {c : List Value}, RdOs w0 sh l cl → j < l.length → RdO w0 sh o c → RdOs w0 sh (l.set j o) (cl.set j c)
  | [], _, j, o, c, _, hj, _ => by simp at hj
  | x :: l, _, 0, o, c, h, _, ho => by
    obtain ⟨c', cl', rfl, h2, h3⟩ := h
    exact ⟨c, cl', rfl, ho, h3⟩
  | x :: l, _, j + 1, o, c, h, hj, ho => by
    obtain ⟨c', cl', rfl, h2, h3⟩ := h
    exact ⟨c', _, rfl, h2, RdOs.put h3 (by simpa using hj) ho⟩
theorem RdSs.take {w0 : World} {sh : Shared} : ∀ {l : List PS} {cl : List (List Value)} (k : Nat), RdSs w0 sh l cl → RdSs w0 sh (l.take k) (cl.take k)
  | l, cl, 0, _ => by rw [List.take_zero, List.take_zero]; unfold RdSs; rfl
  | [], _, k + 1, h => by unfold RdSs at h; rw [h]; unfold RdSs; rfl
  | e :: l, _, k + 1, h => by
    unfold RdSs at h
    obtain ⟨c, cl', rfl, h3, h4⟩ := h
    rw [List.take_succ_cons, List.take_succ_cons]
    unfold RdSs
    exact ⟨c, _, rfl, h3, RdSs.take k h4⟩
theorem RdSt.head {w0 : World} {sh : Shared} {a : Option Addr} {cap k : Nat} {l : List PS} (h : RdSt w0 sh (.slice a l.length cap) l) (hk : k ≤ l.length) : RdSt w0 sh (.slice a k cap) (l.take k) := by
  obtain ⟨cl, h1, h2⟩ := h
  rw [← h2.len] at h1 hk
  exact ⟨_, RdSl.head h1 hk, h2.take k⟩
end Go.Vc
namespace Sim
end Sim
namespace Go.Proofs.YtfnjeldpfilplaaGreatDoor
open Go.Vc Sim
theorem ofP_sm {p : PP'} {n : ByteArray} {m : Nat} (h : ∀ o ∈ p.opers, PS.sizeL o.body ≤ m) : (ofP p n).1.sm m := by
  unfold ofP
  split
  · exact zeroE_sm m
  · split
    · exact zeroE_sm m
    · rename_i o hq
      have ho := h o (List.mem_of_find?_eq_some hq)
      split
      · exact zeroE_sm m
      · exact (stmtEs_sm p.stores o.body zeroE 0 0 (zeroE_sm 0)).mono (by omega)
end Go.Proofs.YtfnjeldpfilplaaGreatDoor

namespace Sim
open Go Go.Vc
theorem clsN_ok {e : Ef} (h : e.ok) : (if e.writes.length ≠ 0 then (2 : Int) else if e.reads.length ≠ 0 then 1 else 0) = clsN e.reads.length e.writes.length := by
  have h1 : e.reads.length = 0 → e.writes.length = 0 := fun q => by
    cases hw : e.writes with
    | nil => rfl
    | cons x l =>
      have := h.1 x (by rw [hw]; exact .head _)
      rw [List.length_eq_zero_iff.1 q] at this
      cases this
  unfold clsN
  by_cases hr : e.reads.length = 0
  · rw [if_neg (by rw [h1 hr]; exact fun q => q rfl), if_neg (fun q => q hr), if_pos hr]
  · rw [if_neg hr]
    by_cases hw : e.writes.length = 0
    · rw [if_neg (fun q => q hw), if_pos hr, if_pos hw]
    · rw [if_pos hw, if_neg hw]
end Sim
namespace Go.Proofs.YtfnjeldpfilplaaGreatDoor
open Go.Vc Sim
theorem classO_spec (w0 : World) {e : Ef} (h : e.ok) : FnE PP w0 [] 15 [.int .i64 (e.reads.length : Nat), .int .i64 (e.writes.length : Nat)] [] (.int .i64 (clsN e.reads.length e.writes.length)) [] := by
  have := class_spec w0 e.reads.length e.writes.length
  rw [clsN_ok h] at this
  exact this
set_option maxHeartbeats 8000000 in
theorem planOfLaw_spec (w0 : World) (hk : KwOk w0) (ht : TabOk w0) (hwd : WordsOk w0) (v : Value) (p : PP') (oper : ByteArray) (hp : RdP w0 [] v p) (hz : p.sz) :
    FnE PP w0 [] 4 [v, .string oper] [] (.bool true) [] := by
  have haw := awake_spec w0 hk ht hwd
  have hgr := greatP_spec w0 [] v p hp hz
  have hp0 := hp
  obtain ⟨vs, vo, rfl, h1, h2⟩ := hp
  obtain ⟨a1, c1, hvs, hc1, _⟩ := id h1
  obtain ⟨a2, c2, hvo, hc2⟩ := h2.len
  subst hvs; subst hvo
  have hlen := hz.2.2.1
  refine fn_of_run en4 fn4 rfl rfl rfl ?_
  repeat (first | refine zck ?_ | refine zcl ?_ | refine zcm ?_ | refine zcn ?_)
  first | refine zcp (by kernel_rfl) ?_ | refine zcq PP_mixed (by kernel_rfl) (by kernel_rfl) ?_
  repeat' (refine zap rfl ?_; first | refine zaq (cs := [_, _]) rfl (fun tp => ?_) | refine zan rfl ?_)
  all_goals refine zch ?_
  all_goals repeat (first | refine zck ?_ | refine zcl ?_ | refine zcm ?_ | refine zcn ?_)
  refine run_share [0] rfl ?_
  by_cases hn : 300 < oper.size
  · repeat (first | refine zck ?_ | refine zcl ?_ | refine zcm ?_ | refine zcn ?_)
    first | refine zcp (by kernel_rfl) ?_ | refine zcq PP_mixed (by kernel_rfl) (by kernel_rfl) ?_
    repeat' (refine zap rfl ?_; first | refine zaa 0 rfl rfl rfl ?_ | refine zaj rfl ?_ | refine zak rfl ?_ | refine zan rfl ?_ | (refine zai [] hgr rfl rfl rfl sub_nil ?_; rintro v Γ ⟨rfl, B, rfl, hB⟩; cases B) | refine reg_lenS rfl ?_ | refine zbk rfl rfl (by omega) ?_ | refine zbu rfl ?_ | refine zbv rfl ?_)
    all_goals refine zch ?_
    all_goals repeat (first | refine zck ?_ | refine zcl ?_ | refine zcm ?_ | refine zcn ?_)
    all_goals
      repeat' (first | refine zck ?_ | refine zcp (by kernel_rfl) ?_ | (refine zap rfl ?_; first | refine zan rfl ?_ | refine zah [] haw rfl rfl rfl sub_nil rfl ?_) | refine zch ?_ | refine zci rfl ?_)
      exact ret_tmp1 rfl ⟨rfl, rfl⟩
  repeat (first | refine zck ?_ | refine zcl ?_ | refine zcm ?_ | refine zcn ?_)
  first | refine zcp (by kernel_rfl) ?_ | refine zcq PP_mixed (by kernel_rfl) (by kernel_rfl) ?_
  repeat' (refine zap rfl ?_; first | refine zaa 0 rfl rfl rfl ?_ | refine zaj rfl ?_ | refine zak rfl ?_ | refine zan rfl ?_ | (refine zai [] hgr rfl rfl rfl sub_nil ?_; rintro v Γ ⟨rfl, B, rfl, hB⟩; cases B) | refine reg_lenS rfl ?_ | refine zbl rfl rfl (by omega) ?_ | refine zbu rfl ?_ | refine zbv rfl ?_)
  all_goals refine zch ?_
  all_goals repeat (first | refine zck ?_ | refine zcl ?_ | refine zcm ?_ | refine zcn ?_)
  rotate_left
  · repeat' (first | refine zck ?_ | refine zcp (by kernel_rfl) ?_ | (refine zap rfl ?_; first | refine zan rfl ?_ | refine zah [] haw rfl rfl rfl sub_nil rfl ?_) | refine zch ?_ | refine zci rfl ?_)
    exact ret_tmp1 rfl ⟨rfl, rfl⟩
  refine zcj rfl ?_
  have hcost := hB rfl
  obtain ⟨sm1, sm2⟩ := small_of hcost
  have sm3 : ∀ x ∈ p.opers, PS.sizeL x.body ≤ 10000 := fun x hx => Nat.le_trans (sm2 x hx) (by omega)
  have hof := planOf_spec w0 hk [] _ p oper hp0 sm1 sm3
  have hal := planAll_spec w0 hk [] _ p hp0 sm1 sm3
  have hty := typesCheck_spec w0 hk [] _ p hp0 sm1 sm3
  have hfd := find_spec w0 [] _ p oper hp0 sm1.2.1
  obtain ⟨⟨X, E⟩, hP⟩ : ∃ r, planP p oper = r := ⟨_, rfl⟩
  obtain ⟨⟨L, F⟩, hA⟩ : ∃ r, planA p = r := ⟨_, rfl⟩
  obtain ⟨⟨tn, tc⟩, hT⟩ : ∃ r, tyP p = r := ⟨_, rfl⟩
  rw [hP] at hof
  rw [hA] at hal
  rw [hT] at hty
  unfold POf at hof
  dsimp only at hof hal hty
  repeat (first | refine zck ?_ | refine zcl ?_ | refine zcm ?_ | refine zcn ?_)
  first | refine zcp (by kernel_rfl) ?_ | refine zcq PP_mixed (by kernel_rfl) (by kernel_rfl) ?_
  repeat' (refine zap rfl ?_; first | refine zaa 0 rfl rfl rfl ?_ | refine zar (fun t5 => ?_) | refine zan rfl ?_ | refine zan rfl ?_ | (refine zai [] hof rfl rfl rfl sub_nil ?_; rintro v Γ ⟨q, rfl, rfl⟩) | refine zan rfl ?_ | refine zae 1 rfl rfl rfl rfl rfl rfl rfl ?_)
  all_goals refine zch ?_
  all_goals repeat (first | refine zck ?_ | refine zcl ?_ | refine zcm ?_ | refine zcn ?_)
  refine run_share [1] rfl ?_
  refine run_shareB [0] rfl (fun bl hbl => ?_)
  repeat (first | refine zck ?_ | refine zcl ?_ | refine zcm ?_ | refine zcn ?_ | refine zco ?_)
  repeat (first | refine zck ?_ | refine zcl ?_ | refine zcm ?_ | refine zcn ?_)
  first | refine zcp (by kernel_rfl) ?_ | refine zcq PP_mixed (by kernel_rfl) (by kernel_rfl) ?_
  repeat' (refine zap rfl ?_; first | refine zaa 1 rfl rfl rfl ?_ | refine zan rfl ?_ | refine zan rfl ?_ | (refine zai [] hal rfl rfl rfl sub_nil ?_; rintro v Γ ⟨a, c, rfl, rfl⟩) | refine zan rfl ?_)
  all_goals refine zch ?_
  all_goals repeat (first | refine zck ?_ | refine zcl ?_ | refine zcm ?_ | refine zcn ?_)
  refine run_shareB [0] rfl (fun bl2 hbl2 => ?_)
  repeat (first | refine zck ?_ | refine zcl ?_ | refine zcm ?_ | refine zcn ?_ | refine zco ?_)
  repeat (first | refine zck ?_ | refine zcl ?_ | refine zcm ?_ | refine zcn ?_)
  first | refine zcp (by kernel_rfl) ?_ | refine zcq PP_mixed (by kernel_rfl) (by kernel_rfl) ?_
  repeat' (refine zap rfl ?_; first | refine zan rfl ?_ | refine zan rfl ?_ | refine zaa 1 rfl rfl rfl ?_ | refine zah [] hty rfl rfl rfl sub_nil rfl ?_ | refine zan rfl ?_)
  all_goals refine zch ?_
  all_goals repeat (first | refine zck ?_ | refine zcl ?_ | refine zcm ?_ | refine zcn ?_)
  by_cases hc : tc = 0
  rotate_left
  · have e1 := planP_ill (by rw [hT]; exact hc) oper
    have e2 := planA_ill (p := p) (by rw [hT]; exact hc)
    rw [hP, hT] at e1
    rw [hA, hT] at e2
    dsimp only at e1 e2
    cases e1
    cases e2
    have hk0 := fun sh (h : RdY w0 sh (zeroPl, q)) => alike_spec w0 sh zeroPl q (none, 0) h RdSl.nil (by decide)
    repeat (first | refine zck ?_ | refine zcl ?_ | refine zcm ?_ | refine zcn ?_)
    first | refine zcp (by kernel_rfl) ?_ | refine zcq PP_mixed (by kernel_rfl) (by kernel_rfl) ?_
    repeat' (refine zap rfl ?_; first | refine zan rfl ?_ | refine zbe rfl rfl (by omega) ?_)
    all_goals refine zch ?_
    all_goals repeat (first | refine zck ?_ | refine zcl ?_ | refine zcm ?_ | refine zcn ?_)
    refine zci rfl ?_
    repeat (first | refine zck ?_ | refine zcl ?_ | refine zcm ?_ | refine zcn ?_)
    first | refine zcp (by kernel_rfl) ?_ | refine zcq PP_mixed (by kernel_rfl) (by kernel_rfl) ?_
    repeat' (refine zap rfl ?_; first | refine zaj rfl ?_ | refine zan rfl ?_ | refine zan rfl ?_ | refine zaa 0 rfl rfl rfl ?_ | refine zce rfl ?_ | refine reg_lenS rfl ?_ | refine zah [] haw rfl rfl rfl sub_nil rfl ?_ | refine zah [] (hk0 _ (hbl.mono fun p hp => by simp [hp])) rfl rfl rfl (fun _ h => h) rfl ?_ | refine zce rfl ?_ | refine zbc rfl rfl (by omega) ?_ | refine zbo rfl rfl ?_ | refine zbu rfl ?_ | refine zcb rfl ?_)
    all_goals refine zch ?_
    all_goals repeat (first | refine zck ?_ | refine zcl ?_ | refine zcm ?_ | refine zcn ?_)
    repeat' (first | refine zck ?_ | (refine zap rfl ?_; first | refine zaj rfl ?_ | refine zak rfl ?_ | refine zal rfl ?_ | refine zam rfl rfl (fun _ => ?_) (fun _ => ?_)) | refine zch ?_)
    exact ret_tmp1 rfl ⟨rfl, rfl⟩
  have hW : WellP p := wellP_iff.1 (by rw [hT]; exact Decidable.not_not.1 (fun q => q hc))
  have e2 := planA_well hW
  rw [hA] at e2
  cases e2
  repeat (first | refine zck ?_ | refine zcl ?_ | refine zcm ?_ | refine zcn ?_)
  first | refine zcp (by kernel_rfl) ?_ | refine zcq PP_mixed (by kernel_rfl) (by kernel_rfl) ?_
  repeat' (refine zap rfl ?_; first | refine zan rfl ?_ | refine zbf rfl rfl (by omega) ?_)
  all_goals refine zch ?_
  all_goals repeat (first | refine zck ?_ | refine zcl ?_ | refine zcm ?_ | refine zcn ?_)
  refine zcj rfl ?_
  obtain ⟨L', hL', hLs, hLr⟩ := hbl2
  have hnl : L'.length = p.opers.length := by have := congrArg List.length hL'; rw [List.length_map, List.length_map] at this; exact this
  have hml : (p.opers.map (planO p)).length = p.opers.length := List.length_map ..
  rw [hml] at hLs
  repeat (first | refine zck ?_ | refine zcl ?_ | refine zcm ?_ | refine zcn ?_)
  first | refine zcp (by kernel_rfl) ?_ | refine zcq PP_mixed (by kernel_rfl) (by kernel_rfl) ?_
  repeat' (refine zap rfl ?_; first | refine zaj rfl ?_ | refine zan rfl ?_ | refine zaa 1 rfl rfl rfl ?_ | refine zce rfl ?_ | refine zao rfl ?_ | refine zbf rfl rfl (by omega) ?_ | refine zbv rfl ?_)
  all_goals refine zch ?_
  all_goals repeat (first | refine zck ?_ | refine zcl ?_ | refine zcm ?_ | refine zcn ?_)
  refine zcj rfl ?_
  repeat (first | refine zck ?_ | refine zcl ?_ | refine zcm ?_ | refine zcn ?_)
  first | refine zcp (by kernel_rfl) ?_ | refine zcq PP_mixed (by kernel_rfl) (by kernel_rfl) ?_
  repeat' (refine zap rfl ?_; first | refine zan rfl ?_ | refine zaa 1 rfl rfl rfl ?_ | refine zce rfl ?_ | refine zao rfl ?_)
  all_goals refine zch ?_
  all_goals repeat (first | refine zck ?_ | refine zcl ?_ | refine zcm ?_ | refine zcn ?_)
  refine run_loop (S := Nat) (fun j => [(1, .string oper), (2, .pointer (some ⟨tp, 0, none⟩)), (5, .pointer (some ⟨t5, 0, none⟩)), (6, .int .i64 E), (7, .slice a (p.opers.map (planO p)).length c), (76, .slice a2 p.opers.length c2), (77, .int .i64 p.opers.length), (78, .int .i64 (j : Int))])
    (fun j Γ => Γ = [] ∧ j ≤ p.opers.length) (fun j => p.opers.length - j) 0 ⟨rfl, rfl, rfl, rfl, rfl, rfl, rfl, rfl, trivial⟩ ⟨rfl, Nat.zero_le _⟩ ?_
  rintro j Γ junk ⟨rfl, hj0⟩
  by_cases hj : j < p.opers.length
  · obtain ⟨o, ho⟩ : ∃ o, p.opers[j]? = some o := ⟨_, List.getElem?_eq_getElem hj⟩
    obtain ⟨b, off, cc, T, fr, cs, rfl, f2, f3, ⟨vp, vb, rfl, r1, r2⟩, _⟩ := h2.at ho
    obtain ⟨a3, c3, hvp, _⟩ := id r1
    obtain ⟨a4, c4, hvb, _⟩ := r2.len
    subst hvp; subst hvb
    have hom := List.mem_of_getElem? ho
    obtain ⟨y, hy⟩ : ∃ y, L'[j]? = some y := ⟨_, List.getElem?_eq_getElem (by omega)⟩
    have hyo : y.1 = planO p o := by
      have h := congrArg (·[j]?) hL'
      simp only [List.getElem?_map, hy, ho, Option.map_some, Option.some.injEq] at h
      exact h
    obtain ⟨Y, r⟩ := y
    dsimp only at hyo
    have hyr := hLr _ (List.mem_of_getElem? hy)
    obtain ⟨b', off', cc', T', fr', hab, g2, g3, _⟩ := hLs.cells hy
    subst hab
    have hwl := ofP_well hW hom
    have hE4 : (ofP p o.name).1.sm 400 := ofP_sm sm2
    have hok := stmtEs_ok p.stores o.body zeroE 0 zeroE_ok
    have hef := of_spec w0 hk [] _ p o.name hp0 sm1 sm3
    unfold OSpec at hef
    rw [hwl] at hef hE4
    have hYd : Y = planE o.name (stmtEs p.stores o.body zeroE 0).1 := hyo
    generalize (stmtEs p.stores o.body zeroE 0).1 = G at hef hE4 hok hYd
    dsimp only at hef hE4
    subst hYd
    have hcl := classO_spec w0 hok
    have hYl : G.reads.length ≤ 1000000000 := by have := hE4.1; omega
    have g3 : ∀ o', o' = off' + j * 4 → rd true 4 cc'.toList o' = some (.agg (List.toArray [.string o.name, .int .i64 (clsN G.reads.length G.writes.length), .slice r.1 G.reads.length r.2, .int .i64 G.calls])) := g3
    repeat (first | refine zck ?_ | refine zcl ?_ | refine zcm ?_ | refine zcn ?_)
    first | refine zcp (by kernel_rfl) ?_ | refine zcq PP_mixed (by kernel_rfl) (by kernel_rfl) ?_
    repeat' (refine zap rfl ?_; first | refine zbg rfl rfl (by omega) ?_)
    all_goals refine zch ?_
    all_goals repeat (first | refine zck ?_ | refine zcl ?_ | refine zcm ?_ | refine zcn ?_)
    refine zci rfl ?_
    repeat (first | refine zck ?_ | refine zcl ?_ | refine zcm ?_ | refine zcn ?_)
    first | refine zcp (by kernel_rfl) ?_ | refine zcq PP_mixed (by kernel_rfl) (by kernel_rfl) ?_
    repeat' (refine zap rfl ?_; first | refine zad rfl (fun hF Γ w h1 h2 => f2 hF Γ w (fun p hp => by cases hp) h2) (f3 _ (by omega)) ?_ | refine zar (fun t12 => ?_) | refine zan rfl ?_ | refine zan rfl ?_ | refine zae 0 rfl rfl rfl rfl rfl rfl rfl ?_ | refine zas rfl rfl (by omega) ?_)
    all_goals refine zch ?_
    all_goals repeat (first | refine zck ?_ | refine zcl ?_ | refine zcm ?_ | refine zcn ?_)
    refine run_share [0] rfl ?_
    repeat (first | refine zck ?_ | refine zcl ?_ | refine zcm ?_ | refine zcn ?_ | refine zco ?_)
    repeat (first | refine zck ?_ | refine zcl ?_ | refine zcm ?_ | refine zcn ?_)
    first | refine zcp (by kernel_rfl) ?_ | refine zcq PP_mixed (by kernel_rfl) (by kernel_rfl) ?_
    repeat' (refine zap rfl ?_; first | refine zar (fun t13 => ?_) | refine zan rfl ?_ | refine zan rfl ?_ | refine zaa 0 rfl rfl rfl ?_ | refine zaa 2 rfl rfl rfl ?_ | (refine zai [] hef rfl rfl rfl sub_nil ?_; rintro v Γ ⟨u, rfl, rfl⟩) | refine zao rfl ?_ | refine zan rfl ?_ | refine zae 1 rfl rfl rfl rfl rfl rfl rfl ?_)
    all_goals refine zch ?_
    all_goals repeat (first | refine zck ?_ | refine zcl ?_ | refine zcm ?_ | refine zcn ?_)
    refine run_share [1] rfl ?_
    refine run_shareB [0] rfl (fun bl3 hbl3 => ?_)
    repeat (first | refine zck ?_ | refine zcl ?_ | refine zcm ?_ | refine zcn ?_ | refine zco ?_)
    repeat (first | refine zck ?_ | refine zcl ?_ | refine zcm ?_ | refine zcn ?_)
    first | refine zcp (by kernel_rfl) ?_ | refine zcq PP_mixed (by kernel_rfl) (by kernel_rfl) ?_
    repeat' (refine zap rfl ?_; first | refine zar (fun t15 => ?_) | refine zaa 0 rfl rfl rfl ?_ | refine zaa 1 rfl rfl rfl ?_ | refine zce rfl ?_ | refine zah [] hcl rfl rfl rfl sub_nil rfl ?_ | refine zao rfl ?_ | refine zae 0 rfl rfl rfl rfl rfl rfl rfl ?_ | refine zcb rfl ?_)
    all_goals refine zch ?_
    all_goals repeat (first | refine zck ?_ | refine zcl ?_ | refine zcm ?_ | refine zcn ?_)
    refine run_share [0] rfl ?_
    repeat (first | refine zck ?_ | refine zcl ?_ | refine zcm ?_ | refine zcn ?_ | refine zco ?_)
    have hA1 := fun sh (k1 : ∀ p ∈ bl2, p ∈ sh) (k2 : ∀ p ∈ bl3, p ∈ sh) => alike_spec w0 sh (planE o.name G) r u.1 (hyr.mono k1) ((rdEf_reads hbl3).mono k2) hYl
    by_cases hname : o.name = oper
    · subst hname
      have hXE := planP_well hW hom
      rw [hP] at hXE
      have hX : X = planE o.name G := (congrArg Prod.fst hXE).trans hyo.symm
      have hE : E = 0 := congrArg Prod.snd hXE
      subst hX; subst hE
      have hA2 := fun sh (k1 : ∀ p ∈ bl, p ∈ sh) (k2 : ∀ p ∈ bl3, p ∈ sh) => alike_spec w0 sh (planE o.name G) q u.1 ((show RdY w0 bl (planE o.name G, q) from hbl).mono k1) ((rdEf_reads hbl3).mono k2) hYl
      repeat (first | refine zck ?_ | refine zcl ?_ | refine zcm ?_ | refine zcn ?_)
      first | refine zcp (by kernel_rfl) ?_ | refine zcq PP_mixed (by kernel_rfl) (by kernel_rfl) ?_
      repeat' (refine zap rfl ?_; first | refine zad rfl (fun hF Γ w h1 h2 => g2 hF Γ w (fun p hp => h1 p (by simp [hp])) h2) (g3 _ (by omega)) ?_ | refine zaa 0 rfl rfl rfl ?_ | refine zbx rfl ?_ | refine reg_eqST rfl rfl rfl ?_ | refine zaj rfl ?_ | refine zan rfl ?_ | refine zaa 2 rfl rfl rfl ?_ | refine zaa 3 rfl rfl rfl ?_ | refine zah [] (hA1 _ (fun p hp => by simp [hp]) (fun p hp => by simp [hp])) rfl rfl rfl (fun _ h => h) rfl ?_ | refine zah [] (hA2 _ (fun p hp => by simp [hp]) (fun p hp => by simp [hp])) rfl rfl rfl (fun _ h => h) rfl ?_ | refine zce rfl ?_ | refine zao rfl ?_ | refine zbf rfl rfl (by omega) ?_ | refine zbu rfl ?_ | refine zbv rfl ?_ | refine zas rfl rfl (by omega) ?_)
      all_goals refine zch ?_
      all_goals repeat (first | refine zck ?_ | refine zcl ?_ | refine zcm ?_ | refine zcn ?_)
      refine zcj rfl ?_
      repeat' (first | refine zcp (by kernel_rfl) ?_ | refine zcm ?_ | refine zcn ?_ | (refine zap rfl ?_; first | refine zan rfl ?_ | refine zau rfl rfl (by omega) ?_) | refine zch ?_)
      exact cut_end ⟨rfl, j + 1, ⟨rfl, rfl, rfl, rfl, rfl, rfl, rfl, int_eq (by omega), trivial⟩, ⟨rfl, by omega⟩, by omega⟩
    · repeat (first | refine zck ?_ | refine zcl ?_ | refine zcm ?_ | refine zcn ?_)
      first | refine zcp (by kernel_rfl) ?_ | refine zcq PP_mixed (by kernel_rfl) (by kernel_rfl) ?_
      repeat' (refine zap rfl ?_; first | refine zad rfl (fun hF Γ w h1 h2 => g2 hF Γ w (fun p hp => h1 p (by simp [hp])) h2) (g3 _ (by omega)) ?_ | refine zaa 0 rfl rfl rfl ?_ | refine zbx rfl ?_ | refine reg_eqSF rfl rfl hname ?_ | refine zaj rfl ?_ | refine zak rfl ?_ | refine zal rfl ?_ | refine zan rfl ?_ | refine zaa 2 rfl rfl rfl ?_ | refine zah [] (hA1 _ (fun p hp => by simp [hp]) (fun p hp => by simp [hp])) rfl rfl rfl (fun _ h => h) rfl ?_ | refine zce rfl ?_ | refine zao rfl ?_ | refine zbf rfl rfl (by omega) ?_ | refine zbv rfl ?_ | refine zas rfl rfl (by omega) ?_)
      all_goals refine zch ?_
      all_goals repeat (first | refine zck ?_ | refine zcl ?_ | refine zcm ?_ | refine zcn ?_)
      refine zcj rfl ?_
      repeat' (first | refine zcp (by kernel_rfl) ?_ | refine zcm ?_ | refine zcn ?_ | (refine zap rfl ?_; first | refine zan rfl ?_ | refine zau rfl rfl (by omega) ?_) | refine zch ?_)
      exact cut_end ⟨rfl, j + 1, ⟨rfl, rfl, rfl, rfl, rfl, rfl, rfl, int_eq (by omega), trivial⟩, ⟨rfl, by omega⟩, by omega⟩
  · repeat (first | refine zck ?_ | refine zcl ?_ | refine zcm ?_ | refine zcn ?_)
    first | refine zcp (by kernel_rfl) ?_ | refine zcq PP_mixed (by kernel_rfl) (by kernel_rfl) ?_
    repeat' (refine zap rfl ?_; first | refine zbh rfl rfl (by omega) ?_)
    all_goals refine zch ?_
    all_goals repeat (first | refine zck ?_ | refine zcl ?_ | refine zcm ?_ | refine zcn ?_)
    refine zcj rfl ?_
    refine cut_exit rfl rfl ?_
    repeat (first | refine zck ?_ | refine zcl ?_ | refine zcm ?_ | refine zcn ?_ | refine zco ?_)
    cases hF : findP p oper with
    | none =>
      rw [hF] at hfd
      dsimp only at hfd
      have hXE := planP_none hW hF
      rw [hP] at hXE
      cases hXE
      have hk0 := fun sh (h : RdY w0 sh (zeroPl, q)) => alike_spec w0 sh zeroPl q (none, 0) h RdSl.nil (by decide)
      repeat (first | refine zck ?_ | refine zcl ?_ | refine zcm ?_ | refine zcn ?_)
      first | refine zcp (by kernel_rfl) ?_ | refine zcq PP_mixed (by kernel_rfl) (by kernel_rfl) ?_
      repeat' (refine zap rfl ?_; first | refine zar (fun t16 => ?_) | refine zan rfl ?_ | refine zan rfl ?_ | refine zaa 1 rfl rfl rfl ?_ | (refine zai [] hfd rfl rfl rfl sub_nil ?_; rintro v Γ ⟨rfl, rfl⟩) | refine zan rfl ?_ | refine zae 0 rfl rfl rfl rfl rfl rfl rfl ?_)
      all_goals refine zch ?_
      all_goals repeat (first | refine zck ?_ | refine zcl ?_ | refine zcm ?_ | refine zcn ?_)
      repeat (first | refine zck ?_ | refine zcl ?_ | refine zcm ?_ | refine zcn ?_)
      first | refine zcp (by kernel_rfl) ?_ | refine zcq PP_mixed (by kernel_rfl) (by kernel_rfl) ?_
      repeat' (refine zap rfl ?_; first | refine zbx rfl ?_ | refine zan rfl ?_)
      all_goals refine zch ?_
      all_goals repeat (first | refine zck ?_ | refine zcl ?_ | refine zcm ?_ | refine zcn ?_)
      refine zci rfl ?_
      repeat' (first | refine zck ?_ | refine zcp (by kernel_rfl) ?_ | (refine zap rfl ?_; first | refine zaj rfl ?_ | refine zan rfl ?_ | refine zan rfl ?_ | refine zaa 0 rfl rfl rfl ?_ | refine zah [] haw rfl rfl rfl sub_nil rfl ?_ | refine zah [] (hk0 _ (hbl.mono fun p hp => by simp [hp])) rfl rfl rfl (fun _ h => h) rfl ?_ | refine zce rfl ?_ | refine zbc rfl rfl (by omega) ?_ | refine zbu rfl ?_ | refine zcb rfl ?_) | refine zch ?_)
      refine run_take [] rfl ?_
      exact ret_tmp1 rfl ⟨rfl, rfl⟩
    | some o =>
      rw [hF] at hfd
      dsimp only at hfd
      repeat (first | refine zck ?_ | refine zcl ?_ | refine zcm ?_ | refine zcn ?_)
      first | refine zcp (by kernel_rfl) ?_ | refine zcq PP_mixed (by kernel_rfl) (by kernel_rfl) ?_
      repeat' (refine zap rfl ?_; first | refine zar (fun t16 => ?_) | refine zan rfl ?_ | refine zan rfl ?_ | refine zaa 1 rfl rfl rfl ?_ | (refine zai [] hfd rfl rfl rfl sub_nil ?_; rintro v Γ ⟨rfl, v, rfl, cs, rfl, vp, vb, rfl, r1, r2⟩; obtain ⟨a3, c3, hvp, _⟩ := id r1; obtain ⟨a4, c4, hvb, _⟩ := r2.len; subst hvp; subst hvb) | refine zan rfl ?_ | refine zae 0 rfl rfl rfl rfl rfl rfl rfl ?_)
      all_goals refine zch ?_
      all_goals repeat (first | refine zck ?_ | refine zcl ?_ | refine zcm ?_ | refine zcn ?_)
      repeat (first | refine zck ?_ | refine zcl ?_ | refine zcm ?_ | refine zcn ?_)
      first | refine zcp (by kernel_rfl) ?_ | refine zcq PP_mixed (by kernel_rfl) (by kernel_rfl) ?_
      repeat' (refine zap rfl ?_; first | refine zbx rfl ?_ | refine zan rfl ?_)
      all_goals refine zch ?_
      all_goals repeat (first | refine zck ?_ | refine zcl ?_ | refine zcm ?_ | refine zcn ?_)
      refine zcj rfl ?_
      repeat' (first | refine zck ?_ | refine zcp (by kernel_rfl) ?_ | refine zcm ?_ | (refine zap rfl ?_; first | refine zan rfl ?_ | refine zah [] haw rfl rfl rfl sub_nil rfl ?_) | refine zch ?_)
      refine run_take [] rfl ?_
      exact ret_tmp1 rfl ⟨rfl, rfl⟩
end Go.Proofs.YtfnjeldpfilplaaGreatDoor

namespace Go.Vc
section
variable {P : Program} {w0 : World} {n : Nat} {sh : Shared} {Q : Exit → Env → List Deferred → List Asn → Prop} {k : List Item} {ρ : Env} {df : List Deferred} {Γ : List Asn}
variable {ops : Array Oper} {l : List (Fl × Nat × Oper)} {b : Fl} {i d : Nat} {ty : TypeId} {pos : String} {aft : Array Edge} {x : Operand} {t kt et : TypeId} {r : Nat} {ml : SM}
end
end Go.Vc
namespace Go.Proofs.YtfnjeldpfilplaaGreatDoor
open Go.Vc Sim
end Go.Proofs.YtfnjeldpfilplaaGreatDoor

namespace Go.Proofs.YtfnjeldpfilplaaGreatDoor
open Go.Vc Sim
end Go.Proofs.YtfnjeldpfilplaaGreatDoor

namespace Go.Proofs.YtfnjeldpfilplaaGreatDoor
open Go.Vc Sim
end Go.Proofs.YtfnjeldpfilplaaGreatDoor

namespace Sim
end Sim
namespace Go.Vc
section
variable {P : Program} {w0 : World} {n : Nat} {sh : Shared} {Q : Exit → Env → List Deferred → List Asn → Prop} {k : List Item} {ρ : Env} {df : List Deferred} {Γ : List Asn}
variable {ops : Array Oper} {l : List (Fl × Nat × Oper)} {b : Fl} {i d : Nat} {ty : TypeId} {pos : String} {aft : Array Edge} {x : Operand} {t kt et : TypeId}
end
end Go.Vc
namespace Go.Proofs.YtfnjeldpfilplaaGreatDoor
open Go.Vc Sim
end Go.Proofs.YtfnjeldpfilplaaGreatDoor

namespace Go.Vc
open Sim
theorem RdOs.take {w0 : World} {sh : Shared} : ∀ {l : List PO} {cl : List (List Value)}, RdOs w0 sh l cl → ∀ k, RdOs w0 sh (l.take k) (cl.take k)
  | [], cl, h, k => by
    have h : cl = [] := h
    subst h
    rw [List.take_nil, List.take_nil]
    exact (rfl : ([] : List (List Value)) = [])
  | o :: l, cl, _, 0 => (rfl : ([] : List (List Value)) = [])
  | o :: l, cl, h, k + 1 => by
    obtain ⟨c, cl', rfl, h1, h2⟩ := h
    exact ⟨c, cl'.take k, rfl, h1, h2.take k⟩
theorem RdOs.drop {w0 : World} {sh : Shared} : ∀ {l : List PO} {cl : List (List Value)}, RdOs w0 sh l cl → ∀ k, RdOs w0 sh (l.drop k) (cl.drop k)
  | [], cl, h, k => by
    have h : cl = [] := h
    subst h
    rw [List.drop_nil, List.drop_nil]
    exact (rfl : ([] : List (List Value)) = [])
  | o :: l, cl, h, 0 => h
  | o :: l, cl, h, k + 1 => by
    obtain ⟨c, cl', rfl, h1, h2⟩ := h
    exact h2.drop k
theorem RdOs.app {w0 : World} {sh : Shared} : ∀ {l m : List PO} {cl dl : List (List Value)}, RdOs w0 sh l cl → RdOs w0 sh m dl → RdOs w0 sh (l ++ m) (cl ++ dl)
  | [], m, cl, dl, h, g => by
    have h : cl = [] := h
    subst h
    exact g
  | o :: l, m, cl, dl, h, g => by
    obtain ⟨c, cl', rfl, h1, h2⟩ := h
    exact ⟨c, cl' ++ dl, rfl, h1, h2.app g⟩
section
variable {P : Program} {w0 : World} {n : Nat} {sh : Shared} {Q : Exit → Env → List Deferred → List Asn → Prop} {k : List Item} {ρ : Env} {df : List Deferred} {Γ : List Asn}
variable {ops : Array Oper} {l : List (Fl × Nat × Oper)} {b : Fl} {i d : Nat} {ty : TypeId} {pos : String} {aft : Array Edge} {x y : Operand} {t : TypeId}
theorem reg_rem64e {m m' r : Int} (hx : ev ρ x = .int .i64 m) (hy : ev ρ y = .int .i64 m') (hb : 0 ≤ m ∧ 0 < m') (he : m % m' = r) (h : Reg P w0 n sh Q ops l k (ρ.set d (.int .i64 r)) df Γ) :
    Reg P w0 n sh Q ops ((b, i, ⟨some d, .binOp .rem t x y t, ty, pos, aft, none⟩) :: l) k ρ df Γ := by
  subst he
  exact zay hx hy hb h
end
end Go.Vc
namespace Go.Proofs.YtfnjeldpfilplaaGreatDoor
open Go.Vc Sim
end Go.Proofs.YtfnjeldpfilplaaGreatDoor

