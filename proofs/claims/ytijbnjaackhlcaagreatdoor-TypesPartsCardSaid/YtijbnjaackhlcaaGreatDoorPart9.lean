import Derived.Test.YtijbnjaackhlcaaGreatDoorPart8
import Derived.Test.YtijbnjaackhlcaaGreatDoorPart5
import Derived.Test.YtijbnjaackhlcaaGreatDoorKit
import Derived.Test.YtijbnjaackhlcaaGreatDoorPart7
/- Lemmas and walks for the claims of this seat (own work): Yw1 Yp2 Yp3. -/
namespace Sim
def exK : PE := .mk 2 0 (bs [107]) (bs []) [] []
def exX : PE := .mk 2 0 (bs [120]) (bs []) [] []
def exZ : PE := .mk 0 0 (bs []) (bs []) [] []
def exIs : PE := .mk 5 0 (bs []) (bs [61, 61]) [exK, exZ] []
def exNot : PE := .mk 3 0 (bs []) (bs []) [exIs] []
def exLt : PE := .mk 5 0 (bs []) (bs [60]) [exX, exK] []
def exAnd : PE := .mk 5 0 (bs []) (bs [97, 110, 100]) [exLt, exNot] []
def exEq : PE := .mk 5 0 (bs []) (bs [61, 61]) [exX, exK] []
def exGet : PE := .mk 6 0 (bs [110]) (bs [103, 101, 116]) [] []
def exTrue : PE := .mk 1 1 (bs []) (bs []) [] []
def exLetX : PS := .mk 0 (bs [120]) 0 exGet [] []
def exLetY : PS := .mk 0 (bs [121]) 0 exEq [] []
def exSetY : PS := .mk 1 (bs [121]) 0 exTrue [] []
def exEndX : PS := .mk 5 (bs []) 0 exX [] []
def exEndK : PS := .mk 5 (bs []) 0 exK [] []
def exIf : PS := .mk 3 (bs []) 0 exAnd [exEndX] [exLetY, exSetY]
def exSetO : PS := .mk 1 (bs [121]) 0 (.mk 1 0 (bs []) (bs []) [] []) [] []
def exO (L : List PS) : PO := ⟨bs [102], [bs [107]], [exLetX, exIf, exEndK] ++ L⟩
def exP (L : List PS) : PP' := ⟨[(bs [110], bs [99, 111, 117, 110, 116, 101, 114])], [exO L]⟩
theorem exP_ty : tyP (exP []) = (bs [], 0) := by decide +kernel
theorem exP_vars : tyV (exP []) (bs [102]) = ([(bs [107], 1), (bs [120], 1), (bs [121], 2)], 0) := by decide +kernel
theorem exP_bad : tyP (exP [exSetO]) = (bs [102], 16) := by decide +kernel
end Sim
namespace Go.Vc
open Sim
theorem Rds.of_pts : ∀ (l : List (Nat × Obj)) {φ χ : Shared → Prop} (_ : ∀ bl, φ bl → χ (l ++ bl)) (g : Heap), Stars (l.map (fun p => pt p.1 p.2) ++ [Rds φ]) g → Rds χ g
  | [], φ, χ, h, g, hg => Rds.mono h g (Stars.one.1 hg)
  | p :: l, φ, χ, h, g, hg => by
    obtain ⟨g1, g2, hd, rfl, h1, h2⟩ := hg
    obtain ⟨bl, h3, h4⟩ := Rds.of_pts l (χ := fun bl => χ (p :: bl)) h g2 h2
    refine ⟨p :: bl, fun q hq => ?_, h4⟩
    rcases List.mem_cons.1 hq with rfl | hq
    · refine or_left ?_
      simp only [pt] at h1; subst h1; simp [Heap.one]
    · exact or_right hd (h3 q hq)
abbrev sl2 (b : Nat) : Value := .slice (some ⟨b, 0, none⟩) 2 2
abbrev sl1 (b : Nat) : Value := .slice (some ⟨b, 0, none⟩) 1 1
abbrev nilS : Value := .slice none 0 0
abbrev cE (e : PE) (va vo : Value) : List Value := peC e.kind e.num e.name e.meth va vo
end Go.Vc
namespace Go.Proofs.YtijbnjaackhlcaaGreatDoor
open Go.Vc Sim
abbrev exB (nEq nAnd nLt nIs s20 s9 s19 sSt sPa sOp : Nat) (a : Option Addr) (m c : Nat) : List (Nat × Obj) :=
  [(nEq, .cells (List.toArray (cE exX nilS nilS ++ (cE exK nilS nilS ++ []))) 41 (0, 0)),
   (nAnd, .cells (List.toArray (cE exLt (sl2 nLt) nilS ++ (cE exNot (sl1 s20) nilS ++ []))) 41 (0, 0)),
   (nLt, .cells (List.toArray (cE exX nilS nilS ++ (cE exK nilS nilS ++ []))) 41 (0, 0)),
   (nIs, .cells (List.toArray (cE exK nilS nilS ++ (cE exZ nilS nilS ++ []))) 41 (0, 0)),
   (s20, .cells (List.toArray (cE exIs (sl2 nIs) nilS ++ [])) 41 (0, 0)),
   (s9, .cells (List.toArray (psC exEndX nilS nilS nilS nilS ++ [])) 43 (0, 0)),
   (s19, .cells (List.toArray (psC exLetY (sl2 nEq) nilS nilS nilS ++ (psC exSetY nilS nilS nilS nilS ++ []))) 43 (0, 0)),
   (sSt, .cells (List.toArray [.string (bs [110]), .string (bs [99, 111, 117, 110, 116, 101, 114])]) 77 (0, 0)),
   (sPa, .cells (List.toArray [.string (bs [107])]) 9 (0, 0)),
   (sOp, .cells (List.toArray [.string (bs [102]), sl1 sPa, .slice a m c]) 34 (0, 0))]

open Go.Vc Sim
theorem exVar_spec (w0 : World) (s : ByteArray) : FnE PP w0 [] 39 [.string s] [] (.agg (List.toArray (peC 2 0 s (bs []) (.slice none 0 0) (.slice none 0 0)))) [] := by
  refine fn_of_run en39 fn39 rfl rfl rfl ?_
  repeat' (first | refine zck ?_ | refine zcp (by kernel_rfl) ?_ | (refine zap rfl ?_; first | refine zan rfl ?_ | refine zae 0 rfl rfl rfl rfl rfl rfl rfl ?_ | refine zar (fun nb => ?_) | refine zcb rfl ?_) | refine zch ?_)
  exact run_ret (leaves_nil (ends_take [] rfl (ends_one rfl (resOk_pt 0 rfl rfl rfl) ⟨rfl, rfl, rfl⟩)))
theorem exBin_spec (w0 : World) (s : ByteArray) (k n k' n' : Int) (x y x' y' : ByteArray) (v u v' u' : Value) : Vc.Fn PP w0 [] 40 [.string s, .agg (List.toArray (peC k n x y v u)), .agg (List.toArray (peC k' n' x' y' v' u'))] []
    (fun r Γ => ∃ nb, r = .agg (List.toArray (peC 5 0 (bs []) s (.slice (some ⟨nb, 0, none⟩) 2 2) (.slice none 0 0))) ∧ Γ = [pt nb (.cells (List.toArray (peC k n x y v u ++ (peC k' n' x' y' v' u' ++ []))) 41 (0, 0))]) := by
  refine fn_of_run en40 fn40 rfl rfl rfl ?_
  repeat (first | refine zck ?_ | refine zcl ?_ | refine zcm ?_ | refine zcn ?_)
  first | refine zcp (by kernel_rfl) ?_ | refine zcq PP_mixed (by kernel_rfl) (by kernel_rfl) ?_
  repeat' (refine zap rfl ?_; first | refine zaq (cs := [_, _, _, _, _, _]) rfl (fun t4 => ?_) | refine zar (fun b6 => ?_))
  all_goals refine zch ?_
  all_goals repeat (first | refine zck ?_ | refine zcl ?_ | refine zcm ?_ | refine zcn ?_)
  repeat (first | refine zck ?_ | refine zcl ?_ | refine zcm ?_ | refine zcn ?_)
  first | refine zcp (by kernel_rfl) ?_ | refine zcq PP_mixed (by kernel_rfl) (by kernel_rfl) ?_
  repeat' (refine zap rfl ?_; first | refine reg_buildSlice rfl rfl rfl rfl rfl rfl (fun nb9 => ?_) | refine zan rfl ?_ | refine zab 0 rfl rfl rfl ?_ | refine zab 1 rfl rfl rfl ?_ | refine zae 2 rfl rfl rfl rfl rfl rfl rfl ?_ | refine zcb rfl ?_)
  all_goals refine zch ?_
  all_goals repeat (first | refine zck ?_ | refine zcl ?_ | refine zcm ?_ | refine zcn ?_)
  exact run_ret (leaves_nil (ends_take [3] rfl (ends_one rfl (resOk_pt 2 rfl rfl rfl) ⟨rfl, nb9, rfl, rfl⟩)))
set_option maxHeartbeats 4000000 in
theorem example_spec (w0 : World) (sh : Shared) (vl : Value) (cll : List (List Value)) (hl : RdSl w0 sh (fun x : List Value => x) 11 vl cll) (hq : ∀ x ∈ cll, x.length = 11) (hone : allOne (cll.flatMap fun x => x) = true) (hb : cll.length ≤ 1) : Vc.Fn PP w0 sh 22 [vl] []
    (fun r Γ => ∃ sSt sOp : Nat, r = .agg #[sl1 sSt, sl1 sOp] ∧ Γ = [Rds fun bl => ∃ nEq nAnd nLt nIs s20 s9 s19 sPa a c, (∀ p ∈ exB nEq nAnd nLt nIs s20 s9 s19 sSt sPa sOp a (3 + cll.length) c, p ∈ bl) ∧ RdSl w0 bl (fun x : List Value => x) 11 (.slice a (3 + cll.length) c) ([psC exLetX nilS nilS nilS nilS, psC exIf (sl2 nAnd) nilS (sl1 s9) (sl2 s19), psC exEndK nilS nilS nilS nilS] ++ cll)]) := by
  have hv := fun s => exVar_spec w0 s
  have hbn := fun s k n k' n' x y x' y' v u v' u' => exBin_spec w0 s k n k' n' x y x' y' v u v' u'
  refine fn_of_run en22 fn22 rfl rfl rfl ?_
  repeat (first | refine zck ?_ | refine zcl ?_ | refine zcm ?_ | refine zcn ?_)
  first | refine zcp (by kernel_rfl) ?_ | refine zcr [(.quiet, 0), (.quiet, 3), (.quiet, 4), (.quiet, 5), (.quiet, 6), (.loud, 7), (.quiet, 8), (.quiet, 10), (.quiet, 11), (.loud, 12), (.quiet, 13), (.loud, 14), (.loud, 15), (.quiet, 16), (.quiet, 17), (.quiet, 18), (.quiet, 21), (.loud, 22), (.quiet, 23), (.quiet, 25), (.loud, 9), (.loud, 19), (.quiet, 20), (.loud, 24), (.loud, 26), (.loud, 1), (.loud, 2), (.quiet, 27), (.loud, 28), (.quiet, 29), (.loud, 30)] PP_mixed (by kernel_rfl) (by kernel_rfl) ?_ | refine zcq PP_mixed (by kernel_rfl) (by kernel_rfl) ?_
  repeat' (refine zap rfl ?_; first | refine zar (fun b2 => ?_))
  all_goals refine zch ?_
  all_goals repeat (first | refine zck ?_ | refine zcl ?_ | refine zcm ?_ | refine zcn ?_)
  repeat (first | refine zck ?_ | refine zcl ?_ | refine zcm ?_ | refine zcn ?_)
  first | refine zcp (by kernel_rfl) ?_ | refine zcr [(.quiet, 0), (.quiet, 3), (.quiet, 4), (.quiet, 5), (.quiet, 6), (.loud, 7), (.quiet, 8), (.quiet, 10), (.quiet, 11), (.loud, 12), (.quiet, 13), (.loud, 14), (.loud, 15), (.quiet, 16), (.quiet, 17), (.quiet, 18), (.quiet, 21), (.loud, 22), (.quiet, 23), (.quiet, 25), (.loud, 9), (.loud, 19), (.quiet, 20), (.loud, 24), (.loud, 26), (.loud, 1), (.loud, 2), (.quiet, 27), (.loud, 28), (.quiet, 29), (.loud, 30)] PP_mixed (by kernel_rfl) (by kernel_rfl) ?_ | refine zcq PP_mixed (by kernel_rfl) (by kernel_rfl) ?_
  repeat' (refine zap rfl ?_; first | refine zan rfl ?_)
  all_goals refine zch ?_
  all_goals repeat (first | refine zck ?_ | refine zcl ?_ | refine zcm ?_ | refine zcn ?_)
  repeat (first | refine zck ?_ | refine zcl ?_ | refine zcm ?_ | refine zcn ?_)
  first | refine zcp (by kernel_rfl) ?_ | refine zcr [(.quiet, 0), (.quiet, 3), (.quiet, 4), (.quiet, 5), (.quiet, 6), (.loud, 7), (.quiet, 8), (.quiet, 10), (.quiet, 11), (.loud, 12), (.quiet, 13), (.loud, 14), (.loud, 15), (.quiet, 16), (.quiet, 17), (.quiet, 18), (.quiet, 21), (.loud, 22), (.quiet, 23), (.quiet, 25), (.loud, 9), (.loud, 19), (.quiet, 20), (.loud, 24), (.loud, 26), (.loud, 1), (.loud, 2), (.quiet, 27), (.loud, 28), (.quiet, 29), (.loud, 30)] PP_mixed (by kernel_rfl) (by kernel_rfl) ?_ | refine zcq PP_mixed (by kernel_rfl) (by kernel_rfl) ?_
  repeat' (refine zap rfl ?_; first | refine zan rfl ?_)
  all_goals refine zch ?_
  all_goals repeat (first | refine zck ?_ | refine zcl ?_ | refine zcm ?_ | refine zcn ?_)
  repeat (first | refine zck ?_ | refine zcl ?_ | refine zcm ?_ | refine zcn ?_)
  first | refine zcp (by kernel_rfl) ?_ | refine zcr [(.quiet, 0), (.quiet, 3), (.quiet, 4), (.quiet, 5), (.quiet, 6), (.loud, 7), (.quiet, 8), (.quiet, 10), (.quiet, 11), (.loud, 12), (.quiet, 13), (.loud, 14), (.loud, 15), (.quiet, 16), (.quiet, 17), (.quiet, 18), (.quiet, 21), (.loud, 22), (.quiet, 23), (.quiet, 25), (.loud, 9), (.loud, 19), (.quiet, 20), (.loud, 24), (.loud, 26), (.loud, 1), (.loud, 2), (.quiet, 27), (.loud, 28), (.quiet, 29), (.loud, 30)] PP_mixed (by kernel_rfl) (by kernel_rfl) ?_ | refine zcq PP_mixed (by kernel_rfl) (by kernel_rfl) ?_
  repeat' (refine zap rfl ?_; first | refine zar (fun t5 => ?_) | refine zan rfl ?_ | refine zah [] (hv _) rfl rfl rfl sub_nil rfl ?_ | (refine zai [] (hbn _ _ _ _ _ _ _ _ _ _ _ _ _) rfl rfl rfl sub_nil ?_; rintro v Γ ⟨nb, rfl, rfl⟩) | refine zae 2 rfl rfl rfl rfl rfl rfl rfl ?_ | refine zcb rfl ?_)
  all_goals refine zch ?_
  all_goals repeat (first | refine zck ?_ | refine zcl ?_ | refine zcm ?_ | refine zcn ?_)
  refine run_share [2] rfl ?_
  repeat (first | refine zck ?_ | refine zcl ?_ | refine zcm ?_ | refine zcn ?_)
  first | refine zcp (by kernel_rfl) ?_ | refine zcr [(.quiet, 0), (.quiet, 1), (.quiet, 2), (.loud, 3), (.quiet, 4), (.loud, 5), (.loud, 6), (.quiet, 7), (.loud, 8), (.quiet, 9), (.loud, 10), (.loud, 11), (.loud, 12)] PP_mixed (by kernel_rfl) (by kernel_rfl) ?_ | refine run_drawR PP_mixed (by kernel_rfl) (by kernel_rfl) ?_
  repeat' (refine zap rfl ?_; first | refine zar (fun t6 => ?_) | refine reg_buildSlice rfl rfl rfl rfl rfl rfl (fun nb9 => ?_) | refine zan rfl ?_ | refine zaa 0 rfl rfl rfl ?_ | refine zah [] (hv _) rfl rfl rfl sub_nil rfl ?_ | (refine zai [] (hbn _ _ _ _ _ _ _ _ _ _ _ _ _) rfl rfl rfl sub_nil ?_; rintro v Γ ⟨nb, rfl, rfl⟩) | refine zae 5 rfl rfl rfl rfl rfl rfl rfl ?_ | refine zcb rfl ?_)
  all_goals refine zch ?_
  all_goals repeat (first | refine zck ?_ | refine zcl ?_ | refine zcm ?_ | refine zcn ?_)
  refine run_share [5] rfl ?_
  repeat (first | refine zck ?_ | refine zcl ?_ | refine zcm ?_ | refine zcn ?_)
  first | refine zcp (by kernel_rfl) ?_ | refine zcr [(.quiet, 0), (.quiet, 3), (.quiet, 4), (.quiet, 5), (.quiet, 6), (.loud, 7), (.quiet, 8), (.quiet, 10), (.quiet, 11), (.loud, 12), (.quiet, 13), (.loud, 14), (.loud, 15), (.quiet, 16), (.quiet, 17), (.quiet, 18), (.quiet, 21), (.loud, 22), (.quiet, 23), (.quiet, 25), (.loud, 9), (.loud, 19), (.quiet, 20), (.loud, 24), (.loud, 26), (.loud, 1), (.loud, 2), (.quiet, 27), (.loud, 28), (.quiet, 29), (.loud, 30)] PP_mixed (by kernel_rfl) (by kernel_rfl) ?_ | refine run_drawR PP_mixed (by kernel_rfl) (by kernel_rfl) ?_
  repeat' (refine zap rfl ?_; first | refine reg_buildSlice rfl rfl rfl rfl rfl rfl (fun nb8 => ?_) | refine zan rfl ?_ | refine zaa 0 rfl rfl rfl ?_ | refine zah [] (hv _) rfl rfl rfl sub_nil rfl ?_ | (refine zai [] (hbn _ _ _ _ _ _ _ _ _ _ _ _ _) rfl rfl rfl sub_nil ?_; rintro v Γ ⟨nb, rfl, rfl⟩) | (refine reg_own 8 rfl rfl (len := 3) (cap := 3) (sz := 11) ⟨rfl, Nat.le_refl _, Nat.le_refl _⟩ rfl ?_; refine reg_append_rdE 8 rfl rfl (hl.mono fun p hp => .tail _ (.tail _ hp)) (by decide) hone rfl rfl (by omega) (fun _ _ => rfl) (fun a5 c5 => ?_)) | refine zae 4 rfl rfl rfl rfl rfl rfl rfl ?_ | refine zcb rfl ?_)
  all_goals refine zch ?_
  all_goals repeat (first | refine zck ?_ | refine zcl ?_ | refine zcm ?_ | refine zcn ?_)
  rename_i nIs nLt nAnd s9 s19 s24 sSt sPa
  refine run_slR (fun x : List Value => x) 8 (l := [psC exLetX nilS nilS nilS nilS, psC exIf (sl2 nAnd) nilS (sl1 s9) (sl2 s19), psC exEndK nilS nilS nilS nilS] ++ cll) rfl (Eq.trans (b := (psC exLetX nilS nilS nilS nilS ++ (psC exIf (sl2 nAnd) nilS (sl1 s9) (sl2 s19) ++ (psC exEndK nilS nilS nilS nilS ++ []))) ++ cll.flatMap fun x => x) (by kernel_rfl) (List.flatMap_append (xs := [psC exLetX nilS nilS nilS nilS, psC exIf (sl2 nAnd) nilS (sl1 s9) (sl2 s19), psC exEndK nilS nilS nilS nilS]) (ys := cll) (f := fun x => x)).symm) (fun x hx => ?_) List.length_append rfl ?_
  · rcases List.mem_append.1 hx with hx | hx
    · simp only [List.mem_cons, List.not_mem_nil, or_false] at hx
      rcases hx with rfl | rfl | rfl <;> rfl
    · exact hq x hx
  refine run_close [0, 0, 0, 0, 1, 1, 1, 2, 2, 2, 1] rfl (Rds.of_pts (exB nb nAnd nLt nIs nb9 s9 s19 sSt sPa nb8 a5 (3 + cll.length) c5) (χ := fun bl => ∃ nEq nAnd nLt nIs s20 s9 s19 sPa a c, (∀ p ∈ exB nEq nAnd nLt nIs s20 s9 s19 sSt sPa nb8 a (3 + cll.length) c, p ∈ bl) ∧ RdSl w0 bl (fun x : List Value => x) 11 (.slice a (3 + cll.length) c) ([psC exLetX nilS nilS nilS nilS, psC exIf (sl2 nAnd) nilS (sl1 s9) (sl2 s19), psC exEndK nilS nilS nilS nilS] ++ cll)) (fun bl h => ⟨_, _, _, _, _, _, _, _, _, _, fun p hp => List.mem_append_left _ hp, h.mono fun p hp => List.mem_append_right _ hp⟩)) ?_
  exact run_ret (leaves_nil (ends_take [0] rfl (ends_one rfl (resOk_pt 1 rfl rfl rfl) ⟨rfl, sSt, nb8, rfl, rfl⟩)))
end Go.Proofs.YtijbnjaackhlcaaGreatDoor

namespace Go.Proofs.YtijbnjaackhlcaaGreatDoor
open Go.Vc Sim
abbrev fnA (xc : Nat) : Value := .func (.func 88) #[] #[.pointer (some ⟨xc, 0, none⟩)]
abbrev fnEa (xc : Nat) : Value := .func (.func 89) #[] #[.pointer (some ⟨xc, 0, none⟩)]
theorem rulesTy_spec (w0 : World) : Vc.Fn PP w0 [] 54 [] [] (fun v Γ => ∃ n1 n2 n3 n4 n5, v = .agg (List.toArray [fnA n1, fnA n2, .func (.func 73) #[] #[], fnEa n3, fnEa n4, .func (.func 75) #[] #[], .func (.func 76) #[] #[], fnEa n5])
    ∧ Γ = [pt (bxI n1 1).1 (bxI n1 1).2, pt (bxI n2 2).1 (bxI n2 2).2, pt (bxI n3 2).1 (bxI n3 2).2, pt (bxI n4 1).1 (bxI n4 1).2, pt (bxI n5 1).1 (bxI n5 1).2]) := by
  refine fn_of_run en54 fn54 rfl rfl rfl ?_
  repeat (first | refine zck ?_ | refine zcl ?_ | refine zcm ?_ | refine zcn ?_)
  first | refine zcp (by kernel_rfl) ?_ | refine zcq PP_mixed (by kernel_rfl) (by kernel_rfl) ?_
  repeat' (refine zap rfl ?_; first | refine zar (fun nb => ?_))
  all_goals refine zch ?_
  all_goals repeat (first | refine zck ?_ | refine zcl ?_ | refine zcm ?_ | refine zcn ?_)
  repeat (first | refine zck ?_ | refine zcl ?_ | refine zcm ?_ | refine zcn ?_)
  first | refine zcp (by kernel_rfl) ?_ | refine zcq PP_mixed (by kernel_rfl) (by kernel_rfl) ?_
  repeat' (refine zap rfl ?_; first | refine zae 5 rfl rfl rfl rfl rfl rfl rfl ?_ | (refine zai [] (always_spec w0 _) rfl rfl rfl sub_nil ?_; rintro v Γ ⟨xc, rfl, rfl⟩) | (refine zai [] (each_spec w0 _) rfl rfl rfl sub_nil ?_; rintro v Γ ⟨xc, rfl, rfl⟩) | refine reg_buildA rfl ?_)
  all_goals refine zch ?_
  all_goals repeat (first | refine zck ?_ | refine zcl ?_ | refine zcm ?_ | refine zcn ?_)
  refine run_take [4, 3, 2, 1, 0, 0] rfl ?_
  exact run_ret (leaves_nil (ends_take [0, 0, 0, 0, 0] rfl (ends_one rfl (resOk_pt 5 rfl rfl rfl) ⟨rfl, _, _, _, _, _, rfl, rfl⟩)))
structure TyR (w0 : World) (sh : Shared) (mv ms : Nat) (vs : TV) (ks : List (ByteArray × ByteArray)) : Prop where
  v : RdM w0 sh mv (tvS vs)
  s : RdM w0 sh ms (kS ks)
theorem TyR.mono {w0 : World} {sh sh' : Shared} {mv ms : Nat} {vs : TV} {ks : List (ByteArray × ByteArray)} (h : TyR w0 sh mv ms vs ks) (hs : ∀ p ∈ sh, p ∈ sh') : TyR w0 sh' mv ms vs ks := ⟨h.v.mono hs, h.s.mono hs⟩
def OfS (w0 : World) (vs : TV) (ks : List (ByteArray × ByteArray)) (n : Nat) : Prop := ∀ (sh : Shared) (mv ms : Nat) (e : PE) (va vo : Value), e.size ≤ n → TyR w0 sh mv ms vs ks → RdEl w0 sh va e.args → RdEl w0 sh vo e.or →
  FnE PP w0 sh 29 [tyrV mv ms, .agg (List.toArray (peC e.kind e.num e.name e.meth va vo))] [] (resT (ofE (envM vs ks) e)) []
def callR (E : TEnv) (e : PE) (ts : List Int) : Int × Int := if callT E e ts ≠ 0 then (0, callT E e ts) else if ofOr E e.or ≠ 0 then (0, ofOr E e.or) else (1, 0)
set_option maxHeartbeats 8000000 in
theorem call_of (w0 : World) (vs : TV) (ks : List (ByteArray × ByteArray)) (n : Nat) (hn : n ≤ 100000) (hO : OfS w0 vs ks n) (sh : Shared) (mv ms : Nat) (e : PE) (va vo : Value) (av : Option Addr) (cv : Nat) (ts : List Int) (hs : e.size ≤ n + 1) (hT : TyR w0 sh mv ms vs ks) (_ : RdEl w0 sh va e.args) (ho : RdEl w0 sh vo e.or) (hl : RdSl w0 sh encI 1 (.slice av ts.length cv) ts) (hb : ts.length ≤ 1000000) :
    FnE PP w0 sh 76 [tyrV mv ms, .agg (List.toArray (peC e.kind e.num e.name e.meth va vo)), .slice av ts.length cv] [] (resT (callR (envM vs ks) e ts)) [] := by
  have hlk := lookK_S e.name ks
  have hot := other_spec w0 sh _ ts 1 hl (by omega)
  have hsz := e.size_eq
  have lo := PE.sizeL_len e.or
  obtain ⟨a2, c2, hvo, _⟩ := ho.len
  subst hvo
  have hsb : ∀ (a b : Nat × Obj), ∀ p ∈ sh, p ∈ a :: b :: sh := fun a b p hp => .tail _ (.tail _ hp)
  obtain ⟨r, hr⟩ : ∃ r, callR (envM vs ks) e ts = r := ⟨_, rfl⟩
  rw [hr]
  unfold callR callT at hr
  rw [show (envM vs ks).stores e.name = lookK ks e.name from rfl] at hr
  refine fn_of_run en76 fn76 rfl rfl rfl ?_
  repeat (first | refine zck ?_ | refine zcl ?_ | refine zcm ?_ | refine zcn ?_)
  first | refine zcp (by kernel_rfl) ?_ | refine zcq PP_mixed (by kernel_rfl) (by kernel_rfl) ?_
  repeat' (refine zap rfl ?_; first | refine zaq (cs := [_, _]) rfl (fun tt => ?_) | refine zaq (cs := [_, _, _, _, _, _]) rfl (fun te => ?_) | refine zan rfl ?_)
  all_goals refine zch ?_
  all_goals repeat (first | refine zck ?_ | refine zcl ?_ | refine zcm ?_ | refine zcn ?_)
  refine run_share [0] rfl ?_
  refine run_share [0] rfl ?_
  cases hK : lookK ks e.name with
  | none =>
    rw [hK] at hlk hr
    have hr : ((0 : Int), (16 : Int)) = r := hr
    subst hr
    repeat (first | refine zck ?_ | refine zcl ?_ | refine zcm ?_ | refine zcn ?_)
    first | refine zcp (by kernel_rfl) ?_ | refine zcq PP_mixed (by kernel_rfl) (by kernel_rfl) ?_
    repeat' (refine zap rfl ?_; first | refine reg_lookupR (v := .tuple #[.string ⟨#[]⟩, .bool false]) (hT.s.mono (hsb _ _)) rfl rfl (by rw [hlk]; rfl) ?_ | refine zan rfl ?_ | refine zan rfl ?_ | refine zaa 0 rfl rfl rfl ?_ | refine zaa 1 rfl rfl rfl ?_ | refine zao rfl ?_ | refine zan rfl ?_)
    all_goals refine zch ?_
    all_goals repeat (first | refine zck ?_ | refine zcl ?_ | refine zcm ?_ | refine zcn ?_)
    repeat' (first | refine zck ?_ | refine zcp (by kernel_rfl) ?_ | (refine zap rfl ?_; first | refine zan rfl ?_ | refine zan rfl ?_ | refine zbx rfl ?_) | refine zch ?_ | refine zci rfl ?_)
    exact ret_tmp2 rfl ⟨rfl, rfl⟩
  | some nm =>
    rw [hK] at hlk hr
    have hkd := kind_spec w0 nm
    dsimp only at hr
    repeat (first | refine zck ?_ | refine zcl ?_ | refine zcm ?_ | refine zcn ?_)
    first | refine zcp (by kernel_rfl) ?_ | refine zcq PP_mixed (by kernel_rfl) (by kernel_rfl) ?_
    repeat' (refine zap rfl ?_; first | refine reg_lookupR (v := .tuple #[.string nm, .bool true]) (hT.s.mono (hsb _ _)) rfl rfl (by rw [hlk]; rfl) ?_ | refine zan rfl ?_ | refine zan rfl ?_ | refine zaa 0 rfl rfl rfl ?_ | refine zaa 1 rfl rfl rfl ?_ | refine zao rfl ?_ | refine zan rfl ?_)
    all_goals refine zch ?_
    all_goals repeat (first | refine zck ?_ | refine zcl ?_ | refine zcm ?_ | refine zcn ?_)
    repeat (first | refine zck ?_ | refine zcl ?_ | refine zcm ?_ | refine zcn ?_)
    first | refine zcp (by kernel_rfl) ?_ | refine zcq PP_mixed (by kernel_rfl) (by kernel_rfl) ?_
    repeat' (refine zap rfl ?_; first | refine zan rfl ?_ | refine zbx rfl ?_)
    all_goals refine zch ?_
    all_goals repeat (first | refine zck ?_ | refine zcl ?_ | refine zcm ?_ | refine zcn ?_)
    refine zcj rfl ?_
    cases hKi : ctKind nm with
    | none =>
      rw [hKi] at hkd
      simp only [hKi] at hr
      dsimp only [Option.getD, Option.isSome] at hkd
      have hr : ((0 : Int), (2 : Int)) = r := hr
      subst hr
      repeat' (first | refine zck ?_ | refine zcp (by kernel_rfl) ?_ | refine zcm ?_ | (refine zap rfl ?_; first | refine zan rfl ?_ | refine zan rfl ?_ | refine zah [] hkd rfl rfl rfl sub_nil rfl ?_ | refine zan rfl ?_ | refine zbx rfl ?_) | refine zch ?_ | refine zci rfl ?_)
      exact ret_tmp2 rfl ⟨rfl, rfl⟩
    | some i =>
      rw [hKi] at hkd
      simp only [hKi] at hr
      dsimp only [Option.getD, Option.isSome] at hkd
      have hfd := findC_spec w0 (i : Int) e.meth
      cases hF : ctFind (i : Int) e.meth with
      | none =>
        rw [hF] at hfd
        simp only [hF] at hr
        have hr : ((0 : Int), (14 : Int)) = r := hr
        subst hr
        unfold findCV at hfd
        dsimp only at hfd
        repeat (first | refine zck ?_ | refine zcl ?_ | refine zcm ?_ | refine zcn ?_)
        first | refine zcp (by kernel_rfl) ?_ | refine zcq PP_mixed (by kernel_rfl) (by kernel_rfl) ?_
        repeat' (refine zap rfl ?_; first | refine zan rfl ?_ | refine zan rfl ?_ | refine zah [] hkd rfl rfl rfl sub_nil rfl ?_ | refine zan rfl ?_)
        all_goals refine zch ?_
        all_goals repeat (first | refine zck ?_ | refine zcl ?_ | refine zcm ?_ | refine zcn ?_)
        repeat (first | refine zck ?_ | refine zcl ?_ | refine zcm ?_ | refine zcn ?_)
        first | refine zcp (by kernel_rfl) ?_ | refine zcq PP_mixed (by kernel_rfl) (by kernel_rfl) ?_
        repeat' (refine zap rfl ?_; first | refine zan rfl ?_ | refine zbx rfl ?_)
        all_goals refine zch ?_
        all_goals repeat (first | refine zck ?_ | refine zcl ?_ | refine zcm ?_ | refine zcn ?_)
        refine zcj rfl ?_
        repeat' (first | refine zck ?_ | refine zcp (by kernel_rfl) ?_ | refine zcm ?_ | refine zcl ?_ | (refine zap rfl ?_; first | refine zan rfl ?_ | refine zan rfl ?_ | refine zaa 0 rfl rfl rfl ?_ | refine zah [] hfd rfl rfl rfl sub_nil rfl ?_ | refine zao rfl ?_ | refine zan rfl ?_ | refine zbx rfl ?_ | refine zae 0 rfl rfl rfl rfl rfl rfl rfl ?_ | refine zar (fun nb => ?_)) | refine zch ?_ | refine zci rfl ?_)
        refine run_take [] rfl ?_
        exact ret_tmp2 rfl ⟨rfl, rfl⟩
      | some m =>
        rw [hF] at hfd
        simp only [hF] at hr
        unfold findCV at hfd
        dsimp only at hfd
        repeat (first | refine zck ?_ | refine zcl ?_ | refine zcm ?_ | refine zcn ?_)
        first | refine zcp (by kernel_rfl) ?_ | refine zcq PP_mixed (by kernel_rfl) (by kernel_rfl) ?_
        repeat' (refine zap rfl ?_; first | refine zan rfl ?_ | refine zan rfl ?_ | refine zah [] hkd rfl rfl rfl sub_nil rfl ?_ | refine zan rfl ?_)
        all_goals refine zch ?_
        all_goals repeat (first | refine zck ?_ | refine zcl ?_ | refine zcm ?_ | refine zcn ?_)
        repeat (first | refine zck ?_ | refine zcl ?_ | refine zcm ?_ | refine zcn ?_)
        first | refine zcp (by kernel_rfl) ?_ | refine zcq PP_mixed (by kernel_rfl) (by kernel_rfl) ?_
        repeat' (refine zap rfl ?_; first | refine zan rfl ?_ | refine zbx rfl ?_)
        all_goals refine zch ?_
        all_goals repeat (first | refine zck ?_ | refine zcl ?_ | refine zcm ?_ | refine zcn ?_)
        refine zcj rfl ?_
        repeat (first | refine zck ?_ | refine zcl ?_ | refine zcm ?_ | refine zcn ?_)
        first | refine zcp (by kernel_rfl) ?_ | refine zcq PP_mixed (by kernel_rfl) (by kernel_rfl) ?_
        repeat' (refine zap rfl ?_; first | refine zar (fun t11 => ?_) | refine zan rfl ?_ | refine zan rfl ?_ | refine zaa 0 rfl rfl rfl ?_ | refine zah [] hfd rfl rfl rfl sub_nil rfl ?_ | refine zao rfl ?_ | refine zan rfl ?_ | refine zae 0 rfl rfl rfl rfl rfl rfl rfl ?_)
        all_goals refine zch ?_
        all_goals repeat (first | refine zck ?_ | refine zcl ?_ | refine zcm ?_ | refine zcn ?_)
        refine run_share [0] rfl ?_
        repeat (first | refine zck ?_ | refine zcl ?_ | refine zcm ?_ | refine zcn ?_)
        first | refine zcp (by kernel_rfl) ?_ | refine zcq PP_mixed (by kernel_rfl) (by kernel_rfl) ?_
        repeat' (refine zap rfl ?_; first | refine zan rfl ?_ | refine zan rfl ?_ | refine zbx rfl ?_)
        all_goals refine zch ?_
        all_goals repeat (first | refine zck ?_ | refine zcl ?_ | refine zcm ?_ | refine zcn ?_)
        refine zcj rfl ?_
        by_cases hm : m.2.1 = ts.length
        rotate_left
        · rw [if_pos hm, if_pos (by decide)] at hr
          subst hr
          repeat (first | refine zck ?_ | refine zcl ?_ | refine zcm ?_ | refine zcn ?_)
          first | refine zcp (by kernel_rfl) ?_ | refine zcq PP_mixed (by kernel_rfl) (by kernel_rfl) ?_
          repeat' (refine zap rfl ?_; first | refine zan rfl ?_ | refine zan rfl ?_ | refine zaa 0 rfl rfl rfl ?_ | refine zce rfl ?_ | refine zao rfl ?_ | refine zbe rfl rfl (by omega) ?_)
          all_goals refine zch ?_
          all_goals repeat (first | refine zck ?_ | refine zcl ?_ | refine zcm ?_ | refine zcn ?_)
          refine zci rfl ?_
          repeat' (first | refine zck ?_ | refine zcp (by kernel_rfl) ?_ | (refine zap rfl ?_; first | refine zan rfl ?_) | refine zch ?_)
          exact ret_tmp2 rfl ⟨rfl, rfl⟩
        rw [if_neg (show ¬ (m.2.1 ≠ (ts.length : Int)) from fun q => q hm)] at hr
        repeat (first | refine zck ?_ | refine zcl ?_ | refine zcm ?_ | refine zcn ?_)
        first | refine zcp (by kernel_rfl) ?_ | refine zcq PP_mixed (by kernel_rfl) (by kernel_rfl) ?_
        repeat' (refine zap rfl ?_; first | refine zan rfl ?_ | refine zan rfl ?_ | refine zaa 0 rfl rfl rfl ?_ | refine zce rfl ?_ | refine zao rfl ?_ | refine zbf rfl rfl (by omega) ?_)
        all_goals refine zch ?_
        all_goals repeat (first | refine zck ?_ | refine zcl ?_ | refine zcm ?_ | refine zcn ?_)
        refine zcj rfl ?_
        cases hq : anyNe ts 1 with
        | true =>
          rw [hq] at hr
          have hr : ((0 : Int), (17 : Int)) = r := hr
          subst hr
          rw [hq] at hot
          repeat (first | refine zck ?_ | refine zcl ?_ | refine zcm ?_ | refine zcn ?_)
          first | refine zcp (by kernel_rfl) ?_ | refine zcq PP_mixed (by kernel_rfl) (by kernel_rfl) ?_
          repeat' (refine zap rfl ?_; first | refine zan rfl ?_ | refine zan rfl ?_ | refine zah [] hot rfl rfl rfl (fun p hp => .tail _ (.tail _ (.tail _ hp))) rfl ?_)
          all_goals refine zch ?_
          all_goals repeat (first | refine zck ?_ | refine zcl ?_ | refine zcm ?_ | refine zcn ?_)
          refine zci rfl ?_
          repeat' (first | refine zck ?_ | refine zcp (by kernel_rfl) ?_ | (refine zap rfl ?_; first | refine zan rfl ?_) | refine zch ?_)
          exact ret_tmp2 rfl ⟨rfl, rfl⟩
        | false =>
          rw [hq] at hr
          have hr : (if ofOr (envM vs ks) e.or ≠ 0 then ((0 : Int), ofOr (envM vs ks) e.or) else (1, 0)) = r := hr
          rw [hq] at hot
          repeat (first | refine zck ?_ | refine zcl ?_ | refine zcm ?_ | refine zcn ?_)
          first | refine zcp (by kernel_rfl) ?_ | refine zcq PP_mixed (by kernel_rfl) (by kernel_rfl) ?_
          repeat' (refine zap rfl ?_; first | refine zan rfl ?_ | refine zan rfl ?_ | refine zah [] hot rfl rfl rfl (fun p hp => .tail _ (.tail _ (.tail _ hp))) rfl ?_)
          all_goals refine zch ?_
          all_goals repeat (first | refine zck ?_ | refine zcl ?_ | refine zcm ?_ | refine zcn ?_)
          refine zcj rfl ?_
          repeat (first | refine zck ?_ | refine zcl ?_ | refine zcm ?_ | refine zcn ?_)
          first | refine zcp (by kernel_rfl) ?_ | refine zcq PP_mixed (by kernel_rfl) (by kernel_rfl) ?_
          repeat' (refine zap rfl ?_; first | refine zan rfl ?_ | refine zaa 1 rfl rfl rfl ?_ | refine zce rfl ?_ | refine zao rfl ?_)
          all_goals refine zch ?_
          all_goals repeat (first | refine zck ?_ | refine zcl ?_ | refine zcm ?_ | refine zcn ?_)
          refine run_loop (S := Nat) (fun j => [(3, .pointer (some ⟨tt, 0, none⟩)), (53, .slice a2 e.or.length c2), (54, .int .i64 e.or.length), (55, .int .i64 (j : Int))])
            (fun j Γ => Γ = [] ∧ j ≤ e.or.length ∧ ofOr (envM vs ks) (e.or.drop j) = ofOr (envM vs ks) e.or) (fun j => e.or.length - j) 0 ⟨rfl, rfl, rfl, rfl, trivial⟩ ⟨rfl, by omega, rfl⟩ ?_
          rintro j Γ junk ⟨rfl, g1, g2⟩
          by_cases hj : j < e.or.length
          · obtain ⟨x, hx⟩ : ∃ x, e.or[j]? = some x := ⟨_, List.getElem?_eq_getElem hj⟩
            obtain ⟨b, off, cc, T, fr, cs, rfl, e2, e3, e4, _⟩ := ho.at hx
            obtain ⟨va', vo', rfl, r1, r2⟩ := e4.cs
            obtain ⟨pa', qa', hva', _⟩ := id r1.len
            obtain ⟨po', qo', hvo', _⟩ := id r2.len
            subst hva'; subst hvo'
            have hcall := hO sh mv ms x _ _ (by have := PE.size_or (List.mem_of_getElem? hx); omega) hT r1 r2
            have hok := ofE_ok (envM vs ks) x
            rw [ofOr_drop hx] at g2
            generalize ofE (envM vs ks) x = X at *
            obtain ⟨tx, cx⟩ := X
            dsimp only at g2 hcall hok
            repeat (first | refine zck ?_ | refine zcl ?_ | refine zcm ?_ | refine zcn ?_)
            first | refine zcp (by kernel_rfl) ?_ | refine zcq PP_mixed (by kernel_rfl) (by kernel_rfl) ?_
            repeat' (refine zap rfl ?_; first | refine zbg rfl rfl (by omega) ?_)
            all_goals refine zch ?_
            all_goals repeat (first | refine zck ?_ | refine zcl ?_ | refine zcm ?_ | refine zcn ?_)
            refine zci rfl ?_
            repeat (first | refine zck ?_ | refine zcl ?_ | refine zcm ?_ | refine zcn ?_)
            first | refine zcp (by kernel_rfl) ?_ | refine zcq PP_mixed (by kernel_rfl) (by kernel_rfl) ?_
            repeat' (refine zap rfl ?_; first | refine zad rfl (fun hF Γ w h1 h2 => e2 hF Γ w (fun p hp => h1 p (.tail _ (.tail _ (.tail _ hp)))) h2) (e3 _ (by omega)) ?_ | refine zae 0 rfl rfl rfl rfl rfl rfl rfl ?_ | refine zas rfl rfl (by omega) ?_ | refine zar (fun nb => ?_))
            all_goals refine zch ?_
            all_goals repeat (first | refine zck ?_ | refine zcl ?_ | refine zcm ?_ | refine zcn ?_)
            repeat (first | refine zck ?_ | refine zcl ?_ | refine zcm ?_ | refine zcn ?_)
            first | refine zcp (by kernel_rfl) ?_ | refine zcq PP_mixed (by kernel_rfl) (by kernel_rfl) ?_
            repeat' (refine zap rfl ?_; first | refine zan rfl ?_ | refine zan rfl ?_ | refine zaa 2 rfl rfl rfl ?_ | refine zab 0 rfl rfl rfl ?_ | refine zah [] hcall rfl rfl rfl (fun p hp => .tail _ (.tail _ (.tail _ hp))) rfl ?_ | refine zan rfl ?_)
            all_goals refine zch ?_
            all_goals repeat (first | refine zck ?_ | refine zcl ?_ | refine zcm ?_ | refine zcn ?_)
            by_cases hcx : cx = 0
            rotate_left
            · rw [if_pos hcx] at g2
              rw [← g2, if_pos hcx] at hr
              subst hr
              repeat (first | refine zck ?_ | refine zcl ?_ | refine zcm ?_ | refine zcn ?_)
              first | refine zcp (by kernel_rfl) ?_ | refine zcq PP_mixed (by kernel_rfl) (by kernel_rfl) ?_
              repeat' (refine zap rfl ?_; first | refine zan rfl ?_ | refine zbd rfl rfl (by omega) ?_)
              all_goals refine zch ?_
              all_goals repeat (first | refine zck ?_ | refine zcl ?_ | refine zcm ?_ | refine zcn ?_)
              refine zcj rfl ?_
              repeat (first | refine zck ?_ | refine zcl ?_ | refine zcm ?_ | refine zcn ?_)
              first | refine zcp (by kernel_rfl) ?_ | refine zcq PP_mixed (by kernel_rfl) (by kernel_rfl) ?_
              repeat' (refine zap rfl ?_; first | refine zan rfl ?_ | refine zbe rfl rfl (by omega) ?_)
              all_goals refine zch ?_
              all_goals repeat (first | refine zck ?_ | refine zcl ?_ | refine zcm ?_ | refine zcn ?_)
              refine zci rfl ?_
              repeat (first | refine zck ?_ | refine zcl ?_ | refine zcm ?_ | refine zcn ?_)
              first | refine zcp (by kernel_rfl) ?_ | refine zcq PP_mixed (by kernel_rfl) (by kernel_rfl) ?_
              repeat' (refine zap rfl ?_; first | refine zan rfl ?_ | refine zan rfl ?_)
              all_goals refine zch ?_
              all_goals repeat (first | refine zck ?_ | refine zcl ?_ | refine zcm ?_ | refine zcn ?_)
              refine run_take [] rfl ?_
              exact qret2 (fun _ _ h => h) rfl ⟨rfl, rfl⟩
            rw [if_neg (fun q => q hcx)] at g2
            by_cases htx : tx = 1
            · rw [if_neg (fun q => q htx)] at g2
              have hw := wrong_spec w0 false
              repeat (first | refine zck ?_ | refine zcl ?_ | refine zcm ?_ | refine zcn ?_)
              first | refine zcp (by kernel_rfl) ?_ | refine zcq PP_mixed (by kernel_rfl) (by kernel_rfl) ?_
              repeat' (refine zap rfl ?_; first | refine zan rfl ?_ | refine zbc rfl rfl (by omega) ?_)
              all_goals refine zch ?_
              all_goals repeat (first | refine zck ?_ | refine zcl ?_ | refine zcm ?_ | refine zcn ?_)
              refine zci rfl ?_
              repeat (first | refine zck ?_ | refine zcl ?_ | refine zcm ?_ | refine zcn ?_)
              first | refine zcp (by kernel_rfl) ?_ | refine zcq PP_mixed (by kernel_rfl) (by kernel_rfl) ?_
              repeat' (refine zap rfl ?_; first | refine zan rfl ?_ | refine zan rfl ?_ | refine zah [] hw rfl rfl rfl sub_nil rfl ?_ | refine zbf rfl rfl (by omega) ?_)
              all_goals refine zch ?_
              all_goals repeat (first | refine zck ?_ | refine zcl ?_ | refine zcm ?_ | refine zcn ?_)
              repeat (first | refine zck ?_ | refine zcl ?_ | refine zcm ?_ | refine zcn ?_)
              first | refine zcp (by kernel_rfl) ?_ | refine zcq PP_mixed (by kernel_rfl) (by kernel_rfl) ?_
              repeat' (refine zap rfl ?_; first | refine zan rfl ?_ | refine zbp rfl rfl ?_)
              all_goals refine zch ?_
              all_goals repeat (first | refine zck ?_ | refine zcl ?_ | refine zcm ?_ | refine zcn ?_)
              refine zcj rfl ?_
              refine run_take [] rfl ?_
              repeat' (first | refine zcp (by kernel_rfl) ?_ | refine zcm ?_ | refine zcn ?_ | (refine zap rfl ?_; first | refine zan rfl ?_ | refine zau rfl rfl (by omega) ?_) | refine zch ?_)
              exact cut_end ⟨rfl, j + 1, ⟨rfl, rfl, rfl, int_eq (by omega), trivial⟩, ⟨rfl, by omega, g2⟩, by omega⟩
            · rw [if_pos htx] at g2
              rw [← g2, if_pos (by decide)] at hr
              subst hr
              have hw := wrong_spec w0 true
              repeat (first | refine zck ?_ | refine zcl ?_ | refine zcm ?_ | refine zcn ?_)
              first | refine zcp (by kernel_rfl) ?_ | refine zcq PP_mixed (by kernel_rfl) (by kernel_rfl) ?_
              repeat' (refine zap rfl ?_; first | refine zan rfl ?_ | refine zbc rfl rfl (by omega) ?_)
              all_goals refine zch ?_
              all_goals repeat (first | refine zck ?_ | refine zcl ?_ | refine zcm ?_ | refine zcn ?_)
              refine zci rfl ?_
              repeat (first | refine zck ?_ | refine zcl ?_ | refine zcm ?_ | refine zcn ?_)
              first | refine zcp (by kernel_rfl) ?_ | refine zcq PP_mixed (by kernel_rfl) (by kernel_rfl) ?_
              repeat' (refine zap rfl ?_; first | refine zan rfl ?_ | refine zan rfl ?_ | refine zah [] hw rfl rfl rfl sub_nil rfl ?_ | refine zbe rfl rfl (by omega) ?_)
              all_goals refine zch ?_
              all_goals repeat (first | refine zck ?_ | refine zcl ?_ | refine zcm ?_ | refine zcn ?_)
              repeat (first | refine zck ?_ | refine zcl ?_ | refine zcm ?_ | refine zcn ?_)
              first | refine zcp (by kernel_rfl) ?_ | refine zcq PP_mixed (by kernel_rfl) (by kernel_rfl) ?_
              repeat' (refine zap rfl ?_; first | refine zan rfl ?_ | refine zbp rfl rfl ?_)
              all_goals refine zch ?_
              all_goals repeat (first | refine zck ?_ | refine zcl ?_ | refine zcm ?_ | refine zcn ?_)
              refine zci rfl ?_
              repeat (first | refine zck ?_ | refine zcl ?_ | refine zcm ?_ | refine zcn ?_)
              first | refine zcp (by kernel_rfl) ?_ | refine zcq PP_mixed (by kernel_rfl) (by kernel_rfl) ?_
              repeat' (refine zap rfl ?_; first | refine zan rfl ?_ | refine zan rfl ?_)
              all_goals refine zch ?_
              all_goals repeat (first | refine zck ?_ | refine zcl ?_ | refine zcm ?_ | refine zcn ?_)
              refine run_take [] rfl ?_
              exact qret2 (fun _ _ h => h) rfl ⟨rfl, rfl⟩
          · rw [List.drop_of_length_le (by omega), ofOr] at g2
            rw [← g2, if_neg (fun q => q rfl)] at hr
            subst hr
            repeat (first | refine zck ?_ | refine zcl ?_ | refine zcm ?_ | refine zcn ?_)
            first | refine zcp (by kernel_rfl) ?_ | refine zcq PP_mixed (by kernel_rfl) (by kernel_rfl) ?_
            repeat' (refine zap rfl ?_; first | refine zbh rfl rfl (by omega) ?_)
            all_goals refine zch ?_
            all_goals repeat (first | refine zck ?_ | refine zcl ?_ | refine zcm ?_ | refine zcn ?_)
            refine zcj rfl ?_
            refine cut_exit rfl rfl ?_
            repeat' (first | refine zck ?_ | refine zcp (by kernel_rfl) ?_ | (refine zap rfl ?_; first | refine zan rfl ?_) | refine zch ?_)
            exact ret_tmp2 rfl ⟨rfl, rfl⟩
set_option maxHeartbeats 8000000 in
theorem of_step (w0 : World) (vs : TV) (ks : List (ByteArray × ByteArray)) (n : Nat) (hn : n ≤ 100000) (hO : OfS w0 vs ks n) : OfS w0 vs ks (n + 1) := by
  intro sh mv ms e va vo hs hT ha ho
  have hsz := e.size_eq
  have la := PE.sizeL_len e.args
  have lo := PE.sizeL_len e.or
  obtain ⟨a1, c1, hva, _⟩ := ha.len
  obtain ⟨a2, c2, hvo, _⟩ := ho.len
  subst hva; subst hvo
  obtain ⟨R, hR⟩ : ∃ R, ofE (envM vs ks) e = R := ⟨_, rfl⟩
  rw [hR]
  rw [ofE_eq] at hR
  refine fn_of_run en29 fn29 rfl rfl rfl ?_
  repeat (first | refine zck ?_ | refine zcl ?_ | refine zcm ?_ | refine zcn ?_)
  first | refine zcp (by kernel_rfl) ?_ | refine zcq PP_mixed (by kernel_rfl) (by kernel_rfl) ?_
  repeat' (refine zap rfl ?_; first | refine zaq (cs := [_, _]) rfl (fun tt => ?_) | refine zaq (cs := [_, _, _, _, _, _]) rfl (fun te => ?_) | refine zan rfl ?_)
  all_goals refine zch ?_
  all_goals repeat (first | refine zck ?_ | refine zcl ?_ | refine zcm ?_ | refine zcn ?_)
  refine run_share [0] rfl ?_
  refine run_share [0] rfl ?_
  by_cases hk0 : e.kind < 0
  · rw [if_pos (.inl hk0)] at hR
    subst hR
    repeat (first | refine zck ?_ | refine zcl ?_ | refine zcm ?_ | refine zcn ?_)
    first | refine zcp (by kernel_rfl) ?_ | refine zcq PP_mixed (by kernel_rfl) (by kernel_rfl) ?_
    repeat' (refine zap rfl ?_; first | refine zak rfl ?_ | refine zan rfl ?_ | refine zaa 0 rfl rfl rfl ?_ | refine zao rfl ?_ | refine zbg rfl rfl (by omega) ?_ | refine zbu rfl ?_)
    all_goals refine zch ?_
    all_goals repeat (first | refine zck ?_ | refine zcl ?_ | refine zcm ?_ | refine zcn ?_)
    refine zci rfl ?_
    repeat' (first | refine zck ?_ | refine zcp (by kernel_rfl) ?_ | (refine zap rfl ?_; first | refine zan rfl ?_) | refine zch ?_)
    exact ret_tmp2 rfl ⟨rfl, rfl⟩
  by_cases hk7 : 7 < e.kind
  · rw [if_pos (.inr hk7)] at hR
    subst hR
    repeat (first | refine zck ?_ | refine zcl ?_ | refine zcm ?_ | refine zcn ?_)
    first | refine zcp (by kernel_rfl) ?_ | refine zcq PP_mixed (by kernel_rfl) (by kernel_rfl) ?_
    repeat' (refine zap rfl ?_; first | refine zaj rfl ?_ | refine zan rfl ?_ | refine zaa 0 rfl rfl rfl ?_ | refine zao rfl ?_ | refine zbh rfl rfl (by omega) ?_ | refine zbk rfl rfl (by omega) ?_ | refine zbv rfl ?_)
    all_goals refine zch ?_
    all_goals repeat (first | refine zck ?_ | refine zcl ?_ | refine zcm ?_ | refine zcn ?_)
    refine zci rfl ?_
    repeat' (first | refine zck ?_ | refine zcp (by kernel_rfl) ?_ | (refine zap rfl ?_; first | refine zan rfl ?_) | refine zch ?_)
    exact ret_tmp2 rfl ⟨rfl, rfl⟩
  rw [if_neg (by omega)] at hR
  repeat (first | refine zck ?_ | refine zcl ?_ | refine zcm ?_ | refine zcn ?_)
  first | refine zcp (by kernel_rfl) ?_ | refine zcq PP_mixed (by kernel_rfl) (by kernel_rfl) ?_
  repeat' (refine zap rfl ?_; first | refine zaj rfl ?_ | refine zan rfl ?_ | refine zaa 0 rfl rfl rfl ?_ | refine zao rfl ?_ | refine zbh rfl rfl (by omega) ?_ | refine zbl rfl rfl (by omega) ?_ | refine zbv rfl ?_)
  all_goals refine zch ?_
  all_goals repeat (first | refine zck ?_ | refine zcl ?_ | refine zcm ?_ | refine zcn ?_)
  refine zcj rfl ?_
  have hform := formTy_spec w0 e _ _ sh ha ho ⟨by omega, by omega⟩
  have hsb : ∀ (a b : Nat × Obj), ∀ p ∈ sh, p ∈ a :: b :: sh := fun a b p hp => .tail _ (.tail _ hp)
  cases hf : formT e with
  | false =>
    rw [hf] at hform
    rw [if_pos hf] at hR
    subst hR
    repeat (first | refine zck ?_ | refine zcl ?_ | refine zcm ?_ | refine zcn ?_)
    first | refine zcp (by kernel_rfl) ?_ | refine zcq PP_mixed (by kernel_rfl) (by kernel_rfl) ?_
    repeat' (refine zap rfl ?_; first | refine zaa 0 rfl rfl rfl ?_ | refine zah [] hform rfl rfl rfl (hsb _ _) rfl ?_ | refine zbx rfl ?_)
    all_goals refine zch ?_
    all_goals repeat (first | refine zck ?_ | refine zcl ?_ | refine zcm ?_ | refine zcn ?_)
    refine zci rfl ?_
    repeat' (first | refine zck ?_ | refine zcp (by kernel_rfl) ?_ | (refine zap rfl ?_; first | refine zan rfl ?_) | refine zch ?_)
    exact ret_tmp2 rfl ⟨rfl, rfl⟩
  | true =>
  rw [hf] at hform
  rw [if_neg (by rw [hf]; decide)] at hR
  repeat (first | refine zck ?_ | refine zcl ?_ | refine zcm ?_ | refine zcn ?_)
  first | refine zcp (by kernel_rfl) ?_ | refine zcq PP_mixed (by kernel_rfl) (by kernel_rfl) ?_
  repeat' (refine zap rfl ?_; first | refine zaa 0 rfl rfl rfl ?_ | refine zah [] hform rfl rfl rfl (hsb _ _) rfl ?_ | refine zbx rfl ?_)
  all_goals refine zch ?_
  all_goals repeat (first | refine zck ?_ | refine zcl ?_ | refine zcm ?_ | refine zcn ?_)
  refine zcj rfl ?_
  repeat (first | refine zck ?_ | refine zcl ?_ | refine zcm ?_ | refine zcn ?_)
  first | refine zcp (by kernel_rfl) ?_ | refine zcq PP_mixed (by kernel_rfl) (by kernel_rfl) ?_
  repeat' (refine zap rfl ?_; first | refine zan rfl ?_)
  all_goals refine zch ?_
  all_goals repeat (first | refine zck ?_ | refine zcl ?_ | refine zcm ?_ | refine zcn ?_)
  refine run_nilslice 3 1 ?_
  repeat (first | refine zck ?_ | refine zcl ?_ | refine zcm ?_ | refine zcn ?_)
  first | refine zcp (by kernel_rfl) ?_ | refine zcq PP_mixed (by kernel_rfl) (by kernel_rfl) ?_
  repeat' (refine zap rfl ?_; first | refine zan rfl ?_ | refine zaa 0 rfl rfl rfl ?_ | refine zce rfl ?_ | refine zao rfl ?_)
  all_goals refine zch ?_
  all_goals repeat (first | refine zck ?_ | refine zcl ?_ | refine zcm ?_ | refine zcn ?_)
  refine run_loop (S := Nat × Option Addr × Nat × List Int) (fun s => [(2, .pointer (some ⟨tt, 0, none⟩)), (3, .pointer (some ⟨te, 0, none⟩)), (6, .slice s.2.1 s.2.2.2.length s.2.2.1), (23, .slice a1 e.args.length c1), (24, .int .i64 e.args.length), (25, .int .i64 (s.1 : Int))])
    (fun s Γ => Γ = [SlA 3 1 s.2.1 s.2.2.2.length s.2.2.1 (intsV s.2.2.2)] ∧ s.1 ≤ e.args.length ∧ s.2.2.2.length = s.1 ∧ ofEs (envM vs ks) e.args = (s.2.2.2 ++ (ofEs (envM vs ks) (e.args.drop s.1)).1, (ofEs (envM vs ks) (e.args.drop s.1)).2)) (fun s => e.args.length - s.1) (0, none, 0, [])
    ⟨rfl, rfl, rfl, rfl, rfl, rfl, trivial⟩ ⟨rfl, Nat.zero_le _, rfl, rfl⟩ ?_
  rintro ⟨j, a, c, ts⟩ Γ junk ⟨rfl, g1, g2, g3⟩
  dsimp only at g1 g2 g3 ⊢
  by_cases hj : j < e.args.length
  · obtain ⟨x, hx⟩ : ∃ x, e.args[j]? = some x := ⟨_, List.getElem?_eq_getElem hj⟩
    obtain ⟨b, off, cc, T, fr, cs, rfl, e2, e3, e4, _⟩ := ha.at hx
    obtain ⟨va', vo', rfl, r1, r2⟩ := e4.cs
    obtain ⟨pa', qa', hva', _⟩ := id r1.len
    obtain ⟨po', qo', hvo', _⟩ := id r2.len
    subst hva'; subst hvo'
    have hcall := hO sh mv ms x _ _ (by have := PE.size_args (List.mem_of_getElem? hx); omega) hT r1 r2
    rw [ofEs_drop hx] at g3
    generalize ofE (envM vs ks) x = X at *
    obtain ⟨tx, cx⟩ := X
    dsimp only at g3 hcall
    repeat (first | refine zck ?_ | refine zcl ?_ | refine zcm ?_ | refine zcn ?_)
    first | refine zcp (by kernel_rfl) ?_ | refine zcq PP_mixed (by kernel_rfl) (by kernel_rfl) ?_
    repeat' (refine zap rfl ?_; first | refine zbg rfl rfl (by omega) ?_)
    all_goals refine zch ?_
    all_goals repeat (first | refine zck ?_ | refine zcl ?_ | refine zcm ?_ | refine zcn ?_)
    refine zci rfl ?_
    repeat (first | refine zck ?_ | refine zcl ?_ | refine zcm ?_ | refine zcn ?_)
    first | refine zcp (by kernel_rfl) ?_ | refine zcq PP_mixed (by kernel_rfl) (by kernel_rfl) ?_
    repeat' (refine zap rfl ?_; first | refine zad rfl (fun hF Γ w h1 h2 => e2 hF Γ w (fun p hp => h1 p (.tail _ (.tail _ hp))) h2) (e3 _ (by omega)) ?_ | refine zae 1 rfl rfl rfl rfl rfl rfl rfl ?_ | refine zas rfl rfl (by omega) ?_ | refine zar (fun nb => ?_))
    all_goals refine zch ?_
    all_goals repeat (first | refine zck ?_ | refine zcl ?_ | refine zcm ?_ | refine zcn ?_)
    repeat (first | refine zck ?_ | refine zcl ?_ | refine zcm ?_ | refine zcn ?_)
    first | refine zcp (by kernel_rfl) ?_ | refine zcq PP_mixed (by kernel_rfl) (by kernel_rfl) ?_
    repeat' (refine zap rfl ?_; first | refine zan rfl ?_ | refine zan rfl ?_ | refine zaa 1 rfl rfl rfl ?_ | refine zab 1 rfl rfl rfl ?_ | refine zah [] hcall rfl rfl rfl (fun p hp => .tail _ (.tail _ hp)) rfl ?_ | refine zan rfl ?_)
    all_goals refine zch ?_
    all_goals repeat (first | refine zck ?_ | refine zcl ?_ | refine zcm ?_ | refine zcn ?_)
    by_cases hcx : cx = 0
    rotate_left
    · rw [if_pos hcx] at g3
      rw [g3] at hR
      dsimp only at hR
      rw [if_pos hcx] at hR
      subst hR
      repeat (first | refine zck ?_ | refine zcl ?_ | refine zcm ?_ | refine zcn ?_)
      first | refine zcp (by kernel_rfl) ?_ | refine zcq PP_mixed (by kernel_rfl) (by kernel_rfl) ?_
      repeat' (refine zap rfl ?_; first | refine zan rfl ?_ | refine zbe rfl rfl (by omega) ?_)
      all_goals refine zch ?_
      all_goals repeat (first | refine zck ?_ | refine zcl ?_ | refine zcm ?_ | refine zcn ?_)
      refine zci rfl ?_
      repeat (first | refine zck ?_ | refine zcl ?_ | refine zcm ?_ | refine zcn ?_)
      first | refine zcp (by kernel_rfl) ?_ | refine zcq PP_mixed (by kernel_rfl) (by kernel_rfl) ?_
      repeat' (refine zap rfl ?_; first | refine zan rfl ?_ | refine zan rfl ?_)
      all_goals refine zch ?_
      all_goals repeat (first | refine zck ?_ | refine zcl ?_ | refine zcm ?_ | refine zcn ?_)
      refine run_take [] rfl ?_
      exact qret2 (fun _ _ h => h) rfl ⟨rfl, rfl⟩
    rw [if_neg (fun q => q hcx)] at g3
    dsimp only at g3
    repeat (first | refine zck ?_ | refine zcl ?_ | refine zcm ?_ | refine zcn ?_)
    first | refine zcp (by kernel_rfl) ?_ | refine zcq PP_mixed (by kernel_rfl) (by kernel_rfl) ?_
    repeat' (refine zap rfl ?_; first | refine zan rfl ?_ | refine zbf rfl rfl (by omega) ?_)
    all_goals refine zch ?_
    all_goals repeat (first | refine zck ?_ | refine zcl ?_ | refine zcm ?_ | refine zcn ?_)
    refine zcj rfl ?_
    repeat (first | refine zck ?_ | refine zcl ?_ | refine zcm ?_ | refine zcn ?_)
    first | refine zcp (by kernel_rfl) ?_ | refine zcq PP_mixed (by kernel_rfl) (by kernel_rfl) ?_
    repeat' (refine zap rfl ?_; first | refine reg_buildSlice rfl rfl rfl rfl rfl rfl (fun nb9 => ?_) | refine zan rfl ?_ | refine zan rfl ?_ | refine reg_append 0 2 rfl rfl rfl rfl rfl rfl rfl rfl (by omega) (fun _ _ => rfl) (fun a5 c5 => ?_))
    all_goals refine zch ?_
    all_goals repeat (first | refine zck ?_ | refine zcl ?_ | refine zcm ?_ | refine zcn ?_)
    refine run_take [0] rfl ?_
    repeat' (first | refine zcp (by kernel_rfl) ?_ | (refine zap rfl ?_; first | refine zan rfl ?_ | refine zau rfl rfl (by omega) ?_) | refine zch ?_)
    refine cut_end ⟨rfl, (j + 1, a5, c5, ts ++ [tx]), ⟨rfl, rfl, by dsimp only; rw [List.length_append]; rfl, rfl, rfl, int_eq (by dsimp only; omega), trivial⟩, ⟨?_, by dsimp only; omega, by dsimp only; rw [List.length_append, g2]; rfl, ?_⟩, by dsimp only; omega⟩
    · dsimp only
      rw [List.length_append]
      unfold intsV
      rw [List.map_append]
      rfl
    · dsimp only
      rw [g3, List.append_assoc]
      rfl
  have hjl : j = e.args.length := by omega
  subst hjl
  rw [List.drop_of_length_le (Nat.le_refl _), ofEs, List.append_nil] at g3
  rw [g3] at hR
  dsimp only at hR
  rw [if_neg (fun q => q rfl)] at hR
  repeat (first | refine zck ?_ | refine zcl ?_ | refine zcm ?_ | refine zcn ?_)
  first | refine zcp (by kernel_rfl) ?_ | refine zcq PP_mixed (by kernel_rfl) (by kernel_rfl) ?_
  repeat' (refine zap rfl ?_; first | refine zbh rfl rfl (by omega) ?_)
  all_goals refine zch ?_
  all_goals repeat (first | refine zck ?_ | refine zcl ?_ | refine zcm ?_ | refine zcn ?_)
  refine zcj rfl ?_
  refine cut_exit rfl rfl ?_
  refine run_slR encI 0 (l := ts) rfl (by unfold intsV; clear g2 g3 hR; induction ts with | nil => rfl | cons x l ih => rw [List.map_cons, List.flatMap_cons, ih]; rfl) (fun _ _ => rfl) rfl rfl ?_
  refine run_shareB [0] rfl (fun bl hbl => ?_)
  have hEl : ∀ (sh' : Shared), (∀ p ∈ bl, p ∈ sh') → RdSl w0 sh' encI 1 (.slice a ts.length c) ts := fun sh' h => hbl.mono h
  have hn1 : ts.length ≤ 1000000 := by omega
  obtain ⟨SH, hSH⟩ : ∃ SH, SH = ((te, Obj.cells (List.toArray (peC e.kind e.num e.name e.meth (.slice a1 e.args.length c1) (.slice a2 e.or.length c2))) 41 (0, 0)) :: (tt, Obj.cells (List.toArray [Value.map (some mv), Value.map (some ms)]) 87 (0, 0)) :: sh) ++ bl := ⟨_, rfl⟩
  have hs1 : ∀ p ∈ sh, p ∈ SH := fun p hp => by rw [hSH]; exact List.mem_append_left _ (.tail _ (.tail _ hp))
  have hs2 : ∀ p ∈ bl, p ∈ SH := fun p hp => by rw [hSH]; exact List.mem_append_right _ hp
  have hT2 := hT.mono hs1
  have ha2 := ha.mono hs1
  have ho2 := ho.mono hs1
  have hl2 := hEl SH hs2
  repeat (first | refine zck ?_ | refine zcl ?_ | refine zcm ?_ | refine zcn ?_ | refine zco ?_)
  rcases (by omega : e.kind = 0 ∨ e.kind = 1 ∨ e.kind = 2 ∨ e.kind = 3 ∨ e.kind = 4 ∨ e.kind = 5 ∨ e.kind = 6 ∨ e.kind = 7) with hk | hk | hk | hk | hk | hk | hk | hk
  · rw [if_pos (.inr (by omega))] at hR
    have hru : ruleE (envM vs ks) e ts = (1, 0) := by
      unfold ruleE
      rw [if_pos hk]
    rw [hru] at hR
    subst hR
    repeat (first | refine zck ?_ | refine zcl ?_ | refine zcm ?_ | refine zcn ?_)
    first | refine zcp (by kernel_rfl) ?_ | refine zcq PP_mixed (by kernel_rfl) (by kernel_rfl) ?_
    repeat' (refine zap rfl ?_; first | refine reg_indexA (sz := 1) (v := fnA n1) rfl rfl ⟨by omega, by omega⟩ (by rw [hk]; rfl) ?_ | refine zan rfl ?_ | refine zan rfl ?_ | refine zaa 0 rfl rfl rfl ?_ | refine zaa 1 rfl rfl rfl ?_ | (refine zai [] (rulesTy_spec w0) rfl rfl rfl sub_nil ?_; rintro v Γ ⟨n1, n2, n3, n4, n5, rfl, rfl⟩) | (refine zai [0] (always1_spec w0 SH n1 mv ms 1 e _ _ _).owned rfl rfl rfl (fun p hp => by rw [hSH] at hp; exact hp) ?_; rintro v Γ ⟨_, ⟨rfl, rfl⟩, rfl⟩) | refine zce rfl ?_ | refine zao rfl ?_ | refine zan rfl ?_)
    all_goals refine zch ?_
    all_goals repeat (first | refine zck ?_ | refine zcl ?_ | refine zcm ?_ | refine zcn ?_)
    refine run_take [] rfl ?_
    exact ret_tmp2 rfl ⟨rfl, rfl⟩
  · rw [if_pos (.inr (by omega))] at hR
    have hru : ruleE (envM vs ks) e ts = (2, 0) := by
      unfold ruleE
      rw [if_neg (by omega), if_pos hk]
    rw [hru] at hR
    subst hR
    repeat (first | refine zck ?_ | refine zcl ?_ | refine zcm ?_ | refine zcn ?_)
    first | refine zcp (by kernel_rfl) ?_ | refine zcq PP_mixed (by kernel_rfl) (by kernel_rfl) ?_
    repeat' (refine zap rfl ?_; first | refine reg_indexA (sz := 1) (v := fnA n2) rfl rfl ⟨by omega, by omega⟩ (by rw [hk]; rfl) ?_ | refine zan rfl ?_ | refine zan rfl ?_ | refine zaa 0 rfl rfl rfl ?_ | refine zaa 1 rfl rfl rfl ?_ | (refine zai [] (rulesTy_spec w0) rfl rfl rfl sub_nil ?_; rintro v Γ ⟨n1, n2, n3, n4, n5, rfl, rfl⟩) | (refine zai [1] (always1_spec w0 SH n2 mv ms 2 e _ _ _).owned rfl rfl rfl (fun p hp => by rw [hSH] at hp; exact hp) ?_; rintro v Γ ⟨_, ⟨rfl, rfl⟩, rfl⟩) | refine zce rfl ?_ | refine zao rfl ?_ | refine zan rfl ?_)
    all_goals refine zch ?_
    all_goals repeat (first | refine zck ?_ | refine zcl ?_ | refine zcm ?_ | refine zcn ?_)
    refine run_take [] rfl ?_
    exact ret_tmp2 rfl ⟨rfl, rfl⟩
  · rw [if_pos (.inr (by omega))] at hR
    have hru : ruleE (envM vs ks) e ts = if (envM vs ks).vars e.name = 1 ∨ (envM vs ks).vars e.name = 2 then ((envM vs ks).vars e.name, 0) else (0, 16) := by
      unfold ruleE
      rw [if_neg (by omega), if_neg (by omega), if_pos hk]
    rw [hru] at hR
    have hvar : FnE PP w0 SH 73 [tyrV mv ms, .agg (List.toArray (peC e.kind e.num e.name e.meth (.slice a1 e.args.length c1) (.slice a2 e.or.length c2))), .slice a ts.length c] [] (resT R) [] := by
      have h := var_spec w0 SH mv ms vs e (.slice a1 e.args.length c1) (.slice a2 e.or.length c2) (.slice a ts.length c) hT2.v
      rw [← hR]
      rw [show (envM vs ks).vars e.name = (lookV vs e.name).getD 0 from rfl]
      by_cases hq : (lookV vs e.name).getD 0 = 1 ∨ (lookV vs e.name).getD 0 = 2
      · rw [if_pos hq] at h ⊢; exact h
      · rw [if_neg hq] at h ⊢; exact h
    repeat (first | refine zck ?_ | refine zcl ?_ | refine zcm ?_ | refine zcn ?_)
    first | refine zcp (by kernel_rfl) ?_ | refine zcq PP_mixed (by kernel_rfl) (by kernel_rfl) ?_
    repeat' (refine zap rfl ?_; first | refine reg_indexA (sz := 1) (v := .func (.func 73) #[] #[]) rfl rfl ⟨by omega, by omega⟩ (by rw [hk]; rfl) ?_ | refine zan rfl ?_ | refine zan rfl ?_ | refine zaa 0 rfl rfl rfl ?_ | refine zaa 1 rfl rfl rfl ?_ | (refine zai [] (rulesTy_spec w0) rfl rfl rfl sub_nil ?_; rintro v Γ ⟨n1, n2, n3, n4, n5, rfl, rfl⟩) | refine zah [] hvar rfl rfl rfl (fun p hp => by rw [hSH] at hp; exact hp) rfl ?_ | refine zce rfl ?_ | refine zao rfl ?_ | refine zan rfl ?_)
    all_goals refine zch ?_
    all_goals repeat (first | refine zck ?_ | refine zcl ?_ | refine zcm ?_ | refine zcn ?_)
    refine run_take [] rfl ?_
    exact ret_tmp2 rfl ⟨rfl, rfl⟩
  · rw [if_pos (.inr (by omega))] at hR
    have hru : ruleE (envM vs ks) e ts = tEach ts 2 := by
      unfold ruleE
      rw [if_neg (by omega), if_neg (by omega), if_neg (by omega), if_pos hk]
    rw [hru] at hR
    subst hR
    repeat (first | refine zck ?_ | refine zcl ?_ | refine zcm ?_ | refine zcn ?_)
    first | refine zcp (by kernel_rfl) ?_ | refine zcq PP_mixed (by kernel_rfl) (by kernel_rfl) ?_
    repeat' (refine zap rfl ?_; first | refine reg_indexA (sz := 1) (v := fnEa n3) rfl rfl ⟨by omega, by omega⟩ (by rw [hk]; rfl) ?_ | refine zan rfl ?_ | refine zan rfl ?_ | refine zaa 0 rfl rfl rfl ?_ | refine zaa 1 rfl rfl rfl ?_ | (refine zai [] (rulesTy_spec w0) rfl rfl rfl sub_nil ?_; rintro v Γ ⟨n1, n2, n3, n4, n5, rfl, rfl⟩) | (refine zai [2] (each1_spec w0 SH n3 mv ms 2 e _ _ _ ts hl2 (by omega)).owned rfl rfl rfl (fun p hp => by rw [hSH] at hp; exact hp) ?_; rintro v Γ ⟨_, ⟨rfl, rfl⟩, rfl⟩) | refine zce rfl ?_ | refine zao rfl ?_ | refine zan rfl ?_)
    all_goals refine zch ?_
    all_goals repeat (first | refine zck ?_ | refine zcl ?_ | refine zcm ?_ | refine zcn ?_)
    refine run_take [] rfl ?_
    exact ret_tmp2 rfl ⟨rfl, rfl⟩
  · rw [if_pos (.inr (by omega))] at hR
    have hru : ruleE (envM vs ks) e ts = tEach ts 1 := by
      unfold ruleE
      rw [if_neg (by omega), if_neg (by omega), if_neg (by omega), if_neg (by omega), if_pos hk]
    rw [hru] at hR
    subst hR
    repeat (first | refine zck ?_ | refine zcl ?_ | refine zcm ?_ | refine zcn ?_)
    first | refine zcp (by kernel_rfl) ?_ | refine zcq PP_mixed (by kernel_rfl) (by kernel_rfl) ?_
    repeat' (refine zap rfl ?_; first | refine reg_indexA (sz := 1) (v := fnEa n4) rfl rfl ⟨by omega, by omega⟩ (by rw [hk]; rfl) ?_ | refine zan rfl ?_ | refine zan rfl ?_ | refine zaa 0 rfl rfl rfl ?_ | refine zaa 1 rfl rfl rfl ?_ | (refine zai [] (rulesTy_spec w0) rfl rfl rfl sub_nil ?_; rintro v Γ ⟨n1, n2, n3, n4, n5, rfl, rfl⟩) | (refine zai [3] (each1_spec w0 SH n4 mv ms 1 e _ _ _ ts hl2 (by omega)).owned rfl rfl rfl (fun p hp => by rw [hSH] at hp; exact hp) ?_; rintro v Γ ⟨_, ⟨rfl, rfl⟩, rfl⟩) | refine zce rfl ?_ | refine zao rfl ?_ | refine zan rfl ?_)
    all_goals refine zch ?_
    all_goals repeat (first | refine zck ?_ | refine zcl ?_ | refine zcm ?_ | refine zcn ?_)
    refine run_take [] rfl ?_
    exact ret_tmp2 rfl ⟨rfl, rfl⟩
  · rw [if_pos (.inr (by omega))] at hR
    have hru : ruleE (envM vs ks) e ts = match signT e.meth with | none => (0, 17) | some (a, b) => if (a = 0 ∧ ts.getD 0 0 = ts.getD 1 0) ∨ (a ≠ 0 ∧ anyNe ts a = false) then (b, 0) else (0, 17) := by
      unfold ruleE
      rw [if_neg (by omega), if_neg (by omega), if_neg (by omega), if_neg (by omega), if_neg (by omega), if_pos hk]
      try (cases signT e.meth <;> rfl)
    rw [hru] at hR
    have hbin : FnE PP w0 SH 75 [tyrV mv ms, .agg (List.toArray (peC e.kind e.num e.name e.meth (.slice a1 e.args.length c1) (.slice a2 e.or.length c2))), .slice a ts.length c] [] (resT R) [] := by
      have hform2 := hf
      unfold formT at hform2
      cases hsg : signT e.meth with
      | none => rw [if_pos ⟨hk, hsg⟩] at hform2; cases hform2
      | some ab =>
        obtain ⟨sa, sb⟩ := ab
        rw [if_neg (by rw [hsg]; rintro ⟨_, q⟩; cases q), if_neg (by omega), if_neg (by omega), if_pos hk, Bool.and_eq_true, decide_eq_true_eq] at hform2
        have h := binary_spec w0 SH mv ms e (.slice a1 e.args.length c1) (.slice a2 e.or.length c2) (.slice a ts.length c) ts sa sb hl2 (by omega) hsg
        rw [hsg] at hR
        dsimp only at hR
        rw [← hR]
        by_cases hq : (sa = 0 ∧ ts.getD 0 0 = ts.getD 1 0) ∨ (sa ≠ 0 ∧ anyNe ts sa = false)
        · rw [if_pos hq] at h ⊢; exact h
        · rw [if_neg hq] at h ⊢; exact h
    repeat (first | refine zck ?_ | refine zcl ?_ | refine zcm ?_ | refine zcn ?_)
    first | refine zcp (by kernel_rfl) ?_ | refine zcq PP_mixed (by kernel_rfl) (by kernel_rfl) ?_
    repeat' (refine zap rfl ?_; first | refine reg_indexA (sz := 1) (v := .func (.func 75) #[] #[]) rfl rfl ⟨by omega, by omega⟩ (by rw [hk]; rfl) ?_ | refine zan rfl ?_ | refine zan rfl ?_ | refine zaa 0 rfl rfl rfl ?_ | refine zaa 1 rfl rfl rfl ?_ | (refine zai [] (rulesTy_spec w0) rfl rfl rfl sub_nil ?_; rintro v Γ ⟨n1, n2, n3, n4, n5, rfl, rfl⟩) | refine zah [] hbin rfl rfl rfl (fun p hp => by rw [hSH] at hp; exact hp) rfl ?_ | refine zce rfl ?_ | refine zao rfl ?_ | refine zan rfl ?_)
    all_goals refine zch ?_
    all_goals repeat (first | refine zck ?_ | refine zcl ?_ | refine zcm ?_ | refine zcn ?_)
    refine run_take [] rfl ?_
    exact ret_tmp2 rfl ⟨rfl, rfl⟩
  · have hcl : FnE PP w0 SH 76 [tyrV mv ms, .agg (List.toArray (peC e.kind e.num e.name e.meth (.slice a1 e.args.length c1) (.slice a2 e.or.length c2))), .slice a ts.length c] [] (resT R) [] := by
      have h := call_of w0 vs ks n hn hO SH mv ms e (.slice a1 e.args.length c1) (.slice a2 e.or.length c2) a c ts hs hT2 ha2 ho2 hl2 hn1
      have hq : callR (envM vs ks) e ts = R := by
        rw [← hR]
        have hru : ruleE (envM vs ks) e ts = if callT (envM vs ks) e ts ≠ 0 then (0, callT (envM vs ks) e ts) else (1, 0) := by
          unfold ruleE
          rw [if_neg (by omega), if_neg (by omega), if_neg (by omega), if_neg (by omega), if_neg (by omega), if_neg (by omega), if_pos hk]
        rw [hru]
        unfold callR
        by_cases hc : callT (envM vs ks) e ts = 0
        · simp [hc, hk]
        · simp [hc]
      rw [hq] at h
      exact h
    repeat (first | refine zck ?_ | refine zcl ?_ | refine zcm ?_ | refine zcn ?_)
    first | refine zcp (by kernel_rfl) ?_ | refine zcq PP_mixed (by kernel_rfl) (by kernel_rfl) ?_
    repeat' (refine zap rfl ?_; first | refine reg_indexA (sz := 1) (v := .func (.func 76) #[] #[]) rfl rfl ⟨by omega, by omega⟩ (by rw [hk]; rfl) ?_ | refine zan rfl ?_ | refine zan rfl ?_ | refine zaa 0 rfl rfl rfl ?_ | refine zaa 1 rfl rfl rfl ?_ | (refine zai [] (rulesTy_spec w0) rfl rfl rfl sub_nil ?_; rintro v Γ ⟨n1, n2, n3, n4, n5, rfl, rfl⟩) | refine zah [] hcl rfl rfl rfl (fun p hp => by rw [hSH] at hp; exact hp) rfl ?_ | refine zce rfl ?_ | refine zao rfl ?_ | refine zan rfl ?_)
    all_goals refine zch ?_
    all_goals repeat (first | refine zck ?_ | refine zcl ?_ | refine zcm ?_ | refine zcn ?_)
    refine run_take [] rfl ?_
    exact ret_tmp2 rfl ⟨rfl, rfl⟩
  · rw [if_pos (.inr (by omega))] at hR
    have hru : ruleE (envM vs ks) e ts = tEach ts 1 := by
      unfold ruleE
      rw [if_neg (by omega), if_neg (by omega), if_neg (by omega), if_neg (by omega), if_neg (by omega), if_neg (by omega), if_neg (by omega)]
    rw [hru] at hR
    subst hR
    repeat (first | refine zck ?_ | refine zcl ?_ | refine zcm ?_ | refine zcn ?_)
    first | refine zcp (by kernel_rfl) ?_ | refine zcq PP_mixed (by kernel_rfl) (by kernel_rfl) ?_
    repeat' (refine zap rfl ?_; first | refine reg_indexA (sz := 1) (v := fnEa n5) rfl rfl ⟨by omega, by omega⟩ (by rw [hk]; rfl) ?_ | refine zan rfl ?_ | refine zan rfl ?_ | refine zaa 0 rfl rfl rfl ?_ | refine zaa 1 rfl rfl rfl ?_ | (refine zai [] (rulesTy_spec w0) rfl rfl rfl sub_nil ?_; rintro v Γ ⟨n1, n2, n3, n4, n5, rfl, rfl⟩) | (refine zai [4] (each1_spec w0 SH n5 mv ms 1 e _ _ _ ts hl2 (by omega)).owned rfl rfl rfl (fun p hp => by rw [hSH] at hp; exact hp) ?_; rintro v Γ ⟨_, ⟨rfl, rfl⟩, rfl⟩) | refine zce rfl ?_ | refine zao rfl ?_ | refine zan rfl ?_)
    all_goals refine zch ?_
    all_goals repeat (first | refine zck ?_ | refine zcl ?_ | refine zcm ?_ | refine zcn ?_)
    refine run_take [] rfl ?_
    exact ret_tmp2 rfl ⟨rfl, rfl⟩
theorem of_spec_ty (w0 : World) (vs : TV) (ks : List (ByteArray × ByteArray)) : ∀ n, n ≤ 100000 → OfS w0 vs ks n
  | 0, _ => fun sh mv ms e va vo h => by have := e.size_pos; omega
  | n + 1, hn => of_step w0 vs ks n (by omega) (of_spec_ty w0 vs ks n (by omega))
theorem typesOf_spec (w0 : World) (sh : Shared) (mv ms : Nat) (vs : TV) (ks : List (ByteArray × ByteArray)) (e : PE) (va vo : Value) (hs : e.size ≤ 100000) (hT : TyR w0 sh mv ms vs ks) (ha : RdEl w0 sh va e.args) (ho : RdEl w0 sh vo e.or) :
    FnE PP w0 sh 16 [.agg (List.toArray (peC e.kind e.num e.name e.meth va vo)), .map (some mv), .map (some ms)] [] (resT (typeOf (envM vs ks) e)) [] := by
  have hd := deep_spec w0 12 (by omega) sh e va vo (by omega) ha ho
  have hof := of_spec_ty w0 vs ks 100000 (Nat.le_refl _) sh mv ms e va vo hs hT ha ho
  unfold typeOf
  cases hq : deepB 12 e with
  | true =>
    rw [hq] at hd
    rw [if_pos rfl]
    refine fn_of_run en16 fn16 rfl rfl rfl ?_
    repeat (first | refine zck ?_ | refine zcl ?_ | refine zcm ?_ | refine zcn ?_)
    first | refine zcp (by kernel_rfl) ?_ | refine zcq PP_mixed (by kernel_rfl) (by kernel_rfl) ?_
    repeat' (refine zap rfl ?_; first | refine zan rfl ?_ | refine zaq (cs := [_, _, _, _, _, _]) rfl (fun nb => ?_))
    all_goals refine zch ?_
    all_goals repeat (first | refine zck ?_ | refine zcl ?_ | refine zcm ?_ | refine zcn ?_)
    refine run_share [0] rfl ?_
    repeat' (first | refine zck ?_ | refine zcp (by kernel_rfl) ?_ | (refine zap rfl ?_; first | refine zan rfl ?_ | refine zaa 0 rfl rfl rfl ?_ | refine zah [] hd rfl rfl rfl (fun p hp => .tail _ hp) rfl ?_) | refine zch ?_ | refine zci rfl ?_)
    exact ret_tmp2 rfl ⟨rfl, rfl⟩
  | false =>
    rw [hq] at hd
    rw [if_neg (by decide)]
    refine fn_of_run en16 fn16 rfl rfl rfl ?_
    repeat (first | refine zck ?_ | refine zcl ?_ | refine zcm ?_ | refine zcn ?_)
    first | refine zcp (by kernel_rfl) ?_ | refine zcq PP_mixed (by kernel_rfl) (by kernel_rfl) ?_
    repeat' (refine zap rfl ?_; first | refine zan rfl ?_ | refine zaq (cs := [_, _, _, _, _, _]) rfl (fun nb => ?_))
    all_goals refine zch ?_
    all_goals repeat (first | refine zck ?_ | refine zcl ?_ | refine zcm ?_ | refine zcn ?_)
    refine run_share [0] rfl ?_
    repeat' (first | refine zck ?_ | refine zcp (by kernel_rfl) ?_ | refine zcm ?_ | (refine zap rfl ?_; first | refine zan rfl ?_ | refine zan rfl ?_ | refine zaa 0 rfl rfl rfl ?_ | refine zah [] hd rfl rfl rfl (fun p hp => .tail _ hp) rfl ?_ | refine zah [] hof rfl rfl rfl (fun p hp => .tail _ hp) rfl ?_ | refine zan rfl ?_ | refine zcb rfl ?_) | refine zch ?_ | refine zcj rfl ?_)
    exact ret_tmp2 rfl ⟨rfl, rfl⟩
end Go.Proofs.YtijbnjaackhlcaaGreatDoor

namespace Sim
open Go Go.Vc
theorem lookV_none {s : ByteArray} : ∀ {l : TV}, s ∉ l.map (·.1) → lookV l s = none
  | [], _ => rfl
  | v :: l, h => by
    rw [List.map_cons, List.mem_cons, not_or] at h
    rw [lookV, if_neg (fun e => h.1 e.symm), lookV_none h.2]
theorem lookV_last {s : ByteArray} : ∀ {l : TV}, (l.map (·.1)).Nodup → ∀ (t : Int), lastT l s t = (lookV l s).getD t
  | [], _, _ => rfl
  | v :: l, h, t => by
    rw [List.map_cons, List.nodup_cons] at h
    rw [lastT, lookV]
    by_cases e : v.1 = s
    · rw [if_pos e, if_pos e, lookV_last h.2, lookV_none (by rw [← e]; exact h.1)]; rfl
    · rw [if_neg e, if_neg e, lookV_last h.2]
theorem envM_T {K : List (ByteArray × ByteArray)} {l : TV} (h : (l.map (·.1)).Nodup) : envM l K = envT (lookK K) l := by
  unfold envM envT
  congr 1
  funext s
  exact (lookV_last h 0).symm
theorem tvS_ins {l : TV} {n : ByteArray} {t : Int} (h : n ∉ l.map (·.1)) : insS (tvS l) n (.int .i64 t) = tvS (l ++ [(n, t)]) := by
  rw [insS_none _ _ _ (by rw [lookV_S, lookV_none h]; rfl)]
  simp [tvS]
theorem delS_mid {l m : TV} {v : ByteArray × Int} (h : ((l ++ v :: m).map (·.1)).Nodup) : delS (tvS (l ++ v :: m)) v.1 = tvS (l ++ m) := by
  induction l with
  | nil => show delS ((v.1, .int .i64 v.2) :: tvS m) v.1 = _; rw [delS, if_pos rfl]; rfl
  | cons u l ih =>
    rw [List.cons_append, List.map_cons, List.nodup_cons] at h
    show delS ((u.1, .int .i64 u.2) :: tvS (l ++ v :: m)) v.1 = _
    rw [delS, if_neg (fun e => h.1 (by rw [e]; exact List.mem_map_of_mem (List.mem_append_right _ (.head _)))), ih h.2]
    rfl
abbrev encN (v : ByteArray × Int) : List Value := [.string v.1]
end Sim
namespace Go.Proofs.YtijbnjaackhlcaaGreatDoor
open Go.Vc Sim
abbrev scPt (sb mv ms ma : Nat) (a : Option Addr) (n c : Nat) : Asn := pt sb (.cells (List.toArray [.map (some mv), .map (some ms), .map (some ma), .slice a n c]) 105 (0, 0))
abbrev nmA (a : Option Addr) (n c : Nat) (there : TV) : Asn := SlA 9 1 a n c (there.flatMap encN)
abbrev ScA (sb mv ms ma : Nat) (a : Option Addr) (c : Nat) (all there : TV) : List Asn := [scPt sb mv ms ma a there.length c, MapB mv (tvS there), MapB ma (tvS all), nmA a there.length c there]
set_option maxHeartbeats 2000000 in
theorem add_spec (w0 : World) (sb mv ms ma : Nat) (a : Option Addr) (c : Nat) (all there : TV) (nm : ByteArray) (t : Int) (h1 : nm ∉ all.map (·.1)) (h2 : nm ∉ there.map (·.1)) (hb : there.length ≤ 1000000) :
    Vc.Fn PP w0 [] 43 [.pointer (some ⟨sb, 0, none⟩), .string nm, .int .i64 t] (ScA sb mv ms ma a c all there)
      (fun v Γ => v = .tuple #[] ∧ ∃ a' c', Γ = ScA sb mv ms ma a' c' (all ++ [(nm, t)]) (there ++ [(nm, t)])) := by
  have e1 := tvS_ins (t := t) h1
  have e2 := tvS_ins (t := t) h2
  have p2 : ∀ A B C D : Asn, putAt 2 (MapB ma (insS (tvS all) nm (.int .i64 t))) [A, B, C, D] = some [A, B, MapB ma (tvS (all ++ [(nm, t)])), D] := fun A B C D => by rw [e1]; rfl
  have p1 : ∀ A B C D : Asn, putAt 1 (MapB mv (insS (tvS there) nm (.int .i64 t))) [A, B, C, D] = some [A, MapB mv (tvS (there ++ [(nm, t)])), C, D] := fun A B C D => by rw [e2]; rfl
  refine fn_of_run en43 fn43 rfl rfl rfl ?_
  repeat (first | refine zck ?_ | refine zcl ?_ | refine zcm ?_ | refine zcn ?_)
  first | refine zcp (by kernel_rfl) ?_ | refine zcr [(.quiet, 0), (.quiet, 1), (.quiet, 2), (.read, 3), (.quiet, 4), (.quiet, 5), (.quiet, 6), (.quiet, 7), (.quiet, 8), (.read, 9), (.quiet, 10), (.quiet, 11), (.quiet, 12), (.loud, 13), (.quiet, 14), (.loud, 15), (.loud, 16), (.quiet, 17), (.loud, 18)] PP_mixed (by kernel_rfl) (by kernel_rfl) ?_ | refine run_drawR PP_mixed (by kernel_rfl) (by kernel_rfl) ?_
  repeat' (refine zap rfl ?_; first | refine reg_mapEntryB 2 rfl rfl rfl (fun _ => rfl) (fun s1 => ?_) | refine reg_mapEntryB 1 rfl rfl rfl (fun _ => rfl) (fun s2 => ?_) | refine reg_entryStoreB 2 rfl rfl rfl rfl (p2 _ _ _ _) ?_ | refine reg_entryStoreB 1 rfl rfl rfl rfl (p1 _ _ _ _) ?_ | refine zan rfl ?_ | refine zab 0 rfl rfl rfl ?_ | refine zao rfl ?_ | refine zan rfl ?_ | refine zan rfl ?_)
  all_goals refine zch ?_
  all_goals repeat (first | refine zck ?_ | refine zcl ?_ | refine zcm ?_ | refine zcn ?_)
  repeat (first | refine zck ?_ | refine zcl ?_ | refine zcm ?_ | refine zcn ?_)
  first | refine zcp (by kernel_rfl) ?_ | refine zcq PP_mixed (by kernel_rfl) (by kernel_rfl) ?_
  repeat' (refine zap rfl ?_; first | refine reg_buildSlice rfl rfl rfl rfl rfl rfl (fun nb9 => ?_) | refine zan rfl ?_ | refine zab 0 rfl rfl rfl ?_ | refine reg_append 3 4 rfl rfl rfl rfl rfl rfl rfl rfl (by omega) (fun _ _ => rfl) (fun a5 c5 => ?_) | refine zao rfl ?_ | refine zae 0 rfl rfl rfl rfl rfl rfl rfl ?_ | refine zan rfl ?_)
  all_goals refine zch ?_
  all_goals repeat (first | refine zck ?_ | refine zcl ?_ | refine zcm ?_ | refine zcn ?_)
  refine run_take [0, 0, 0, 0] rfl ?_
  exact end_tmp0 rfl ⟨rfl, a5, c5, by
    unfold ScA scPt nmA
    rw [List.length_append, List.flatMap_append]
    rfl⟩
set_option maxHeartbeats 2000000 in
theorem back_spec (w0 : World) (sb mv ms ma : Nat) (a : Option Addr) (c : Nat) (all there m : TV) (hn : ((there ++ m).map (·.1)).Nodup) (hb : (there ++ m).length ≤ 1000000) :
    Vc.Fn PP w0 [] 62 [.pointer (some ⟨sb, 0, none⟩), .int .i64 there.length] (ScA sb mv ms ma a c all (there ++ m))
      (fun v Γ => v = .tuple #[] ∧ ∃ a' c', Γ = ScA sb mv ms ma a' c' all there) := by
  have hmain : Vc.Fn PP w0 [] 62 [.pointer (some ⟨sb, 0, none⟩), .int .i64 there.length] (ScA sb mv ms ma a c all (there ++ m))
      (fun v Γ => v = .tuple #[] ∧ Γ = [scPt sb mv ms ma a there.length there.length, MapB mv (tvS there), MapB ma (tvS all), nmA a (there ++ m).length c (there ++ m)]) := by
    refine fn_of_run en62 fn62 rfl rfl rfl ?_
    refine run_lendSl encN [3] rfl (fun _ _ => rfl) rfl ?_
    intro sh' hsub hR
    have hcap := hR.cap
    have hL : (there ++ m).length = there.length + m.length := List.length_append
    have hT := hR.tail (q := there.length) (by omega)
    rw [List.drop_left] at hT
    obtain ⟨at', ct', hvt, _⟩ := id hT
    have htl : tailV a (there ++ m).length c 1 (there.length : Int).toNat = .slice at' m.length ct' := by rw [Int.toNat_natCast]; exact hvt
    rw [hvt] at hT
    repeat (first | refine zck ?_ | refine zcl ?_ | refine zcm ?_ | refine zcn ?_)
    first | refine zcp (by kernel_rfl) ?_ | refine zcq PP_mixed (by kernel_rfl) (by kernel_rfl) ?_
    repeat' (refine zap rfl ?_; first | (refine reg_sliceT (sz := 1) rfl rfl ⟨by omega, by omega⟩ ?_; rw [htl]) | refine zan rfl ?_ | refine zab 0 rfl rfl rfl ?_ | refine zce rfl ?_ | refine zao rfl ?_ | refine zan rfl ?_)
    all_goals refine zch ?_
    all_goals repeat (first | refine zck ?_ | refine zcl ?_ | refine zcm ?_ | refine zcn ?_)
    refine run_loop (S := Nat) (fun j => [(0, .pointer (some ⟨sb, 0, none⟩)), (1, .int .i64 there.length), (11, .slice at' m.length ct'), (12, .int .i64 m.length), (13, .int .i64 (j : Int))])
      (fun j Γ => Γ = [scPt sb mv ms ma a (there ++ m).length c, MapB mv (tvS (there ++ m.drop j)), MapB ma (tvS all)] ∧ j ≤ m.length) (fun j => m.length - j) 0 ⟨rfl, rfl, rfl, rfl, rfl, trivial⟩ ⟨rfl, by omega⟩ ?_
    rintro j Γ junk ⟨rfl, g1⟩
    by_cases hj : j < m.length
    · obtain ⟨x, hx⟩ : ∃ x, m[j]? = some x := ⟨_, List.getElem?_eq_getElem hj⟩
      obtain ⟨b, off, cc, T, fr, rfl, e2, _, e4⟩ := hT.cells hx
      have hd : m.drop j = x :: m.drop (j + 1) := by
        rw [List.drop_eq_getElem_cons hj]
        congr 1
        exact (List.getElem?_eq_some_iff.1 hx).2
      have hdel : delS (tvS (there ++ m.drop j)) x.1 = tvS (there ++ m.drop (j + 1)) := by
        rw [hd]
        refine delS_mid ?_
        rw [← hd]
        have h5 : (there ++ m.drop j).Sublist (there ++ m) := (List.Sublist.refl _).append (List.drop_sublist _ _)
        exact (h5.map (·.1)).nodup hn
      have hput : ∀ A B C : Asn, putAt 1 (MapB mv (delS (tvS (there ++ m.drop j)) x.1)) [A, B, C] = some [A, MapB mv (tvS (there ++ m.drop (j + 1))), C] := fun A B C => by rw [hdel]; rfl
      repeat' (first | refine zck ?_ | refine zcp (by kernel_rfl) ?_ | refine zcm ?_ | refine zcl ?_ | refine zcn ?_ | (refine zap rfl ?_; first | refine zad rfl e2 (e4 0 _ rfl _ (by omega)) ?_ | refine zan rfl ?_ | refine zan rfl ?_ | refine zab 0 rfl rfl rfl ?_ | refine reg_deleteB 1 rfl rfl rfl (hput _ _ _) ?_ | refine zao rfl ?_ | refine zbg rfl rfl (by omega) ?_ | refine zau rfl rfl (by omega) ?_ | refine zan rfl ?_ | refine zas rfl rfl (by omega) ?_) | refine zch ?_ | refine zci rfl ?_)
      exact cut_end ⟨rfl, j + 1, ⟨rfl, rfl, rfl, rfl, int_eq (by omega), trivial⟩, ⟨rfl, by omega⟩, by omega⟩
    · have hjm : j = m.length := by omega
      subst hjm
      rw [List.drop_length, List.append_nil]
      repeat (first | refine zck ?_ | refine zcl ?_ | refine zcm ?_ | refine zcn ?_)
      first | refine zcp (by kernel_rfl) ?_ | refine zcq PP_mixed (by kernel_rfl) (by kernel_rfl) ?_
      repeat' (refine zap rfl ?_; first | refine zbh rfl rfl (by omega) ?_)
      all_goals refine zch ?_
      all_goals repeat (first | refine zck ?_ | refine zcl ?_ | refine zcm ?_ | refine zcn ?_)
      refine zcj rfl ?_
      refine cut_exit rfl rfl ?_
      repeat (first | refine zck ?_ | refine zcl ?_ | refine zcm ?_ | refine zcn ?_)
      first | refine zcp (by kernel_rfl) ?_ | refine zcq PP_mixed (by kernel_rfl) (by kernel_rfl) ?_
      repeat' (refine zap rfl ?_; first | refine reg_slice3 (sz := 1) rfl rfl rfl ⟨by omega, by omega, by omega⟩ ?_ | refine zan rfl ?_ | refine zab 0 rfl rfl rfl ?_ | refine zao rfl ?_ | refine zae 0 rfl rfl rfl rfl rfl rfl rfl ?_ | refine zan rfl ?_)
      all_goals refine zch ?_
      all_goals repeat (first | refine zck ?_ | refine zcl ?_ | refine zcm ?_ | refine zcn ?_)
      exact run_nil (leaves_nil (ends_none rfl ⟨rfl, rfl⟩))
  refine hmain.post ?_
  rintro v Γ ⟨rfl, rfl⟩
  refine ⟨ScA sb mv ms ma a there.length all there, ⟨rfl, a, there.length, rfl⟩, fun h hs => ?_⟩
  refine Stars.exchAt (A := nmA a (there ++ m).length c (there ++ m)) (B := nmA a there.length there.length there) (fun g hg => ?_) (j := 3) rfl rfl hs
  have h2 := SlA_cut (q := there.length) hg (by rw [List.length_append]; omega)
  have h3 : ((there ++ m).flatMap encN).take (there.length * 1) = there.flatMap encN := by
    rw [List.flatMap_append, Nat.mul_one]
    have : (there.flatMap encN).length = there.length := (flat_len (encE := encN) (q := 1) there (fun _ _ => rfl)).trans (Nat.mul_one _)
    rw [← this, List.take_left]
  rw [h3] at h2
  exact h2
end Go.Proofs.YtijbnjaackhlcaaGreatDoor

