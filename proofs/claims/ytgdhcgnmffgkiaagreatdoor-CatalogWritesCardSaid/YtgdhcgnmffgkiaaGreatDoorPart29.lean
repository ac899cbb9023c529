import Derived.Test.YtgdhcgnmffgkiaaGreatDoorPart5
import Derived.Test.YtgdhcgnmffgkiaaGreatDoorKit
import Derived.Test.YtgdhcgnmffgkiaaGreatDoorPart6
import Derived.Test.YtgdhcgnmffgkiaaGreatDoorPart28
import Derived.Test.YtgdhcgnmffgkiaaGreatDoorPart13
import Derived.Test.YtgdhcgnmffgkiaaGreatDoorPart19
/- Own work: lemmas of this claim. -/
namespace Sim
open Go Go.Vc
end Sim
namespace Go.Vc
end Go.Vc
namespace Sim
open Go Go.Vc
end Sim
namespace Go.Proofs.YtgdhcgnmffgkiaaGreatDoor
open Go.Vc Sim
set_option maxHeartbeats 4000000
end Go.Proofs.YtgdhcgnmffgkiaaGreatDoor
namespace Go.Vc
open Sim
abbrev encMM (x : ByteArray × Int × Bool) : List Value := [.string x.1, .int .i64 x.2.1, .bool x.2.2]
end Go.Vc
namespace Go.Proofs.YtgdhcgnmffgkiaaGreatDoor
variable (w0 : World)
open Go.Vc Sim
theorem methods_val (k : Int) : Vc.Fn PP w0 [] 37 [.int .i64 k] [] (fun v Γ => ∃ a c, v = .slice a (msK k).length c ∧ Γ = [Rds fun bl => RdSl w0 bl encM 4 (.slice a (msK k).length c) (msK k)]) := by
 refine (methods_spec w0 k).know ?_
 rintro v Γ rfl hst
 obtain ⟨bl, hbl⟩ := Rds.st hst
 obtain ⟨a, c, hv, _⟩ := id hbl
 subst hv
 exact ⟨a, c, rfl, rfl⟩
set_option maxHeartbeats 2000000 in
theorem methodsX_spec (w0 : World) (k : Int) : Vc.Fn PP w0 [] 21 [.int .i64 k] [] (fun v Γ => ∃ a c, v = .slice a (ctMeths k).length c ∧ Γ = [Rds fun bl => RdSl w0 bl encMM 3 (.slice a (ctMeths k).length c) (ctMeths k)]) := by
 have hk := methods_val w0 k
 have hn := msK_len k
 have hrows := msK_rows k
 refine zep en21 fn21 rfl rfl rfl ?_
 refine zyr ?_
 repeat' refine zp ?_
 all_goals refine zyn ?_
 refine zyr ?_
 repeat' refine zp ?_
 all_goals refine zyn ?_
 refine zyr ?_
 repeat' first|(refine zap rfl ?_;first|refine zce rfl ?_|(refine zai [] hk rfl rfl rfl zdj ?_; rintro v Γ ⟨av, cv, rfl, rfl⟩))|refine zp ?_|refine zyn ?_
 refine run_shareB [0] rfl (fun bl hbl => ?_)
 refine run_nilslice 57 3 ?_
 refine run_loop (S := Nat × Option Addr × Nat) (fun s => [(3, .slice s.2.1 s.1 s.2.2), (7, .slice av (msK k).length cv), (8, .int .i64 (msK k).length), (9, .int .i64 s.1)])
   (fun s Γ => Γ = [SlA 57 3 s.2.1 s.1 s.2.2 ((((msK k).take s.1).map (·.1)).flatMap encMM)] ∧ s.1 ≤ (msK k).length) (fun s => (msK k).length - s.1) (0, none, 0)
   ⟨rfl, rfl, rfl, rfl, trivial⟩ ⟨rfl, Nat.zero_le _⟩ ?_
 rintro ⟨j, a, c⟩ Γ junk ⟨rfl, g1⟩
 dsimp only at g1 ⊢
 by_cases hj : j < (msK k).length
 · obtain ⟨x, hx⟩ : ∃ x, (msK k)[j]? = some x := ⟨_, List.getElem?_eq_getElem hj⟩
   obtain ⟨b, off, cc, T, fr, rfl, e2, e3, _⟩ := hbl.cells hx
   have hm := method_spec w0 x.1 (.func (.func x.2) #[] #[])
   refine zyr ?_
   repeat' (refine zap rfl ?_;refine zbg rfl rfl (by omega) ?_)
   all_goals refine zyn ?_
   refine zci rfl ?_
   refine zyr ?_
   repeat' (refine zap rfl ?_;first|refine zad rfl (fun hF Γ w h1 h2 => e2 hF Γ w (fun p hp => h1 p (by simp [hp])) h2) (e3 _ (by omega)) ?_|refine zae 1 rfl rfl rfl rfl rfl rfl rfl ?_|refine zas rfl rfl (by omega) ?_|refine zar (fun nb => ?_))
   all_goals refine zyn ?_
   refine zyr ?_
   repeat' first|(refine zap rfl ?_;first|refine zdt rfl rfl rfl rfl rfl rfl (fun nb9 => ?_)|refine zab 1 rfl rfl rfl ?_|refine zah [] hm rfl rfl rfl zdj rfl ?_|refine zdz 0 2 rfl rfl rfl rfl rfl rfl rfl rfl (by omega) (fun _ _ => rfl) (fun a5 c5 => ?_))|refine zp ?_|refine zyn ?_
   refine zec [0] rfl ?_
   repeat' first|refine zyq ?_|(refine zap rfl ?_;refine zau rfl rfl (by omega) ?_)|refine zp ?_|refine zch ?_
   refine zeq ⟨rfl, (j + 1, a5, c5), ⟨rfl, rfl, rfl, zes (by dsimp only; omega), trivial⟩, ⟨?_, by dsimp only; omega⟩, by dsimp only; omega⟩
   dsimp only
   rw [take_snoc hx, List.map_append, List.flatMap_append]
   rfl
 · repeat (first|refine zck ?_|refine zcl ?_|refine zcm ?_|refine zcn ?_)
   refine zyr ?_
   repeat' (refine zap rfl ?_;refine zbh rfl rfl (by omega) ?_)
   all_goals refine zyn ?_
   refine zcj rfl ?_
   refine zer rfl rfl ?_
   have hjl : j = (msK k).length := by omega
   subst hjl
   have hl : (ctMeths k).length = (msK k).length := by rw [← hrows, List.length_map]
   rw [hl]
   refine run_slR encMM 0 (l := ctMeths k) rfl (by rw [List.take_of_length_le (Nat.le_refl _), hrows]) (fun _ _ => rfl) hl rfl ?_
   repeat' first|refine zck ?_|refine zyq ?_|refine zp ?_|refine zch ?_
   exact zej rfl ⟨a, c, rfl, rfl⟩
set_option maxHeartbeats 4000000
section
variable {w0 : World} {n : Nat} {sh : Shared} {Q : Exit → Env → List Deferred → List Asn → Prop} {k : List Item} {ρ : Env} {df : List Deferred} {Γ : List Asn}
variable {ops : Array Oper} {l : List (Fl × Nat × Oper)} {bf : Fl} {i d : Nat} {ty : TypeId} {pos : String} {aft : Array Edge} {x y : Operand} {yt : TypeId} {m m' : ByteArray × Int × Bool}
end
section
variable {w0 : World} {n : Nat} {sh : Shared} {Q : Exit → Env → List Deferred → List Asn → Prop} {k : List Item} {ρ : Env} {df : List Deferred} {Γ : List Asn}
variable {ops : Array Oper} {l : List (Fl × Nat × Oper)} {bf : Fl} {i d : Nat} {ty : TypeId} {pos : String} {aft : Array Edge} {x y : Operand} {yt : TypeId} {m m' : ByteArray × Int × Bool}
end
end Go.Proofs.YtgdhcgnmffgkiaaGreatDoor
namespace Sim
open Go Go.Vc
end Sim
namespace Go.Proofs.YtgdhcgnmffgkiaaGreatDoor
open Go.Vc Sim
set_option maxHeartbeats 1600000
variable (w0 : World)
set_option maxRecDepth 20000
theorem mws_0 (r : Int) (hr : 8 ≤ r ∧ r ≤ 170) : ∀ (i : Nat) (m : ByteArray × Int × Bool), (ctMeths 0)[i]? = some m → MwOk w0 0 r m := by
 have e : ctMeths 0 = [(bs [103, 101, 116], 0, false), (bs [97, 100, 100], 1, true), (bs [115, 101, 116], 1, true)] := rfl
 intro i m hm
 rw [e] at hm
 match i, hm with
 | 0, hm => cases hm; exact mw_cGet w0 r hr
 | 1, hm => cases hm; exact mw_cAdd w0 r hr
 | 2, hm => cases hm; exact mw_cSet w0 r hr
 | i + 3, hm => cases hm
theorem mws_1 (r : Int) (hr : 8 ≤ r ∧ r ≤ 170) : ∀ (i : Nat) (m : ByteArray × Int × Bool), (ctMeths 1)[i]? = some m → MwOk w0 1 r m := by
 have e : ctMeths 1 = [(bs [112, 117, 115, 104], 1, true), (bs [112, 111, 112], 0, true), (bs [116, 111, 112], 0, false), (bs [108, 101, 110], 0, false)] := rfl
 intro i m hm
 rw [e] at hm
 match i, hm with
 | 0, hm => cases hm; exact mw_sPush w0 r hr
 | 1, hm => cases hm; exact mw_sPop w0 r hr
 | 2, hm => cases hm; exact mw_sTop w0 r hr
 | 3, hm => cases hm; exact mw_sLen w0 r hr
 | i + 4, hm => cases hm
theorem mws_2 (r : Int) (hr : 8 ≤ r ∧ r ≤ 170) : ∀ (i : Nat) (m : ByteArray × Int × Bool), (ctMeths 2)[i]? = some m → MwOk w0 2 r m := by
 have e : ctMeths 2 = [(bs [112, 117, 116], 1, true), (bs [116, 97, 107, 101], 0, true), (bs [102, 105, 114, 115, 116], 0, false), (bs [108, 101, 110], 0, false)] := rfl
 intro i m hm
 rw [e] at hm
 match i, hm with
 | 0, hm => cases hm; exact mw_qPut w0 r hr
 | 1, hm => cases hm; exact mw_qTake w0 r hr
 | 2, hm => cases hm; exact mw_qFirst w0 r hr
 | 3, hm => cases hm; exact mw_qLen w0 r hr
 | i + 4, hm => cases hm
theorem mws_3 (r : Int) (hr : 8 ≤ r ∧ r ≤ 170) : ∀ (i : Nat) (m : ByteArray × Int × Bool), (ctMeths 3)[i]? = some m → MwOk w0 3 r m := by
 have e : ctMeths 3 = [(bs [112, 117, 115, 104, 95, 108, 101, 102, 116], 1, true), (bs [112, 117, 115, 104, 95, 114, 105, 103, 104, 116], 1, true), (bs [112, 111, 112, 95, 108, 101, 102, 116], 0, true), (bs [112, 111, 112, 95, 114, 105, 103, 104, 116], 0, true), (bs [108, 101, 102, 116], 0, false), (bs [114, 105, 103, 104, 116], 0, false), (bs [108, 101, 110], 0, false)] := rfl
 intro i m hm
 rw [e] at hm
 match i, hm with
 | 0, hm => cases hm; exact mw_dPushL w0 r hr
 | 1, hm => cases hm; exact mw_dPushR w0 r hr
 | 2, hm => cases hm; exact mw_dPopL w0 r hr
 | 3, hm => cases hm; exact mw_dPopR w0 r hr
 | 4, hm => cases hm; exact mw_dLeft w0 r hr
 | 5, hm => cases hm; exact mw_dRight w0 r hr
 | 6, hm => cases hm; exact mw_dLen w0 r hr
 | i + 7, hm => cases hm
theorem mws_4 (r : Int) (hr : 8 ≤ r ∧ r ≤ 170) : ∀ (i : Nat) (m : ByteArray × Int × Bool), (ctMeths 4)[i]? = some m → MwOk w0 4 r m := by
 have e : ctMeths 4 = [(bs [112, 117, 116], 2, true), (bs [103, 101, 116], 1, false), (bs [104, 97, 115], 1, false), (bs [100, 114, 111, 112], 1, true), (bs [108, 101, 110], 0, false)] := rfl
 intro i m hm
 rw [e] at hm
 match i, hm with
 | 0, hm => cases hm; exact mw_mPut w0 r hr
 | 1, hm => cases hm; exact mw_mGet w0 r hr
 | 2, hm => cases hm; exact mw_mHas w0 r hr
 | 3, hm => cases hm; exact mw_mDrop w0 r hr
 | 4, hm => cases hm; exact mw_mLen w0 r hr
 | i + 5, hm => cases hm
theorem mws_5 (r : Int) (hr : 8 ≤ r ∧ r ≤ 170) : ∀ (i : Nat) (m : ByteArray × Int × Bool), (ctMeths 5)[i]? = some m → MwOk w0 5 r m := by
 have e : ctMeths 5 = [(bs [112, 117, 116], 2, true), (bs [103, 101, 116], 1, false), (bs [104, 97, 115], 1, false), (bs [100, 114, 111, 112], 1, true), (bs [115, 117, 109], 2, false), (bs [99, 111, 117, 110, 116], 2, false), (bs [110, 101, 120, 116], 1, false), (bs [110, 116, 104], 1, false), (bs [108, 101, 110], 0, false)] := rfl
 intro i m hm
 rw [e] at hm
 match i, hm with
 | 0, hm => cases hm; exact mw_tPut w0 r hr
 | 1, hm => cases hm; exact mw_tGet w0 r hr
 | 2, hm => cases hm; exact mw_tHas w0 r hr
 | 3, hm => cases hm; exact mw_tDrop w0 r hr
 | 4, hm => cases hm; exact mw_tSum w0 r hr
 | 5, hm => cases hm; exact mw_tCount w0 r hr
 | 6, hm => cases hm; exact mw_tNext w0 r hr
 | 7, hm => cases hm; exact mw_tNth w0 r hr
 | 8, hm => cases hm; exact mw_tLen w0 r hr
 | i + 9, hm => cases hm
theorem mws_6 (r : Int) (hr : 8 ≤ r ∧ r ≤ 170) : ∀ (i : Nat) (m : ByteArray × Int × Bool), (ctMeths 6)[i]? = some m → MwOk w0 6 r m := by
 have e : ctMeths 6 = [(bs [112, 117, 115, 104], 2, true), (bs [112, 111, 112], 0, true), (bs [109, 105, 110], 0, false), (bs [108, 101, 97, 115, 116], 0, false), (bs [108, 111, 119, 101, 114], 2, true), (bs [100, 114, 111, 112], 1, true), (bs [108, 101, 110], 0, false)] := rfl
 intro i m hm
 rw [e] at hm
 match i, hm with
 | 0, hm => cases hm; exact mw_hPush w0 r hr
 | 1, hm => cases hm; exact mw_hPop w0 r hr
 | 2, hm => cases hm; exact mw_hMin w0 r hr
 | 3, hm => cases hm; exact mw_hLeast w0 r hr
 | 4, hm => cases hm; exact mw_hLower w0 r hr
 | 5, hm => cases hm; exact mw_hDrop w0 r hr
 | 6, hm => cases hm; exact mw_hLen w0 r hr
 | i + 7, hm => cases hm
theorem mws_7 (hw : PowOk w0) (r : Int) (hr : 8 ≤ r ∧ r ≤ 170) : ∀ (i : Nat) (m : ByteArray × Int × Bool), (ctMeths 7)[i]? = some m → MwOk w0 7 r m := by
 have e : ctMeths 7 = [(bs [112, 117, 115, 104], 1, true), (bs [112, 111, 112], 0, true), (bs [103, 101, 116], 1, false), (bs [115, 101, 116], 2, true), (bs [115, 119, 97, 112], 2, true), (bs [108, 101, 110], 0, false)] := rfl
 intro i m hm
 rw [e] at hm
 match i, hm with
 | 0, hm => cases hm; exact mw_aPush w0 hw r hr
 | 1, hm => cases hm; exact mw_aPop w0 hw r hr
 | 2, hm => cases hm; exact mw_aGet w0 hw r hr
 | 3, hm => cases hm; exact mw_aSet w0 hw r hr
 | 4, hm => cases hm; exact mw_aSwap w0 hw r hr
 | 5, hm => cases hm; exact mw_aLen w0 r hr
 | i + 6, hm => cases hm
theorem mws_8 (r : Int) (hr : 8 ≤ r ∧ r ≤ 170) : ∀ (i : Nat) (m : ByteArray × Int × Bool), (ctMeths 8)[i]? = some m → MwOk w0 8 r m := by
 have e : ctMeths 8 = [(bs [97, 100, 100], 1, true), (bs [108, 105, 110, 107], 3, true), (bs [99, 117, 116], 1, true), (bs [100, 114, 111, 112], 1, true), (bs [119, 101, 105, 103, 104, 116], 2, false), (bs [108, 97, 98, 101, 108], 1, false), (bs [111, 117, 116, 115], 1, false), (bs [105, 110, 115], 1, false), (bs [118, 101, 114, 116, 105, 99, 101, 115], 0, false), (bs [101, 100, 103, 101, 115], 0, false)] := rfl
 intro i m hm
 rw [e] at hm
 match i, hm with
 | 0, hm => cases hm; exact mw_gAdd w0 r hr
 | 1, hm => cases hm; exact mw_gLink w0 r hr
 | 2, hm => cases hm; exact mw_gCut w0 r hr
 | 3, hm => cases hm; exact mw_gDrop w0 r hr
 | 4, hm => cases hm; exact mw_gWeight w0 r hr
 | 5, hm => cases hm; exact mw_gLabel w0 r hr
 | 6, hm => cases hm; exact mw_gOuts w0 r hr
 | 7, hm => cases hm; exact mw_gIns w0 r hr
 | 8, hm => cases hm; exact mw_gVerts w0 r hr
 | 9, hm => cases hm; exact mw_gEdges w0 r hr
 | i + 10, hm => cases hm
theorem mws_9 (r : Int) (hr : 8 ≤ r ∧ r ≤ 170) : ∀ (i : Nat) (m : ByteArray × Int × Bool), (ctMeths 9)[i]? = some m → MwOk w0 9 r m := by
 have e : ctMeths 9 = [(bs [109, 97, 107, 101], 0, true), (bs [102, 105, 110, 100], 1, false), (bs [117, 110, 105, 111, 110], 2, true), (bs [117, 110, 100, 111], 0, true), (bs [115, 97, 109, 101], 2, false), (bs [115, 105, 122, 101], 1, false), (bs [115, 101, 116, 115], 0, false)] := rfl
 intro i m hm
 rw [e] at hm
 match i, hm with
 | 0, hm => cases hm; exact mw_fMake w0 r hr
 | 1, hm => cases hm; exact mw_fFind w0 r hr
 | 2, hm => cases hm; exact mw_fUnion w0 r hr
 | 3, hm => cases hm; exact mw_fUndo w0 r hr
 | 4, hm => cases hm; exact mw_fSame w0 r hr
 | 5, hm => cases hm; exact mw_fSize w0 r hr
 | 6, hm => cases hm; exact mw_fSets w0 r hr
 | i + 7, hm => cases hm
theorem mws_all (hw : PowOk w0) (k : Int) (hk : 0 ≤ k ∧ k ≤ 9) (r : Int) (hr : 8 ≤ r ∧ r ≤ 170) : ∀ (i : Nat) (m : ByteArray × Int × Bool), (ctMeths k)[i]? = some m → MwOk w0 k r m := by
 rcases (by omega : k = 0 ∨ k = 1 ∨ k = 2 ∨ k = 3 ∨ k = 4 ∨ k = 5 ∨ k = 6 ∨ k = 7 ∨ k = 8 ∨ k = 9) with rfl | rfl | rfl | rfl | rfl | rfl | rfl | rfl | rfl | rfl
 · exact mws_0 w0 r hr
 · exact mws_1 w0 r hr
 · exact mws_2 w0 r hr
 · exact mws_3 w0 r hr
 · exact mws_4 w0 r hr
 · exact mws_5 w0 r hr
 · exact mws_6 w0 r hr
 · exact mws_7 w0 hw r hr
 · exact mws_8 w0 r hr
 · exact mws_9 w0 r hr
set_option maxHeartbeats 16000000
theorem awake_spec : FnE PP w0 [] 8 [] [] (.bool true) [] := by
 have hpl := zez w0
 have r2 := root_spec w0 2 false (by decide)
 have r4 := root_spec w0 4 false (by decide)
 refine zep en8 fn8 rfl rfl rfl ?_
 refine zyr ?_
 repeat' refine zp ?_
 all_goals refine zyn ?_
 refine zyr ?_
 repeat' first|(refine zap rfl ?_; (refine zai [] (empty_spec w0) rfl rfl rfl zdj ?_; rintro v Γ ⟨p, s0, rfl, rfl, h0⟩))|refine zp ?_|refine zyn ?_
 refine zyr ?_
 repeat' (refine zap rfl ?_;first|refine zar (fun t3 => ?_)|refine zah [] r2 rfl rfl rfl zdj rfl ?_|refine zah [] r4 rfl rfl rfl zdj rfl ?_|refine zae 1 rfl rfl rfl rfl rfl rfl rfl ?_|refine zae 2 rfl rfl rfl rfl rfl rfl rfl ?_)
 all_goals refine zyn ?_
 refine zeb [1] rfl ?_
 refine zeb [1] rfl ?_
 repeat (first|refine zck ?_|refine zcl ?_|refine zcm ?_|refine zcn ?_|refine zco ?_)
 refine zyx ?_
 first|refine zcp (by kernel_rfl) ?_|refine zcr [(.quiet, 0), (.loud, 1), (.quiet, 2), (.loud, 3), (.loud, 4), (.quiet, 5), (.quiet, 6), (.quiet, 7), (.quiet, 8), (.quiet, 9)] PP_mixed (by kernel_rfl) (by kernel_rfl) ?_|refine zeh PP_mixed (by kernel_rfl) (by kernel_rfl) ?_
 repeat' first|(refine zap rfl ?_;first|refine zdt rfl rfl rfl rfl rfl rfl (fun nb => ?_)|refine zah [] hpl rfl rfl rfl zdj rfl ?_|(refine zai [1, 0] (aw0_spec w0 p _ s0 h0) rfl rfl rfl zdj ?_; rintro v Γ ⟨rfl, s1, rfl, h1⟩))|refine zp ?_|refine zyl 1 rfl ?_|refine zyn ?_
 refine zec [0] rfl ?_
 repeat (first|refine zck ?_|refine zcl ?_|refine zcm ?_|refine zcn ?_|refine zco ?_)
 refine zyx ?_
 first|refine zcp (by kernel_rfl) ?_|refine zcr [(.quiet, 0), (.loud, 1), (.quiet, 2), (.loud, 3), (.loud, 4), (.quiet, 5), (.quiet, 6), (.quiet, 7), (.quiet, 8), (.quiet, 9)] PP_mixed (by kernel_rfl) (by kernel_rfl) ?_|refine zeh PP_mixed (by kernel_rfl) (by kernel_rfl) ?_
 repeat' first|(refine zap rfl ?_;first|refine zdt rfl rfl rfl rfl rfl rfl (fun nb => ?_)|refine zah [] hpl rfl rfl rfl zdj rfl ?_|(refine zai [1, 0] (aw1_spec w0 p _ s1 h1) rfl rfl rfl zdj ?_; rintro v Γ ⟨rfl, s2, rfl, h2⟩))|refine zp ?_|refine zyl 1 rfl ?_|refine zyn ?_
 refine zec [0] rfl ?_
 repeat (first|refine zck ?_|refine zcl ?_|refine zcm ?_|refine zcn ?_|refine zco ?_)
 refine zyx ?_
 first|refine zcp (by kernel_rfl) ?_|refine zcr [(.quiet, 0), (.loud, 1), (.quiet, 2), (.loud, 3), (.quiet, 4), (.quiet, 5), (.quiet, 6), (.quiet, 7), (.quiet, 8)] PP_mixed (by kernel_rfl) (by kernel_rfl) ?_|refine zeh PP_mixed (by kernel_rfl) (by kernel_rfl) ?_
 repeat' first|(refine zap rfl ?_;first|refine zah [] hpl rfl rfl rfl zdj rfl ?_|(refine zai [0] (aw2_spec w0 p s2 h2) rfl rfl rfl zdj ?_; rintro v Γ ⟨rfl, s3, rfl, h3⟩))|refine zp ?_|refine zyl 1 rfl ?_|refine zyn ?_
 first|refine zcp (by kernel_rfl) ?_|refine zcr [(.quiet, 0), (.loud, 1), (.quiet, 2), (.loud, 3), (.quiet, 4), (.quiet, 5), (.quiet, 6), (.quiet, 7), (.quiet, 8)] PP_mixed (by kernel_rfl) (by kernel_rfl) ?_|refine zeh PP_mixed (by kernel_rfl) (by kernel_rfl) ?_
 repeat' first|(refine zap rfl ?_;first|refine zah [] hpl rfl rfl rfl zdj rfl ?_|(refine zai [0] (aw3_spec w0 p s3 h3) rfl rfl rfl zdj ?_; rintro v Γ ⟨rfl, s4, rfl, h4⟩))|refine zp ?_|refine zyl 1 rfl ?_|refine zyn ?_
 first|refine zcp (by kernel_rfl) ?_|refine zcr [(.quiet, 0), (.loud, 1), (.quiet, 2), (.loud, 3), (.quiet, 4), (.quiet, 5), (.quiet, 6), (.quiet, 7), (.quiet, 8)] PP_mixed (by kernel_rfl) (by kernel_rfl) ?_|refine zeh PP_mixed (by kernel_rfl) (by kernel_rfl) ?_
 repeat' first|(refine zap rfl ?_;first|refine zah [] hpl rfl rfl rfl zdj rfl ?_|(refine zai [0] (aw4_spec w0 p s4 h4) rfl rfl rfl zdj ?_; rintro v Γ ⟨rfl, s5, rfl, h5⟩))|refine zp ?_|refine zyl 1 rfl ?_|refine zyn ?_
 first|refine zcp (by kernel_rfl) ?_|refine zcr [(.quiet, 0), (.loud, 1), (.quiet, 2), (.loud, 3), (.loud, 4), (.quiet, 5), (.quiet, 6), (.quiet, 7), (.quiet, 8), (.quiet, 9)] PP_mixed (by kernel_rfl) (by kernel_rfl) ?_|refine zeh PP_mixed (by kernel_rfl) (by kernel_rfl) ?_
 repeat' first|(refine zap rfl ?_;first|refine zdt rfl rfl rfl rfl rfl rfl (fun nb => ?_)|refine zah [] hpl rfl rfl rfl zdj rfl ?_|(refine zai [1, 0] (aw5_spec w0 p _ s5 h5) rfl rfl rfl zdj ?_; rintro v Γ ⟨rfl, s6, rfl, h6⟩))|refine zp ?_|refine zyl 0 rfl ?_|refine zyn ?_
 refine zec [0] rfl ?_
 repeat (first|refine zck ?_|refine zcl ?_|refine zcm ?_|refine zcn ?_|refine zco ?_)
 refine zyx ?_
 first|refine zcp (by kernel_rfl) ?_|refine zcr [(.quiet, 0), (.loud, 1), (.quiet, 2), (.loud, 3), (.loud, 4), (.quiet, 5), (.quiet, 6), (.quiet, 7), (.quiet, 8), (.quiet, 9)] PP_mixed (by kernel_rfl) (by kernel_rfl) ?_|refine zeh PP_mixed (by kernel_rfl) (by kernel_rfl) ?_
 repeat' first|(refine zap rfl ?_;first|refine zdt rfl rfl rfl rfl rfl rfl (fun nb => ?_)|refine zah [] hpl rfl rfl rfl zdj rfl ?_|(refine zai [1, 0] (aw6_spec w0 p _ s6 h6) rfl rfl rfl zdj ?_; rintro v Γ ⟨rfl, s7, rfl, h7⟩))|refine zp ?_|refine zyl 0 rfl ?_|refine zyn ?_
 refine zec [0] rfl ?_
 repeat (first|refine zck ?_|refine zcl ?_|refine zcm ?_|refine zcn ?_|refine zco ?_)
 refine zyx ?_
 first|refine zcp (by kernel_rfl) ?_|refine zcr [(.quiet, 0), (.loud, 1), (.quiet, 2), (.loud, 3), (.loud, 4), (.quiet, 5), (.quiet, 6), (.quiet, 7), (.quiet, 8), (.quiet, 9)] PP_mixed (by kernel_rfl) (by kernel_rfl) ?_|refine zeh PP_mixed (by kernel_rfl) (by kernel_rfl) ?_
 repeat' first|(refine zap rfl ?_;first|refine zdt rfl rfl rfl rfl rfl rfl (fun nb => ?_)|refine zah [] hpl rfl rfl rfl zdj rfl ?_|(refine zai [1, 0] (aw7_spec w0 p _ s7 h7) rfl rfl rfl zdj ?_; rintro v Γ ⟨rfl, s8, rfl, h8⟩))|refine zp ?_|refine zyl 0 rfl ?_|refine zyn ?_
 refine zec [] rfl ?_
 repeat (first|refine zck ?_|refine zcl ?_|refine zcm ?_|refine zcn ?_|refine zco ?_)
 refine run_slots [(4, .int .i64 0), (5, .int .i64 0), (6, .int .i64 0), (7, .int .i64 0), (8, .int .i64 5), (9, .int .i64 0), (10, .int .i64 1), (11, .int .i64 0), (12, .int .i64 6), (13, .int .i64 0), (14, .int .i64 0), (15, .int .i64 0), (16, .int .i64 1), (17, .int .i64 0), (18, .int .i64 0), (19, .int .i64 10)] ⟨rfl, rfl, rfl, rfl, rfl, rfl, rfl, rfl, rfl, rfl, rfl, rfl, rfl, rfl, rfl, rfl, trivial⟩ (fun junk => ?_)
 repeat' first|refine zyq ?_|(refine zap rfl ?_;first|refine zaj rfl ?_|refine zbc rfl rfl (by omega) ?_|refine zbu rfl ?_)|refine zp ?_|refine zch ?_
 exact zej rfl ⟨rfl, rfl⟩
end Go.Proofs.YtgdhcgnmffgkiaaGreatDoor
namespace Sim
open Go Go.Vc
def argL (A B C fr : Int) (told : List Int) : List Int :=
 if 0 ≤ fr ∧ 0 < told.length then [told.getD (fr % told.length).toNat 0, B, C] else [A, B, C]
end Sim
namespace Go.Proofs.YtgdhcgnmffgkiaaGreatDoor
open Go.Vc Sim
set_option maxHeartbeats 4000000
variable (w0 : World)
abbrev callV (kd me : Int) (two : Bool) (A B C fr : Int) : Value := .agg (List.toArray [.int .u8 kd, .int .u8 me, .bool two, .int .i64 A, .int .i64 B, .int .i64 C, .int .i16 fr])
theorem args_spec (sh : Shared) (kd me : Int) (two : Bool) (A B C fr : Int) (hfr : -32768 ≤ fr ∧ fr ≤ 32767) (n : Nat) (hn : n ≤ 3) (told : List Int) (a : Option Addr) (c : Nat) (ht : told.length ≤ 1000) (hl : RdSl w0 sh encI 1 (.slice a told.length c) told) :
   Vc.Fn PP w0 sh 12 [callV kd me two A B C fr, .int .i64 n, .slice a told.length c] []
     (fun v Γ => ∃ nb, v = .slice (some ⟨nb, 0, none⟩) n 3 ∧ Γ = [pt nb (.cells (List.toArray ((argL A B C fr told).flatMap encI)) 2 (0, 0))]) := by
 by_cases hf : 0 ≤ fr
 · by_cases h0 : 0 < told.length
   · obtain ⟨j, hj⟩ : ∃ j : Nat, fr.tmod (told.length : Int) = (j : Int) := ⟨(fr.tmod (told.length : Int)).toNat, by rw [Int.tmod_eq_emod_of_nonneg hf]; have := Int.emod_nonneg fr (show (told.length : Int) ≠ 0 by omega); omega⟩
     have hj2 : j < told.length := by rw [Int.tmod_eq_emod_of_nonneg hf] at hj; have := Int.emod_lt_of_pos fr (show (0 : Int) < told.length by omega); omega
     obtain ⟨x, hx⟩ : ∃ x, told[j]? = some x := ⟨_, List.getElem?_eq_getElem hj2⟩
     have hA : argL A B C fr told = [x, B, C] := by
       unfold argL
       rw [if_pos ⟨hf, h0⟩]
       rw [Int.tmod_eq_emod_of_nonneg hf] at hj
       rw [hj, Int.toNat_natCast, List.getD_eq_getElem?_getD, hx]
       rfl
     rw [hA]
     obtain ⟨bl, off, cc, T, frr, rfl, e2, _, e4⟩ := hl.cells hx
     refine zep en12 fn12 rfl rfl rfl ?_
     refine zyr ?_
     repeat' first|(refine zap rfl ?_;refine zaq (cs := [_, _, _, _, _, _, _]) rfl (fun tb => ?_))|refine zp ?_|refine zyn ?_
     refine zeb [0] rfl ?_
     refine zyr ?_
     repeat' first|(refine zap rfl ?_;refine zdt rfl rfl rfl rfl rfl rfl (fun nb => ?_))|refine zp ?_|refine zyl 0 rfl ?_|refine zyf rfl ?_|refine zyn ?_
     repeat' first|refine zck ?_|refine zyq ?_|(refine zap rfl ?_;first|refine zbz rfl (by omega) ?_|refine reg_remE rfl rfl (by omega) hj ?_|refine zad rfl (zyt e2) (e4 0 _ rfl _ (by omega)) ?_|refine reg_slice2 rfl rfl (by omega) ?_|refine zaj rfl ?_|refine zce rfl ?_|refine zbk rfl rfl (by omega) ?_|refine zbm rfl rfl (by omega) ?_|refine zbu rfl ?_|refine zae 0 rfl rfl rfl rfl rfl rfl rfl ?_|refine zas rfl rfl (by omega) ?_)|refine zp ?_|refine zyl 0 rfl ?_|refine zyf rfl ?_|refine zch ?_|refine zci rfl ?_
     exact zej rfl ⟨nb, rfl, rfl⟩
   · have hA : argL A B C fr told = [A, B, C] := by
       unfold argL
       rw [if_neg (fun h => h0 h.2)]
     rw [hA]
     refine zep en12 fn12 rfl rfl rfl ?_
     refine zyr ?_
     repeat' first|(refine zap rfl ?_;refine zaq (cs := [_, _, _, _, _, _, _]) rfl (fun tb => ?_))|refine zp ?_|refine zyn ?_
     refine zeb [0] rfl ?_
     refine zyr ?_
     repeat' first|(refine zap rfl ?_;refine zdt rfl rfl rfl rfl rfl rfl (fun nb => ?_))|refine zp ?_|refine zyl 0 rfl ?_|refine zyf rfl ?_|refine zyn ?_
     repeat' first|refine zck ?_|refine zcm ?_|refine zyq ?_|(refine zap rfl ?_;first|refine reg_slice2 rfl rfl (by omega) ?_|refine zaj rfl ?_|refine zce rfl ?_|refine zbl rfl rfl (by omega) ?_|refine zbm rfl rfl (by omega) ?_|refine zbu rfl ?_)|refine zp ?_|refine zyl 0 rfl ?_|refine zyf rfl ?_|refine zch ?_|refine zcj rfl ?_
     exact zej rfl ⟨nb, rfl, rfl⟩
 · have hA : argL A B C fr told = [A, B, C] := by
     unfold argL
     rw [if_neg (fun h => hf h.1)]
   rw [hA]
   refine zep en12 fn12 rfl rfl rfl ?_
   refine zyr ?_
   repeat' first|(refine zap rfl ?_;refine zaq (cs := [_, _, _, _, _, _, _]) rfl (fun tb => ?_))|refine zp ?_|refine zyn ?_
   refine zeb [0] rfl ?_
   refine zyr ?_
   repeat' first|(refine zap rfl ?_;refine zdt rfl rfl rfl rfl rfl rfl (fun nb => ?_))|refine zp ?_|refine zyl 0 rfl ?_|refine zyf rfl ?_|refine zyn ?_
   repeat' first|refine zck ?_|refine zcm ?_|refine zyq ?_|(refine zap rfl ?_;first|refine reg_slice2 rfl rfl (by omega) ?_|refine zak rfl ?_|refine zbn rfl rfl (by omega) ?_|refine zbv rfl ?_)|refine zp ?_|refine zyl 0 rfl ?_|refine zyf rfl ?_|refine zch ?_|refine zcj rfl ?_
   exact zej rfl ⟨nb, rfl, rfl⟩
end Go.Proofs.YtgdhcgnmffgkiaaGreatDoor
namespace Sim
open Go Go.Vc
theorem ctMeths_pos : ∀ k : Nat, k < 10 → 0 < (ctMeths (k : Int)).length := by decide +kernel
end Sim
namespace Go.Vc
section
variable {P : Program} {w0 : World} {n : Nat} {sh : Shared} {Q : Exit → Env → List Deferred → List Asn → Prop} {k : List Item} {ρ : Env} {df : List Deferred} {Γ : List Asn}
variable {ops : Array Oper} {l : List (Fl × Nat × Oper)} {b : Fl} {i d : Nat} {ty t yt : TypeId} {pos : String} {aft : Array Edge} {x y : Operand}
end
end Go.Vc
namespace Go.Proofs.YtgdhcgnmffgkiaaGreatDoor
open Go.Vc Sim
set_option maxHeartbeats 4000000
end Go.Proofs.YtgdhcgnmffgkiaaGreatDoor
namespace Sim
open Go Go.Vc
theorem lv_eqv {s t : Sp} (h : Eqv s t) (ht : Lv t) : Lv s :=
 ⟨fun he a h0 h1 => by rw [h.kn a]; exact ht.all (by rw [← h.ended]; exact he) a h0 h1, fun a => by rw [h.value a]; exact ht.rng a⟩
theorem lv_awS : Lv awS := by
 have hk : ∀ a, lookW awS.kn a = if (0 : Int) ≤ a ∧ a < 440 then some ⟨0, 0, 0⟩ else none := fun a => by
   show lookW (wk 0 (List.replicate 440 0)) a = _
   rw [lookW_wk, List.length_replicate]
   by_cases h : (0 : Int) ≤ a ∧ a < 440
   · rw [if_pos h, if_pos (by omega), List.getElem?_replicate, if_pos (by omega)]
     rfl
   · rw [if_neg h, if_neg (by omega)]
 refine ⟨fun _ a h0 h1 => ⟨⟨0, 0, 0⟩, by rw [hk, if_pos ⟨h0, h1⟩]⟩, fun a => ?_⟩
 have e : (awS.value a).1 = 0 := by
   unfold Sp.value
   show (match lookW awS.kn a with | some w => w.val | none => 0) = 0
   rw [hk]
   split <;> rename_i h
   · split at h <;> cases h; rfl
   · rfl
 rw [e]; unfold I64; omega
theorem argL_i64 {A B C fr : Int} {told : List Int} (hA : I64 A) (hB : I64 B) (hC : I64 C) (ht : ∀ x ∈ told, I64 x) : ∀ x ∈ argL A B C fr told, I64 x := by
 intro x hx
 unfold argL at hx
 split at hx
 · rename_i h
   simp only [List.mem_cons, List.not_mem_nil, or_false] at hx
   rcases hx with rfl | rfl | rfl
   · rw [List.getD_eq_getElem?_getD]
     cases hg : told[(fr % told.length).toNat]? with
     | none => show I64 0; unfold I64; omega
     | some y => exact ht y (List.mem_of_getElem? hg)
   · exact hB
   · exact hC
 · simp only [List.mem_cons, List.not_mem_nil, or_false] at hx
   rcases hx with rfl | rfl | rfl
   · exact hA
   · exact hB
   · exact hC
theorem getD_i64 {l : List Int} (h : ∀ x ∈ l, I64 x) (k : Nat) : I64 (l.getD k 0) := by
 rw [List.getD_eq_getElem?_getD]
 cases hg : l[k]? with
 | none => show I64 0; unfold I64; omega
 | some y => exact h y (List.mem_of_getElem? hg)
structure CallY where
 kd : Int
 me : Int
 two : Bool
 A : Int
 B : Int
 C : Int
 fr : Int
def encCy (x : CallY) : List Value := [.int .u8 x.kd, .int .u8 x.me, .bool x.two, .int .i64 x.A, .int .i64 x.B, .int .i64 x.C, .int .i16 x.fr]
def CallY.Ok (x : CallY) : Prop := (0 ≤ x.kd ∧ x.kd ≤ 255) ∧ (0 ≤ x.me ∧ x.me ≤ 255) ∧ (-32768 ≤ x.fr ∧ x.fr ≤ 32767) ∧ I64 x.A ∧ I64 x.B ∧ I64 x.C
theorem rootA_bdW {k : Int} (h : 0 ≤ k ∧ k ≤ 9) (b : Bool) : 8 ≤ rootA k b ∧ rootA k b ≤ 170 := by
 cases b with
 | false => exact ⟨by show (8 : Int) ≤ 8 + 8 * k; omega, by show 8 + 8 * k ≤ 170; omega⟩
 | true => exact ⟨by show (8 : Int) ≤ 8 + 8 * k + 80; omega, by show 8 + 8 * k + 80 ≤ 170; omega⟩
theorem argL_lenW (A B C fr : Int) (told : List Int) : (argL A B C fr told).length = 3 := by unfold argL; split <;> rfl
end Sim
namespace Go.Proofs.YtgdhcgnmffgkiaaGreatDoor
variable (w0 : World)
open Go.Vc Sim
set_option maxHeartbeats 4000000
set_option maxRecDepth 20000
theorem ct_argsW : ∀ k : Nat, k < 10 → (ctMeths (k : Int)).all (fun m => decide (0 ≤ m.2.1) && decide (m.2.1 ≤ 3)) = true := by decide +kernel
theorem reg_min3 {P : Program} {w0 : World} {n : Nat} {sh : Shared} {Q : Exit → Env → List Deferred → List Asn → Prop} {k : List Item} {ρ : Env} {df : List Deferred} {Γ : List Asn} {ops : Array Oper} {l : List (Fl × Nat × Oper)} {b : Fl} {i d : Nat} {ty : TypeId} {pos : String} {aft : Array Edge} {x y : Operand} {kd : IntKind}
   {u v : Int} {ats : Array TypeId} (hx : ev ρ x = .int kd u) (hy : ev ρ y = .int kd v) (hle : u ≤ v) (h : Reg P w0 n sh Q ops l k (ρ.set d (.int kd u)) df Γ) :
   Reg P w0 n sh Q ops ((b, i, ⟨some d, .call ⟨.builtin .min, #[x, y], ats⟩, ty, pos, aft, none⟩) :: l) k ρ df Γ := zcg hx hy (by rw [if_neg (by omega)]; exact h)
theorem behind_spec (hw : PowOk w0) (sh : Shared) (l : List CallY) (a : Option Addr) (c : Nat) (hl : RdSl w0 sh encCy 7 (.slice a l.length c) l) (hok : ∀ x ∈ l, x.Ok) (h40 : l.length ≤ 40) :
   Vc.Fn PP w0 sh 20 [.slice a l.length c] [] (fun v Γ => ∃ (p : Nat) (s : Sp) (told : List Int) (a2 : Option Addr) (c2 : Nat), v = .tuple #[spP p, .slice a2 told.length c2] ∧ Γ = [SpaceA p s, SlA 2 1 a2 told.length c2 (told.flatMap encI)] ∧ Lv s ∧ (∀ x ∈ told, I64 x) ∧ s.puts.length ≤ 1200000 ∧ told.length ≤ 40) := by
 refine zep en20 fn20 rfl rfl rfl ?_
 refine zyr ?_
 repeat' refine zp ?_
 all_goals refine zyn ?_
 refine zyr ?_
 repeat' first|(refine zap rfl ?_;refine zai [] (empty_spec w0) rfl rfl rfl zdj (fun | _, _, ⟨p, s0, rfl, rfl, hs0⟩ => ?_))|refine zp ?_|refine zyn ?_
 have hp0 : s0.puts = [] := hs0.puts
 refine zyr ?_
 repeat' refine zp ?_
 all_goals refine zyn ?_
 refine zyr ?_
 repeat' refine zp ?_
 all_goals refine zyn ?_
 refine run_nilslice 2 1 ?_
 refine zec [0, 0] rfl ?_
 refine run_loop (S := Nat × Sp × List Int × Option Addr × Nat) (fun st => [(0, .slice a l.length c), (4, spP p), (5, .slice st.2.2.2.1 st.2.2.1.length st.2.2.2.2), (6, .int .i64 (st.1 : Int))])
   (fun st Γ => Γ = [SpaceA p st.2.1, SlA 2 1 st.2.2.2.1 st.2.2.1.length st.2.2.2.2 (st.2.2.1.flatMap encI)] ∧ st.1 ≤ l.length ∧ Lv st.2.1 ∧ st.2.1.puts.length ≤ st.1 * 30000 ∧ st.2.2.1.length ≤ st.1 ∧ ∀ x ∈ st.2.2.1, I64 x) (fun st => l.length - st.1)
   (0, s0, [], none, 0) ⟨rfl, rfl, rfl, rfl, trivial⟩ ⟨rfl, Nat.zero_le _, lv_eqv hs0 lv_awS, by rw [hp0]; exact Nat.zero_le _, Nat.le_refl _, fun x hx => (by cases hx)⟩ ?_
 rintro ⟨i, s, told, a2, c2⟩ Γ junk ⟨rfl, hi, he, hp, ht, hto⟩
 dsimp only at hi he hp ht hto ⊢
 by_cases hlt : i < l.length
 · obtain ⟨X, hX⟩ : ∃ X, l[i]? = some X := ⟨_, List.getElem?_eq_getElem hlt⟩
   obtain ⟨⟨hk0, hk1⟩, ⟨hm0, hm1⟩, ⟨hf0, hf1⟩, hXA, hXB, hXC⟩ := hok X (List.mem_of_getElem? hX)
   obtain ⟨b, off, cc, T, fr, rfl, e2, e3, e4⟩ := hl.cells hX
   obtain ⟨k, hk⟩ : ∃ k : Nat, X.kd.tmod 10 = (k : Int) := ⟨(X.kd.tmod 10).toNat, by rw [Int.tmod_eq_emod_of_nonneg hk0]; omega⟩
   have hk10 : k < 10 := by rw [Int.tmod_eq_emod_of_nonneg hk0] at hk; omega
   have hpos := ctMeths_pos k hk10
   have hmr := methodsX_spec w0 (k : Int)
   have hro := root_spec w0 (k : Int) X.two (by omega)
   have hpl := zez w0
   refine zyr ?_
   repeat' first|(refine zap rfl ?_;first|refine zce rfl ?_|refine zbg rfl rfl (by omega) ?_)|refine zp ?_|refine zyn ?_
   refine zci rfl ?_
   repeat (first|refine zck ?_|refine zcl ?_|refine zcm ?_|refine zcn ?_|refine zco ?_)
   refine zyr ?_
   repeat' first|(refine zap rfl ?_;first|refine zad rfl e2 (e4 0 _ rfl _ (by omega)) ?_|refine reg_remE rfl rfl (by decide) hk ?_|refine zbz rfl (by omega) ?_|refine zas rfl rfl (by omega) ?_)|refine zp ?_|refine zyf rfl ?_|refine zyn ?_
   refine zyr ?_
   repeat' first|(refine zap rfl ?_;refine zai [] hmr rfl rfl rfl zdj (fun | _, _, ⟨am, cm, rfl, rfl⟩ => ?_))|refine zp ?_|refine zyn ?_
   refine zeu [0] rfl ?_
   intro sh' bl hs1 hs2 hR0
   have hR0 := hR0.mono hs2
   have e2' := fun hF Γ w (h1 : Sh sh' hF) h2 => e2 hF Γ w (fun p hp => h1 p (hs1 p hp)) h2
   have hlen : (ctMeths (k : Int)).length ≤ 10 := by
     have h := msK_len (k : Int)
     rw [← msK_rows (k : Int), List.length_map]
     exact h
   generalize hL : (ctMeths (k : Int)).length = L at hpos hlen hR0
   obtain ⟨j, hj⟩ : ∃ j : Nat, X.me.tmod (L : Int) = (j : Int) := ⟨(X.me.tmod (L : Int)).toNat, by rw [Int.tmod_eq_emod_of_nonneg hm0]; have := Int.emod_nonneg X.me (show (L : Int) ≠ 0 by omega); omega⟩
   have hjL : j < L := by rw [Int.tmod_eq_emod_of_nonneg hm0] at hj; have := Int.emod_lt_of_pos X.me (show (0 : Int) < L by omega); omega
   obtain ⟨m, hm⟩ : ∃ m, (ctMeths (k : Int))[j]? = some m := ⟨_, List.getElem?_eq_getElem (by omega)⟩
   obtain ⟨b', off', cc', T', fr', rfl, g2, g3, _⟩ := hR0.cells hm
   obtain ⟨st, hst⟩ := mws_all w0 hw (k : Int) (by omega) (rootA (k : Int) X.two) (rootA_bdW (by omega) X.two) j m hm
   have hna : 0 ≤ m.2.1 ∧ m.2.1 ≤ 3 := by
     have h := List.all_eq_true.1 (ct_argsW k hk10) m (List.mem_of_getElem? hm)
     rw [Bool.and_eq_true, decide_eq_true_eq, decide_eq_true_eq] at h
     exact h
   obtain ⟨mn, ma, mw⟩ := m
   dsimp only at hna
   obtain ⟨n, rfl⟩ : ∃ n : Nat, ma = (n : Int) := ⟨ma.toNat, by omega⟩
   repeat (first|refine zck ?_|refine zcl ?_|refine zcm ?_|refine zcn ?_|refine zco ?_)
   refine zyr ?_
   repeat' first|(refine zap rfl ?_;first|refine zce rfl ?_|refine zbd rfl rfl (by omega) ?_)|refine zp ?_|refine zyn ?_
   refine zcj rfl ?_
   repeat (first|refine zck ?_|refine zcl ?_|refine zcm ?_|refine zcn ?_|refine zco ?_)
   refine zyr ?_
   repeat' first|(refine zap rfl ?_;first|refine zad rfl e2' (e4 1 _ rfl _ (by omega)) ?_|refine zad rfl g2 (g3 _ (by omega)) ?_|refine reg_remE rfl rfl (by omega) hj ?_|refine zbz rfl (by omega) ?_|refine zar (fun t9 => ?_)|refine zce rfl ?_|refine zae 2 rfl rfl rfl rfl rfl rfl rfl ?_|refine zas rfl rfl (by omega) ?_)|refine zp ?_|refine zyf rfl ?_|refine zyn ?_
   refine zef 2 (pt t9 (.cells (List.toArray [.string mn, .int .i64 (n : Int), .bool mw]) 57 (0, 0))) rfl (fun g hg => hg) rfl ?_
   refine zeb [2] rfl ?_
   repeat (first|refine zck ?_|refine zcl ?_|refine zcm ?_|refine zcn ?_|refine zco ?_)
   have hA := Fn.lendSl (P := PP) (w0 := w0) (sh := []) (Γ := []) (q := 1) (T := 2) (a := a2) (len := told.length) (cap := c2) (l := told) encI en12 (fun _ _ => rfl) rfl (fun sh1 _ h => args_spec w0 sh1 X.kd X.me X.two X.A X.B X.C X.fr ⟨hf0, hf1⟩ n (by omega) told a2 c2 (by omega) h)
   have hs : Few s := by unfold Few; omega
   have hAL : ((argL X.A X.B X.C X.fr told).take n).length = n := by rw [List.length_take, argL_lenW]; omega
   have hcat : ∀ nb : Nat, _ := fun nb => by
     have hRa : RdSl w0 [(nb, .cells (List.toArray ((argL X.A X.B X.C X.fr told).flatMap encI)) 2 (0, 0))] encI 1 (.slice (some ⟨nb, 0, none⟩) n 3) ((argL X.A X.B X.C X.fr told).take n) := by
       have h := intRd w0 nb (argL X.A X.B X.C X.fr told)
       have h2 := RdSl.pre (q := n) h (by rw [argL_lenW]; omega)
       rw [argL_lenW] at h2
       exact h2
     have h := hst.cat [(nb, .cells (List.toArray ((argL X.A X.B X.C X.fr told).flatMap encI)) 2 (0, 0))] p s ((argL X.A X.B X.C X.fr told).take n) (some ⟨nb, 0, none⟩) 3 hs (by rw [hAL]) (by rw [hAL]; exact hRa)
     rw [hAL] at h
     exact Vc.Fn.owned h
   have hALi : ∀ x ∈ (argL X.A X.B X.C X.fr told).take n, I64 x := fun x hx => argL_i64 hXA hXB hXC hto x (List.mem_of_mem_take hx)
   have hw2 := hst.wr _ _ _ s (getD_i64 hALi 0) (getD_i64 hALi 1) (getD_i64 hALi 2) he
   have hln := hst.len (((argL X.A X.B X.C X.fr told).take n).getD 0 0) (((argL X.A X.B X.C X.fr told).take n).getD 1 0) (((argL X.A X.B X.C X.fr told).take n).getD 2 0) s hs
   generalize st (((argL X.A X.B X.C X.fr told).take n).getD 0 0) (((argL X.A X.B X.C X.fr told).take n).getD 1 0) (((argL X.A X.B X.C X.fr told).take n).getD 2 0) s = R at hcat hw2 hln
   obtain ⟨⟨v, e⟩, s'⟩ := R
   dsimp only at hcat hw2 hln
   refine zyx ?_
   first|refine zcp (by kernel_rfl) ?_|refine zcr [(.quiet, 0), (.loud, 1), (.quiet, 2), (.quiet, 3), (.quiet, 4), (.quiet, 5), (.quiet, 6), (.quiet, 7), (.loud, 8), (.quiet, 9), (.quiet, 10), (.quiet, 11), (.quiet, 12), (.quiet, 13), (.quiet, 14), (.quiet, 15), (.quiet, 16), (.quiet, 17), (.quiet, 18), (.loud, 19), (.loud, 20), (.quiet, 21), (.quiet, 22), (.quiet, 23), (.quiet, 24), (.quiet, 25)] PP_mixed (by kernel_rfl) (by kernel_rfl) ?_|refine zeh PP_mixed (by kernel_rfl) (by kernel_rfl) ?_
   repeat' first|(refine zap rfl ?_;first|refine zad rfl (zyt e2') (e4 2 _ rfl _ (by omega)) ?_|refine zad rfl (zyt e2') (e3 _ (by omega)) ?_|refine zah [] hpl rfl rfl rfl zdj rfl ?_|refine zah [] hro rfl rfl rfl zdj rfl ?_|refine reg_min3 rfl rfl (by omega) ?_|refine zai [1] hA rfl rfl rfl zdj (fun | _, _, ⟨_, ⟨nb, rfl, rfl⟩, rfl⟩ => ?_)|refine zai [0, 1] (hcat nb) rfl rfl rfl zdj (fun | _, _, ⟨_, ⟨rfl, rfl⟩, rfl⟩ => ?_)|refine zas rfl rfl (by omega) ?_)|refine zp ?_|refine zyl 0 rfl ?_|refine zyf rfl ?_|refine zyn ?_
   repeat (first|refine zck ?_|refine zcl ?_|refine zcm ?_|refine zcn ?_|refine zco ?_)
   by_cases hz : e = 0
   · repeat (first|refine zck ?_|refine zcl ?_|refine zcm ?_|refine zcn ?_)
     refine zyr ?_
     repeat' first|(refine zap rfl ?_;refine zbc rfl rfl (by omega) ?_)|refine zp ?_|refine zyn ?_
     refine zci rfl ?_
     repeat (first|refine zck ?_|refine zcl ?_|refine zcm ?_|refine zcn ?_|refine zco ?_)
     refine zyr ?_
     repeat' first|(refine zap rfl ?_;first|refine zdt rfl rfl rfl rfl rfl rfl (fun nb2 => ?_)|refine zdz 2 3 rfl rfl rfl rfl rfl rfl rfl rfl (by omega) (fun _ _ => rfl) (fun a' cap' => ?_))|refine zp ?_|refine zyn ?_
     refine zec [0, 1] rfl ?_
     repeat' first|refine zyq ?_|(refine zap rfl ?_;refine zau rfl rfl (by omega) ?_)|refine zp ?_|refine zch ?_
     have q1 : Value.slice a' (told.length + 1) cap' = .slice a' (told ++ [v]).length cap' := by rw [List.length_append]; rfl
     have q2 : [SpaceA p s', SlA 2 1 a' (told.length + 1) cap' (told.flatMap encI ++ [.int .i64 v])] = [SpaceA p s', SlA 2 1 a' (told ++ [v]).length cap' ((told ++ [v]).flatMap encI)] := by rw [List.length_append, List.flatMap_append]; rfl
     have q3 : i + 1 ≤ l.length := hlt
     have q4 : s'.puts.length ≤ (i + 1) * 30000 := by omega
     have q5 : (told ++ [v]).length ≤ i + 1 := by rw [List.length_append, List.length_singleton]; omega
     have q6 : l.length - (i + 1) < l.length - i := by omega
     have q7 : ∀ x ∈ told ++ [v], I64 x := fun x hx => by
       rcases List.mem_append.1 hx with hx | hx
       · exact hto x hx
       · rw [List.mem_singleton.1 hx]; exact hw2.2.1
     exact zeq ⟨rfl, (i + 1, s', told ++ [v], a', cap'), ⟨rfl, rfl, q1, rfl, trivial⟩, ⟨q2, q3, hw2.1, q4, q5, q7⟩, q6⟩
   · repeat (first|refine zck ?_|refine zcl ?_|refine zcm ?_|refine zcn ?_)
     refine zyr ?_
     repeat' first|(refine zap rfl ?_;refine zbd rfl rfl (by omega) ?_)|refine zp ?_|refine zyn ?_
     refine zcj rfl ?_
     refine zec [0, 1] rfl ?_
     repeat' first|refine zcm ?_|refine zcn ?_|refine zyq ?_|(refine zap rfl ?_;refine zau rfl rfl (by omega) ?_)|refine zp ?_|refine zch ?_
     have q3 : i + 1 ≤ l.length := hlt
     have q4 : s'.puts.length ≤ (i + 1) * 30000 := by omega
     have q5 : told.length ≤ i + 1 := by omega
     have q6 : l.length - (i + 1) < l.length - i := by omega
     refine zeq ⟨rfl, (i + 1, s', told, a2, c2), ⟨rfl, rfl, rfl, rfl, trivial⟩, ⟨?_, q3, hw2.1, q4, q5, hto⟩, q6⟩
     exact rfl
 · repeat (first|refine zck ?_|refine zcl ?_|refine zcm ?_|refine zcn ?_)
   refine zyr ?_
   repeat' first|(refine zap rfl ?_;first|refine zce rfl ?_|refine zbh rfl rfl (by omega) ?_)|refine zp ?_|refine zyn ?_
   refine zcj rfl ?_
   refine zer rfl rfl ?_
   repeat' first|refine zck ?_|refine zyq ?_|refine zp ?_|refine zch ?_
   exact zei rfl ⟨p, s, told, a2, c2, rfl, rfl, he, hto, by omega, by omega⟩
end Go.Proofs.YtgdhcgnmffgkiaaGreatDoor
