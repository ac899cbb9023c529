import Derived.Test.YtikackodhiollaaGreatDoorPart4
import Derived.Test.YtikackodhiollaaGreatDoorKit
import Derived.Test.YtikackodhiollaaGreatDoorPart3
import Derived.Test.YtikackodhiollaaGreatDoorKitA
/- Own work: lemmas of this claim. -/
namespace Go.Proofs.YtikackodhiollaaGreatDoor
variable (w0 : World)
open Go.Vc Sim Sim.Tx
set_option maxHeartbeats 4000000
def WithF (w0 : World) (sh : Shared) (m : Option Nat) (a n : Int) : Prop :=
 Vc.Fn PP w0 sh 192 [viewV m, .int .i64 a, .int .i64 n] [] (fun r Γ => ∃ m', r = viewV m' ∧ Γ = [RdO sh (fun s => RdVw w0 s m')])
theorem with_low (sh : Shared) (m : Option Nat) (es : List MapEntry) (clock : Nat) (ml : GM Int) (hX : RdV kvL w0 sh m es clock ml) (hv : VwOk ml) (a : Int) (ha : a = 0 ∨ a = 1) (n z : Int) (hz : (lookG ml a).getD (.int .i64 0) = .int .i64 z) (hn : n ≤ z) : WithF w0 sh m a n := by
 unfold WithF
 have h0 : 0 ≤ a ∧ a < 4096 := by omega
 refine zep en192 fn192 rfl rfl rfl ?_
 refine run_kept ?_
 repeat (first|refine zck ?_|refine zcl ?_|refine zcm ?_|refine zcn ?_)
 first|refine zcp (by kernel_rfl) ?_|refine zcq PP_mixed (by kernel_rfl) (by kernel_rfl) ?_
 repeat' (refine zap rfl ?_; first|refine zar (fun t6 => ?_)|refine zaq (cs := [_]) rfl (fun nb => ?_))
 all_goals (refine zch ?_; repeat (first|refine zck ?_|refine zcl ?_|refine zcm ?_|refine zcn ?_))
 refine run_shareK [0] rfl ?_
 repeat (first|refine zck ?_|refine zcl ?_|refine zcm ?_|refine zcn ?_)
 first|refine zcp (by kernel_rfl) ?_|refine zcq PP_mixed (by kernel_rfl) (by kernel_rfl) ?_
 repeat' (refine zap rfl ?_; first|refine reg_lookupV (hX.mono (fun p hp => .tail _ hp)) rfl rfl hz ?_|refine zaj rfl ?_|refine zan rfl ?_|refine zaa 0 rfl rfl rfl ?_|refine zao rfl ?_|refine zbh rfl rfl (by omega) ?_|refine zbi rfl rfl (by omega) ?_|refine zbn rfl rfl (by omega) ?_|refine zbv rfl ?_)
 all_goals (refine zch ?_; repeat (first|refine zck ?_|refine zcl ?_|refine zcm ?_|refine zcn ?_))
 refine zci rfl ?_
 repeat (first|refine zck ?_|refine zcl ?_|refine zcm ?_|refine zcn ?_)
 first|refine zcp (by kernel_rfl) ?_|refine zcq PP_mixed (by kernel_rfl) (by kernel_rfl) ?_
 repeat' (refine zap rfl ?_; first|refine zaa 0 rfl rfl rfl ?_|refine zae 0 rfl rfl rfl rfl rfl rfl rfl ?_)
 all_goals (refine zch ?_; repeat (first|refine zck ?_|refine zcl ?_|refine zcm ?_|refine zcn ?_))
 repeat (first|refine zck ?_|refine zcl ?_|refine zcm ?_|refine zcn ?_|refine zco ?_)
 exact retK [] (fun s => RdVw w0 s m) (fun _ hs => RdVw.mono ⟨es, clock, ml, hX.mono (fun p hp => .tail _ hp), hv⟩ hs) rfl (zem rfl (zeo 0 rfl rfl rfl) ⟨rfl, m, rfl, rfl⟩)
theorem with_some (sh : Shared) (r : Nat) (es : List MapEntry) (clock : Nat) (ml : GM Int) (hX : RdG kvL w0 sh r es clock ml) (hv : VwOk ml) (a : Int) (ha : a = 0 ∨ a = 1) (n z : Int) (hn0 : 0 ≤ n ∧ n ≤ 1000000) (hz : (lookG ml a).getD (.int .i64 0) = .int .i64 z) (hn : ¬ n ≤ z) : WithF w0 sh (some r) a n := by
 unfold WithF
 have h0 : 0 ≤ a ∧ a < 4096 := by omega
 refine zep en192 fn192 rfl rfl rfl ?_
 refine run_kept ?_
 repeat (first|refine zck ?_|refine zcl ?_|refine zcm ?_|refine zcn ?_)
 first|refine zcp (by kernel_rfl) ?_|refine zcq PP_mixed (by kernel_rfl) (by kernel_rfl) ?_
 repeat' (refine zap rfl ?_; first|refine zar (fun t6 => ?_)|refine zaq (cs := [_]) rfl (fun nb => ?_))
 all_goals (refine zch ?_; repeat (first|refine zck ?_|refine zcl ?_|refine zcm ?_|refine zcn ?_))
 refine run_shareK [0] rfl ?_
 repeat (first|refine zck ?_|refine zcl ?_|refine zcm ?_|refine zcn ?_)
 first|refine zcp (by kernel_rfl) ?_|refine zcq PP_mixed (by kernel_rfl) (by kernel_rfl) ?_
 repeat' (refine zap rfl ?_; first|refine reg_lookupV ((RdV.of hX).mono (fun p hp => .tail _ hp)) rfl rfl hz ?_|refine zaj rfl ?_|refine zan rfl ?_|refine zaa 0 rfl rfl rfl ?_|refine zao rfl ?_|refine zbh rfl rfl (by omega) ?_|refine zbj rfl rfl (by omega) ?_|refine zbn rfl rfl (by omega) ?_|refine zbv rfl ?_)
 all_goals (refine zch ?_; repeat (first|refine zck ?_|refine zcl ?_|refine zcm ?_|refine zcn ?_))
 refine zcj rfl ?_
 repeat (first|refine zck ?_|refine zcl ?_|refine zcm ?_|refine zcn ?_)
 first|refine zcp (by kernel_rfl) ?_|refine zcq PP_mixed (by kernel_rfl) (by kernel_rfl) ?_
 repeat' (refine zap rfl ?_; first|refine zan rfl ?_|refine zaa 0 rfl rfl rfl ?_|(refine zai [] (cloneL_some w0 sh r es clock ml hX) rfl rfl rfl (fun p hp => .tail _ hp) ?_; rintro v Γ ⟨nb, rfl, rfl⟩)|refine zao rfl ?_)
 all_goals (refine zch ?_; repeat (first|refine zck ?_|refine zcl ?_|refine zcm ?_|refine zcn ?_))
 first|refine zcp (by kernel_rfl) ?_|refine zcq PP_mixed (by kernel_rfl) (by kernel_rfl) ?_
 repeat' (refine zap rfl ?_; first|refine reg_eq_mapS rfl rfl ?_|refine zan rfl ?_)
 all_goals (refine zch ?_; repeat (first|refine zck ?_|refine zcl ?_|refine zcm ?_|refine zcn ?_))
 refine zcj rfl ?_
 repeat (first|refine zck ?_|refine zcl ?_|refine zcm ?_|refine zcn ?_|refine zco ?_)
 repeat (first|refine zck ?_|refine zcl ?_|refine zcm ?_|refine zcn ?_)
 first|refine zcp (by kernel_rfl) ?_|refine zcq PP_mixed (by kernel_rfl) (by kernel_rfl) ?_
 repeat' (refine zap rfl ?_; first|refine reg_mapUpdateG (kv := kvL) (a := a) 0 rfl rfl rfl rfl rfl ?_|refine zan rfl ?_)
 all_goals (refine zch ?_; repeat (first|refine zck ?_|refine zcl ?_|refine zcm ?_|refine zcn ?_))
 first|refine zcp (by kernel_rfl) ?_|refine zcq PP_mixed (by kernel_rfl) (by kernel_rfl) ?_
 repeat' (refine zap rfl ?_; first|refine zan rfl ?_|refine zae 1 rfl rfl rfl rfl rfl rfl rfl ?_|refine zcb rfl ?_)
 all_goals (refine zch ?_; repeat (first|refine zck ?_|refine zcl ?_|refine zcm ?_|refine zcn ?_))
 repeat (first|refine zck ?_|refine zcl ?_|refine zcm ?_|refine zcn ?_|refine zco ?_)
 refine run_shareA [0] (fun s => ∃ es clock, RdG kvL w0 s nb es clock (insG ml a (.int .i64 n))) RdO.ofMap rfl ?_
 rintro bl hs ⟨es', clock', h1⟩
 exact retK [] (fun s => RdVw w0 s (some nb)) (fun _ hs => RdVw.mono ⟨es', clock', _, RdV.of h1, hv.ins ha hn0⟩ hs) rfl (zem rfl (zeo 0 rfl rfl rfl) ⟨rfl, _, rfl, rfl⟩)
theorem with_none (sh : Shared) (a : Int) (ha : a = 0 ∨ a = 1) (n : Int) (hn0 : 0 < n ∧ n ≤ 1000000) : WithF w0 sh none a n := by
 unfold WithF
 have h0 : 0 ≤ a ∧ a < 4096 := by omega
 have h1 : ¬ n ≤ 0 := by omega
 refine zep en192 fn192 rfl rfl rfl ?_
 refine run_kept ?_
 repeat (first|refine zck ?_|refine zcl ?_|refine zcm ?_|refine zcn ?_)
 first|refine zcp (by kernel_rfl) ?_|refine zcq PP_mixed (by kernel_rfl) (by kernel_rfl) ?_
 repeat' (refine zap rfl ?_; first|refine zar (fun t6 => ?_)|refine zaq (cs := [_]) rfl (fun nb => ?_))
 all_goals (refine zch ?_; repeat (first|refine zck ?_|refine zcl ?_|refine zcm ?_|refine zcn ?_))
 refine run_shareK [0] rfl ?_
 repeat (first|refine zck ?_|refine zcl ?_|refine zcm ?_|refine zcn ?_)
 first|refine zcp (by kernel_rfl) ?_|refine zcq PP_mixed (by kernel_rfl) (by kernel_rfl) ?_
 repeat' (refine zap rfl ?_; first|refine reg_lookupV (kv := kvL) RdV.nil rfl rfl (show _ = Value.int .i64 0 from rfl) ?_|refine zaj rfl ?_|refine zan rfl ?_|refine zaa 0 rfl rfl rfl ?_|refine zao rfl ?_|refine zbh rfl rfl (by omega) ?_|refine zbj rfl rfl (by omega) ?_|refine zbn rfl rfl (by omega) ?_|refine zbv rfl ?_)
 all_goals (refine zch ?_; repeat (first|refine zck ?_|refine zcl ?_|refine zcm ?_|refine zcn ?_))
 refine zcj rfl ?_
 repeat (first|refine zck ?_|refine zcl ?_|refine zcm ?_|refine zcn ?_)
 first|refine zcp (by kernel_rfl) ?_|refine zcq PP_mixed (by kernel_rfl) (by kernel_rfl) ?_
 repeat' (refine zap rfl ?_; first|refine zan rfl ?_|refine zaa 0 rfl rfl rfl ?_|refine zah [] (cloneL_nil w0) rfl rfl rfl zdj rfl ?_|refine zao rfl ?_)
 all_goals (refine zch ?_; repeat (first|refine zck ?_|refine zcl ?_|refine zcm ?_|refine zcn ?_))
 first|refine zcp (by kernel_rfl) ?_|refine zcq PP_mixed (by kernel_rfl) (by kernel_rfl) ?_
 repeat' (refine zap rfl ?_; first|refine reg_eq_mapN rfl rfl ?_|refine zan rfl ?_)
 all_goals (refine zch ?_; repeat (first|refine zck ?_|refine zcl ?_|refine zcm ?_|refine zcn ?_))
 refine zci rfl ?_
 repeat (first|refine zck ?_|refine zcl ?_|refine zcm ?_|refine zcn ?_)
 first|refine zcp (by kernel_rfl) ?_|refine zcq PP_mixed (by kernel_rfl) (by kernel_rfl) ?_
 repeat' (refine zap rfl ?_; first|refine zan rfl ?_|refine zcc (fun nb => ?_))
 all_goals (refine zch ?_; repeat (first|refine zck ?_|refine zcl ?_|refine zcm ?_|refine zcn ?_))
 repeat (first|refine zck ?_|refine zcl ?_|refine zcm ?_|refine zcn ?_|refine zco ?_)
 refine zef 1 (MapG kvL nb []) rfl (mapG_make nb) rfl ?_
 repeat (first|refine zck ?_|refine zcl ?_|refine zcm ?_|refine zcn ?_)
 first|refine zcp (by kernel_rfl) ?_|refine zcq PP_mixed (by kernel_rfl) (by kernel_rfl) ?_
 repeat' (refine zap rfl ?_; first|refine reg_mapUpdateG (kv := kvL) (a := a) 1 rfl rfl rfl rfl rfl ?_|refine zan rfl ?_)
 all_goals (refine zch ?_; repeat (first|refine zck ?_|refine zcl ?_|refine zcm ?_|refine zcn ?_))
 first|refine zcp (by kernel_rfl) ?_|refine zcq PP_mixed (by kernel_rfl) (by kernel_rfl) ?_
 repeat' (refine zap rfl ?_; first|refine zan rfl ?_|refine zae 0 rfl rfl rfl rfl rfl rfl rfl ?_|refine zcb rfl ?_)
 all_goals (refine zch ?_; repeat (first|refine zck ?_|refine zcl ?_|refine zcm ?_|refine zcn ?_))
 repeat (first|refine zck ?_|refine zcl ?_|refine zcm ?_|refine zcn ?_|refine zco ?_)
 refine run_shareA [1] (fun s => ∃ es clock, RdG kvL w0 s nb es clock (insG [] a (.int .i64 n))) RdO.ofMap rfl ?_
 rintro bl hs ⟨es', clock', h1⟩
 exact retK [] (fun s => RdVw w0 s (some nb)) (fun _ hs => RdVw.mono ⟨es', clock', _, RdV.of h1, VwOk.nil.ins ha (by omega)⟩ hs) rfl (zem rfl (zeo 0 rfl rfl rfl) ⟨rfl, _, rfl, rfl⟩)
theorem viewWith (sh : Shared) (m : Option Nat) (h : RdVw w0 sh m) (a : Int) (ha : a = 0 ∨ a = 1) (n : Int) (hn : 0 ≤ n ∧ n ≤ 1000000) : WithF w0 sh m a n := by
 obtain ⟨es, clock, ml, hX, hv⟩ := h
 obtain ⟨z, hz, hz1, hz2⟩ := hv.look a
 by_cases hn2 : n ≤ z
 · exact with_low w0 sh m es clock ml hX hv a ha n z hz hn2
 · cases m with
   | some r => exact with_some w0 sh r es clock ml (hX.some r rfl) hv a ha n z hn hz hn2
   | none => exact with_none w0 sh a ha n (by omega)
def JoinF (w0 : World) (sh : Shared) (m1 m2 : Option Nat) : Prop :=
 Vc.Fn PP w0 sh 203 [viewV m1, viewV m2] [] (fun r Γ => ∃ m', r = viewV m' ∧ Γ = [RdO sh (fun s => RdVw w0 s m')])
theorem viewJoin (sh : Shared) (m1 m2 : Option Nat) (h1 : RdVw w0 sh m1) (h2 : RdVw w0 sh m2) : JoinF w0 sh m1 m2 := by
 unfold JoinF
 obtain ⟨es1, clock1, ml1, X1, v1⟩ := h1
 obtain ⟨es2, clock2, ml2, X2, v2⟩ := h2
 by_cases hl : ml2.length = 0
 · refine zep en203 fn203 rfl rfl rfl ?_
   refine run_kept ?_
   repeat (first|refine zck ?_|refine zcl ?_|refine zcm ?_|refine zcn ?_)
   first|refine zcp (by kernel_rfl) ?_|refine zcq PP_mixed (by kernel_rfl) (by kernel_rfl) ?_
   repeat' (refine zap rfl ?_; first|refine zar (fun t4 => ?_)|refine zaq (cs := [_]) rfl (fun nb => ?_))
   all_goals (refine zch ?_; repeat (first|refine zck ?_|refine zcl ?_|refine zcm ?_|refine zcn ?_))
   refine run_shareK [0] rfl ?_
   refine run_shareK [0] rfl ?_
   repeat (first|refine zck ?_|refine zcl ?_|refine zcm ?_|refine zcn ?_)
   first|refine zcp (by kernel_rfl) ?_|refine zcq PP_mixed (by kernel_rfl) (by kernel_rfl) ?_
   repeat' (refine zap rfl ?_; first|refine zaa 0 rfl rfl rfl ?_|refine reg_lenV (X2.mono (fun p hp => .tail _ (.tail _ hp))) rfl ?_|refine zao rfl ?_|refine zbc rfl rfl (by omega) ?_)
   all_goals (refine zch ?_; repeat (first|refine zck ?_|refine zcl ?_|refine zcm ?_|refine zcn ?_))
   refine zci rfl ?_
   repeat (first|refine zck ?_|refine zcl ?_|refine zcm ?_|refine zcn ?_)
   first|refine zcp (by kernel_rfl) ?_|refine zcq PP_mixed (by kernel_rfl) (by kernel_rfl) ?_
   repeat' (refine zap rfl ?_; first|refine zaa 1 rfl rfl rfl ?_|refine zae 0 rfl rfl rfl rfl rfl rfl rfl ?_)
   all_goals (refine zch ?_; repeat (first|refine zck ?_|refine zcl ?_|refine zcm ?_|refine zcn ?_))
   repeat (first|refine zck ?_|refine zcl ?_|refine zcm ?_|refine zcn ?_|refine zco ?_)
   exact retK [] (fun s => RdVw w0 s m1) (fun _ hs => RdVw.mono ⟨es1, clock1, ml1, X1.mono (fun p hp => .tail _ (.tail _ hp)), v1⟩ hs) rfl (zem rfl (zeo 0 rfl rfl rfl) ⟨rfl, m1, rfl, rfl⟩)
 · cases m2 with
   | none => exact absurd (by rw [(X2.none rfl).1]; rfl) hl
   | some r2 =>
     have G2 := X2.some r2 rfl
     refine zep en203 fn203 rfl rfl rfl ?_
     refine run_kept ?_
     repeat (first|refine zck ?_|refine zcl ?_|refine zcm ?_|refine zcn ?_)
     first|refine zcp (by kernel_rfl) ?_|refine zcq PP_mixed (by kernel_rfl) (by kernel_rfl) ?_
     repeat' (refine zap rfl ?_; first|refine zar (fun t4 => ?_)|refine zaq (cs := [_]) rfl (fun nb => ?_))
     all_goals (refine zch ?_; repeat (first|refine zck ?_|refine zcl ?_|refine zcm ?_|refine zcn ?_))
     refine run_shareK [0] rfl ?_
     refine run_shareK [0] rfl ?_
     repeat (first|refine zck ?_|refine zcl ?_|refine zcm ?_|refine zcn ?_)
     first|refine zcp (by kernel_rfl) ?_|refine zcq PP_mixed (by kernel_rfl) (by kernel_rfl) ?_
     repeat' (refine zap rfl ?_; first|refine zaa 0 rfl rfl rfl ?_|refine reg_lenV (X2.mono (fun p hp => .tail _ (.tail _ hp))) rfl ?_|refine zao rfl ?_|refine zbd rfl rfl (by omega) ?_)
     all_goals (refine zch ?_; repeat (first|refine zck ?_|refine zcl ?_|refine zcm ?_|refine zcn ?_))
     refine zcj rfl ?_
     repeat (first|refine zck ?_|refine zcl ?_|refine zcm ?_|refine zcn ?_)
     first|refine zcp (by kernel_rfl) ?_|refine zcq PP_mixed (by kernel_rfl) (by kernel_rfl) ?_
     repeat' (refine zap rfl ?_; first|refine zan rfl ?_|refine zaa 0 rfl rfl rfl ?_|(refine zai [] (cloneL_some w0 sh r2 es2 clock2 ml2 G2) rfl rfl rfl (fun p hp => .tail _ (.tail _ hp)) ?_; rintro v Γ ⟨nb, rfl, rfl⟩)|refine zao rfl ?_)
     all_goals (refine zch ?_; repeat (first|refine zck ?_|refine zcl ?_|refine zcm ?_|refine zcn ?_))
     have X := X1.mono (sh' := sh) (fun p hp => hp)
     first|refine zcp (by kernel_rfl) ?_|refine zcq PP_mixed (by kernel_rfl) (by kernel_rfl) ?_
     repeat' (refine zap rfl ?_; first|refine reg_rangeV (X1.mono (fun p hp => .tail _ (.tail _ hp))) rfl (fun it => ?_)|refine zaa 1 rfl rfl rfl ?_|refine zao rfl ?_)
     all_goals (refine zch ?_; repeat (first|refine zck ?_|refine zcl ?_|refine zcm ?_|refine zcn ?_))
     refine run_loop (S := List Nat × GM Int) (fun s => [(4, .pointer (some ⟨t4, 0, none⟩)), (5, .map (some nb)), (18, .pointer (some ⟨it, 0, none⟩))])
       (fun s Γ => Γ = [MapG kvL nb s.2, pt t4 (.cells (List.toArray [.map none]) 165 (0, 0)), pt it (iterV m1 clock1 s.1)] ∧ VwOk s.2) (fun s => leftS es1 s.1) ([], ml2) ⟨rfl, rfl, rfl, trivial⟩ ⟨rfl, v2⟩ ?_
     rintro ⟨seen, mo⟩ Γ junk ⟨rfl, hmo⟩
     dsimp only at hmo ⊢
     repeat (first|refine zck ?_|refine zcl ?_|refine zcm ?_|refine zcn ?_)
     first|refine zcp (by kernel_rfl) ?_|refine zcq PP_mixed (by kernel_rfl) (by kernel_rfl) ?_
     repeat' (refine zap rfl ?_; first|refine reg_nextV 2 (X1.mono (fun p hp => .tail _ (.tail _ hp))) rfl rfl (fun q => rfl) (fun _ => ?_) (fun e pe he hs hpe k1 k2 => ?_)|refine zan rfl ?_)
     all_goals (refine zch ?_; repeat (first|refine zck ?_|refine zcl ?_|refine zcm ?_|refine zcn ?_))
     · refine zcj rfl ?_
       refine zer rfl rfl ?_
       repeat (first|refine zck ?_|refine zcl ?_|refine zcm ?_|refine zcn ?_|refine zco ?_)
       repeat (first|refine zck ?_|refine zcl ?_|refine zcm ?_|refine zcn ?_)
       first|refine zcp (by kernel_rfl) ?_|refine zcq PP_mixed (by kernel_rfl) (by kernel_rfl) ?_
       repeat' (refine zap rfl ?_; first|refine zcb rfl ?_|refine zan rfl ?_|refine zae 1 rfl rfl rfl rfl rfl rfl rfl ?_)
       all_goals (refine zch ?_; repeat (first|refine zck ?_|refine zcl ?_|refine zcm ?_|refine zcn ?_))
       repeat (first|refine zck ?_|refine zcl ?_|refine zcm ?_|refine zcn ?_|refine zco ?_)
       refine run_shareA [0] (fun s => ∃ es clock, RdG kvL w0 s nb es clock mo) RdO.ofMap rfl ?_
       rintro bl hs ⟨es', clock', h1⟩
       exact retK [] (fun s => RdVw w0 s (some nb)) (fun _ hs => RdVw.mono ⟨es', clock', _, RdV.of h1, hmo⟩ hs) rfl (zem rfl (zeo 0 rfl rfl rfl) ⟨rfl, _, rfl, rfl⟩)
     · refine zci rfl ?_
       obtain ⟨ha, z, hz, hz1, hz2⟩ := v1.2 pe hpe
       obtain ⟨y, hy, hy1, hy2⟩ := hmo.look pe.1
       repeat (first|refine zck ?_|refine zcl ?_|refine zcm ?_|refine zcn ?_)
       first|refine zcp (by kernel_rfl) ?_|refine zcq PP_mixed (by kernel_rfl) (by kernel_rfl) ?_
       repeat' (refine zap rfl ?_; first|refine reg_entryV 2 (X1.mono (fun p hp => .tail _ (.tail _ hp))) he k1 k2 rfl rfl ?_|refine zan rfl ?_)
       all_goals (refine zch ?_; repeat (first|refine zck ?_|refine zcl ?_|refine zcm ?_|refine zcn ?_))
       repeat (first|refine zck ?_|refine zcl ?_|refine zcm ?_|refine zcn ?_|refine zco ?_)
       repeat (first|refine zck ?_|refine zcl ?_|refine zcm ?_|refine zcn ?_)
       first|refine zcp (by kernel_rfl) ?_|refine zcq PP_mixed (by kernel_rfl) (by kernel_rfl) ?_
       repeat' (refine zap rfl ?_; first|refine reg_lookupG (kv := kvL) (a := pe.1) 0 rfl rfl rfl hy ?_|refine reg_mapUpdateG (kv := kvL) (a := pe.1) 0 rfl rfl rfl rfl rfl ?_|refine zan rfl ?_|refine zcf rfl hz ?_)
       all_goals (refine zch ?_; repeat (first|refine zck ?_|refine zcl ?_|refine zcm ?_|refine zcn ?_))
       exact zeq ⟨rfl, (seen ++ [e.born], _), ⟨rfl, rfl, rfl, trivial⟩, ⟨rfl, hmo.ins ha (by split <;> omega)⟩, leftS_next he hs⟩
end Go.Proofs.YtikackodhiollaaGreatDoor
namespace Sim.Tx
open Go Go.Vc Sim
abbrev kvS : ByteArray → Value := fun x => Value.string x
end Sim.Tx
namespace Go.Proofs.YtikackodhiollaaGreatDoor
variable (w0 : World)
open Go.Vc Sim Sim.Tx
set_option maxHeartbeats 4000000
instance keyStr : KeyK PP 9 kvS := keyK_str (by rw [PP_def]; exact Tryz.underlying9)
abbrev encL (x : Int) : List Value := [kvL x]
def collL (b : Nat) (acc : List Int) : Asn := fun h => ∃ a c, Stars [pt b (.cells (List.toArray [.slice a acc.length c]) 216 (0, 0)), SlA 24 1 a acc.length c (acc.flatMap encL)] h
theorem collL_snoc {b : Nat} {acc : List Int} {x : Int} {a : Option Addr} {c : Nat} (h : Heap) (hs : Stars [pt b (.cells (List.toArray [.slice a (acc.length + 1) c]) 216 (0, 0)), SlA 24 1 a (acc.length + 1) c (acc.flatMap encL ++ [kvL x])] h) : collL b (acc ++ [x]) h := by
 refine ⟨a, c, ?_⟩
 rw [List.flatMap_append, List.length_append]
 exact hs
abbrev YXL : Type := { x : Int × List Int // x.2.length ≤ 100000 }
abbrev YYL (w0 : World) (sh : Shared) (L : Nat) (lp : Option Code → Asn) (b : Nat) : Prop := ∀ x : YXL, Yld PP w0 sh L [kvL x.1.1] (lp none :: [collL b x.1.2]) (fun q Γ' => ∃ jump Γ'', q = jump.isNone ∧ (jump = none ∧ Γ'' = [collL b (x.1.2 ++ [x.1.1])]) ∧ Γ' = lp jump :: Γ'')
theorem keys1L (sh : Shared) (m : Option Nat) (es : List MapEntry) (clock : Nat) (ml : GM Int) (hX : RdV kvL w0 sh m es clock ml) (hn : (ml.map (·.1)).Nodup) (hb : ml.length ≤ 100000) (b1 b : Nat)
   (hi : ∀ x y : Int, kvL x = kvL y → x = y) (L : Nat) (lp : Option Code → Asn) (hY : YYL w0 ((b1, .cells (List.toArray [.map m]) 163 (0, 0)) :: sh) L lp b) :
   Vc.Fn PP w0 ((b1, .cells (List.toArray [.map m]) 163 (0, 0)) :: sh) 167 [.func (.yield L) #[] #[], .pointer (some ⟨b1, 0, none⟩)] [lp none, collL b []]
     (fun _ Γ => ∃ acc : List Int, (acc.Nodup ∧ (∀ x, x ∈ acc ↔ x ∈ ml.map (·.1)) ∧ acc.length ≤ ml.length) ∧ Γ = [lp none, collL b acc]) := by
 refine zep en167 fn167 rfl rfl rfl ?_
 repeat (first|refine zck ?_|refine zcl ?_|refine zcm ?_|refine zcn ?_)
 first|refine zcp (by kernel_rfl) ?_|refine zcq PP_mixed (by kernel_rfl) (by kernel_rfl) ?_
 repeat' (refine zap rfl ?_; first|refine reg_rangeV (hX.mono (fun p hp => .tail _ hp)) rfl (fun it => ?_)|refine zaa 0 rfl rfl rfl ?_)
 all_goals (refine zch ?_; repeat (first|refine zck ?_|refine zcl ?_|refine zcm ?_|refine zcn ?_))
 refine run_loop (S := List Nat × List Int) (fun _ => [(0, .func (.yield L) #[] #[]), (5, .pointer (some ⟨it, 0, none⟩))])
   (fun s Γ => Γ = [lp none, collL b s.2, pt it (iterV m clock s.1)] ∧ Met kvL es s.1 s.2) (fun s => leftS es s.1) ([], []) ⟨rfl, rfl, trivial⟩ ⟨rfl, Met.nil⟩ ?_
 rintro ⟨seen, acc⟩ Γ junk ⟨rfl, hM⟩
 dsimp only at hM ⊢
 repeat (first|refine zck ?_|refine zcl ?_|refine zcm ?_|refine zcn ?_)
 first|refine zcp (by kernel_rfl) ?_|refine zcq PP_mixed (by kernel_rfl) (by kernel_rfl) ?_
 repeat' (refine zap rfl ?_; first|refine reg_nextV 2 (hX.mono (fun p hp => .tail _ hp)) rfl rfl (fun q => rfl) (fun ha => ?_) (fun e pe he hs hpe k1 k2 => ?_)|refine zan rfl ?_)
 all_goals (refine zch ?_; repeat (first|refine zck ?_|refine zcl ?_|refine zcm ?_|refine zcn ?_))
 · refine zcj rfl ?_
   refine zer rfl rfl ?_
   exact run_nil (zek (zel [0, 0] rfl (ends_none rfl ⟨rfl, acc, hM.done hX.ok hi ha, rfl⟩)))
 · refine zci rfl ?_
   have hal : acc.length ≤ 100000 := by have := hM.2.2; have := hX.ok.len; omega
   repeat (first|refine zck ?_|refine zcl ?_|refine zcm ?_|refine zcn ?_)
   first|refine zcp (by kernel_rfl) ?_|refine zcq PP_mixed (by kernel_rfl) (by kernel_rfl) ?_
   repeat' (refine zap rfl ?_; first|refine reg_entryV 2 (hX.mono (fun p hp => .tail _ hp)) he k1 k2 rfl rfl ?_|refine zan rfl ?_)
   all_goals (refine zch ?_; repeat (first|refine zck ?_|refine zcl ?_|refine zcm ?_|refine zcn ?_))
   repeat (first|refine zck ?_|refine zcl ?_|refine zcm ?_|refine zcn ?_|refine zco ?_)
   repeat (first|refine zck ?_|refine zcl ?_|refine zcm ?_|refine zcn ?_)
   first|refine zcp (by kernel_rfl) ?_|refine zcq PP_mixed (by kernel_rfl) (by kernel_rfl) ?_
   repeat' (refine zap rfl ?_; first|refine zbx rfl ?_|refine zan rfl ?_|refine reg_yield [0, 0] (hY ⟨(pe.1, acc), hal⟩) rfl rfl rfl (fun _ h => h) (fun q Γ' ⟨jump, Γ'', q1, ⟨q2, q3⟩, q4⟩ => ?_))
   all_goals (refine zch ?_; repeat (first|refine zck ?_|refine zcl ?_|refine zcm ?_|refine zcn ?_))
   subst q4; subst q3; subst q2; subst q1
   refine zcj rfl ?_
   repeat (first|refine zck ?_|refine zcl ?_|refine zcm ?_|refine zcn ?_|refine zco ?_)
   exact zeq ⟨rfl, (seen ++ [e.born], acc ++ [pe.1]), ⟨rfl, rfl, trivial⟩, ⟨rfl, hM.step hX.ok hX.born hn hi he hs k1⟩, leftS_next he hs⟩
abbrev ToldL (ml : GM Int) (acc : List Int) : Prop := acc.Nodup ∧ (∀ x, x ∈ acc ↔ x ∈ ml.map (·.1)) ∧ acc.length ≤ ml.length
theorem appendL (sh : Shared) (m : Option Nat) (es : List MapEntry) (clock : Nat) (ml : GM Int) (hX : RdV kvL w0 sh m es clock ml) (hn : (ml.map (·.1)).Nodup) (hb : ml.length ≤ 100000) (b1 : Nat)
   (hi : ∀ x y : Int, kvL x = kvL y → x = y) :
   Vc.Fn PP w0 ((b1, .cells (List.toArray [.map m]) 163 (0, 0)) :: sh) 175 [.slice none 0 0, .func (.func 167) #[] #[.pointer (some ⟨b1, 0, none⟩)]] []
     (fun r Γ => ∃ (acc : List Int) (a : Option Addr) (c : Nat), ToldL ml acc ∧ r = .slice a acc.length c ∧ Γ = [SlA 24 1 a acc.length c (acc.flatMap encL)]) := by
 refine zep en175 fn175 rfl rfl rfl ?_
 repeat (first|refine zck ?_|refine zcl ?_|refine zcm ?_|refine zcn ?_)
 first|refine zcp (by kernel_rfl) ?_|refine zcq PP_mixed (by kernel_rfl) (by kernel_rfl) ?_
 repeat' (refine zap rfl ?_; first|refine zaq (cs := [_]) rfl (fun t2 => ?_)|refine zan rfl ?_)
 all_goals (refine zch ?_; repeat (first|refine zck ?_|refine zcl ?_|refine zcm ?_|refine zcn ?_))
 refine run_nilslice 24 1 ?_
 refine run_close (A := collL t2 []) [0, 0] rfl (fun h hs => ⟨none, 0, hs⟩) ?_
 repeat (first|refine zck ?_|refine zcl ?_|refine zcm ?_|refine zcn ?_)
 first|refine zcp (by kernel_rfl) ?_|refine zcq PP_mixed (by kernel_rfl) (by kernel_rfl) ?_
 repeat' (refine zap rfl ?_; first|refine zan rfl ?_)
 all_goals (refine zch ?_; repeat (first|refine zck ?_|refine zcl ?_|refine zcm ?_|refine zcn ?_))
 repeat (first|refine zck ?_|refine zcl ?_|refine zcm ?_|refine zcn ?_|refine zco ?_)
 refine run_rangeFunc (β := YXL) [0] (fun x => kvL x.1.1) (fun x => [collL t2 x.1.2]) (fun x jump Γ => jump = none ∧ Γ = [collL t2 (x.1.2 ++ [x.1.1])]) (fun jump Γ => jump = none ∧ ∃ acc, ToldL ml acc ∧ Γ = [collL t2 acc]) rfl rfl (by kernel_rfl) rfl (fun x => ?_) (fun L lp hY => ?_) (fun D jump Γ'' h => ?_)
 · obtain ⟨⟨v, acc⟩, hacc⟩ := x
   dsimp only at hacc ⊢
   repeat (first|refine zck ?_|refine zcl ?_|refine zcm ?_|refine zcn ?_)
   first|refine zcp (by kernel_rfl) ?_|refine zcq PP_mixed (by kernel_rfl) (by kernel_rfl) ?_
   repeat' (refine zap rfl ?_; first|refine zan rfl ?_)
   all_goals (refine zch ?_; repeat (first|refine zck ?_|refine zcl ?_|refine zcm ?_|refine zcn ?_))
   refine run_nil ⟨rfl, ?_⟩
   repeat (first|refine zck ?_|refine zcl ?_|refine zcm ?_|refine zcn ?_|refine zco ?_)
   refine run_open [0] (fun i : Option Addr × Nat => [pt t2 (.cells (List.toArray [.slice i.1 acc.length i.2]) 216 (0, 0)), SlA 24 1 i.1 acc.length i.2 (acc.flatMap encL)]) rfl (fun h ⟨a, c, hs⟩ => ⟨(a, c), hs⟩) (fun ⟨a, c⟩ => ?_)
   repeat (first|refine zck ?_|refine zcl ?_|refine zcm ?_|refine zcn ?_)
   first|refine zcp (by kernel_rfl) ?_|refine zcq PP_mixed (by kernel_rfl) (by kernel_rfl) ?_
   repeat' (refine zap rfl ?_; first|refine zdt rfl rfl rfl rfl rfl rfl (fun nb2 => ?_)|refine zan rfl ?_|refine zab 0 rfl rfl rfl ?_|refine zdz 1 2 rfl rfl rfl rfl rfl rfl rfl rfl (by omega) (fun _ _ => rfl) (fun a' cap' => ?_)|refine zae 0 rfl rfl rfl rfl rfl rfl rfl ?_)
   all_goals (refine zch ?_; repeat (first|refine zck ?_|refine zcl ?_|refine zcm ?_|refine zcn ?_))
   refine run_close (A := collL t2 (acc ++ [v])) [0, 0] rfl (fun h hs => collL_snoc h hs) ?_
   refine zec [0] rfl ?_
   exact run_nil ⟨rfl, rfl⟩
 · refine (keys1L w0 sh m es clock ml hX hn hb b1 t2 hi L lp hY).mono ?_
   rintro v Γ ⟨acc, h1, rfl⟩
   exact ⟨none, _, ⟨rfl, acc, h1, rfl⟩, rfl⟩
 · obtain ⟨rfl, acc, h1, rfl⟩ := h
   show Run _ _ _ _ _ _ _ _ _
   repeat (first|refine zck ?_|refine zcl ?_|refine zcm ?_|refine zcn ?_|refine zco ?_)
   refine run_open [1] (fun i : Option Addr × Nat => [pt t2 (.cells (List.toArray [.slice i.1 acc.length i.2]) 216 (0, 0)), SlA 24 1 i.1 acc.length i.2 (acc.flatMap encL)]) rfl (fun h ⟨a, c, hs⟩ => ⟨(a, c), hs⟩) (fun ⟨a, c⟩ => ?_)
   repeat (first|refine zck ?_|refine zcl ?_|refine zcm ?_|refine zcn ?_)
   first|refine zcp (by kernel_rfl) ?_|refine zcq PP_mixed (by kernel_rfl) (by kernel_rfl) ?_
   repeat' (refine zap rfl ?_; first|refine zan rfl ?_|refine zab 0 rfl rfl rfl ?_)
   all_goals (refine zch ?_; repeat (first|refine zck ?_|refine zcl ?_|refine zcm ?_|refine zcn ?_))
   refine zeg (leaves_mark [2] rfl (zek (zel [1] rfl (zem rfl rfl ⟨rfl, acc, a, c, h1, rfl, rfl⟩))))
theorem collectL (sh : Shared) (m : Option Nat) (es : List MapEntry) (clock : Nat) (ml : GM Int) (hX : RdV kvL w0 sh m es clock ml) (hn : (ml.map (·.1)).Nodup) (hb : ml.length ≤ 100000) (b1 : Nat)
   (hi : ∀ x y : Int, kvL x = kvL y → x = y) :
   Vc.Fn PP w0 ((b1, .cells (List.toArray [.map m]) 163 (0, 0)) :: sh) 165 [.func (.func 167) #[] #[.pointer (some ⟨b1, 0, none⟩)]] []
     (fun r Γ => ∃ (acc : List Int) (a : Option Addr) (c : Nat), ToldL ml acc ∧ r = .slice a acc.length c ∧ Γ = [SlA 24 1 a acc.length c (acc.flatMap encL)]) := by
 refine zep en165 fn165 rfl rfl rfl ?_
 repeat (first|refine zck ?_|refine zcl ?_|refine zcm ?_|refine zcn ?_)
 first|refine zcp (by kernel_rfl) ?_|refine zcq PP_mixed (by kernel_rfl) (by kernel_rfl) ?_
 repeat' (refine zap rfl ?_; first|refine zan rfl ?_)
 all_goals (refine zch ?_; repeat (first|refine zck ?_|refine zcl ?_|refine zcm ?_|refine zcn ?_))
 first|refine zcp (by kernel_rfl) ?_|refine zcq PP_mixed (by kernel_rfl) (by kernel_rfl) ?_
 repeat' (refine zap rfl ?_; first|refine zan rfl ?_|(refine zai [] (appendL w0 sh m es clock ml hX hn hb b1 hi) rfl rfl rfl (fun _ h => h) ?_; rintro v Γ ⟨acc, a, c, h1, rfl, rfl⟩))
 all_goals (refine zch ?_; repeat (first|refine zck ?_|refine zcl ?_|refine zcm ?_|refine zcn ?_))
 exact zej rfl ⟨acc, a, c, h1, rfl, rfl⟩
theorem keysL (m : Option Nat) : Vc.Fn PP w0 [] 151 [.map m] [] (fun r Γ => ∃ b1, r = .func (.func 167) #[] #[.pointer (some ⟨b1, 0, none⟩)] ∧ Γ = [pt b1 (.cells (List.toArray [.map m]) 163 (0, 0))]) := by
 refine zep en151 fn151 rfl rfl rfl ?_
 repeat (first|refine zck ?_|refine zcl ?_|refine zcm ?_|refine zcn ?_)
 first|refine zcp (by kernel_rfl) ?_|refine zcq PP_mixed (by kernel_rfl) (by kernel_rfl) ?_
 repeat' (refine zap rfl ?_; first|refine zan rfl ?_|refine zaq (cs := [_]) rfl (fun nb => ?_))
 all_goals (refine zch ?_; repeat (first|refine zck ?_|refine zcl ?_|refine zcm ?_|refine zcn ?_))
 first|refine zcp (by kernel_rfl) ?_|refine zcq PP_mixed (by kernel_rfl) (by kernel_rfl) ?_
 repeat' (refine zap rfl ?_; first|refine zan rfl ?_)
 all_goals (refine zch ?_; repeat (first|refine zck ?_|refine zcl ?_|refine zcm ?_|refine zcn ?_))
 exact zej rfl ⟨_, rfl, rfl⟩
abbrev encS (x : ByteArray) : List Value := [kvS x]
def collS (b : Nat) (acc : List ByteArray) : Asn := fun h => ∃ a c, Stars [pt b (.cells (List.toArray [.slice a acc.length c]) 48 (0, 0)), SlA 9 1 a acc.length c (acc.flatMap encS)] h
theorem collS_snoc {b : Nat} {acc : List ByteArray} {x : ByteArray} {a : Option Addr} {c : Nat} (h : Heap) (hs : Stars [pt b (.cells (List.toArray [.slice a (acc.length + 1) c]) 48 (0, 0)), SlA 9 1 a (acc.length + 1) c (acc.flatMap encS ++ [kvS x])] h) : collS b (acc ++ [x]) h := by
 refine ⟨a, c, ?_⟩
 rw [List.flatMap_append, List.length_append]
 exact hs
abbrev YXS : Type := { x : ByteArray × List ByteArray // x.2.length ≤ 100000 }
abbrev YYS (w0 : World) (sh : Shared) (L : Nat) (lp : Option Code → Asn) (b : Nat) : Prop := ∀ x : YXS, Yld PP w0 sh L [kvS x.1.1] (lp none :: [collS b x.1.2]) (fun q Γ' => ∃ jump Γ'', q = jump.isNone ∧ (jump = none ∧ Γ'' = [collS b (x.1.2 ++ [x.1.1])]) ∧ Γ' = lp jump :: Γ'')
theorem keys1S (sh : Shared) (m : Option Nat) (es : List MapEntry) (clock : Nat) (ml : GM ByteArray) (hX : RdV kvS w0 sh m es clock ml) (hn : (ml.map (·.1)).Nodup) (hb : ml.length ≤ 100000) (b1 b : Nat)
   (hi : ∀ x y : ByteArray, kvS x = kvS y → x = y) (L : Nat) (lp : Option Code → Asn) (hY : YYS w0 ((b1, .cells (List.toArray [.map m]) 51 (0, 0)) :: sh) L lp b) :
   Vc.Fn PP w0 ((b1, .cells (List.toArray [.map m]) 51 (0, 0)) :: sh) 49 [.func (.yield L) #[] #[], .pointer (some ⟨b1, 0, none⟩)] [lp none, collS b []]
     (fun _ Γ => ∃ acc : List ByteArray, (acc.Nodup ∧ (∀ x, x ∈ acc ↔ x ∈ ml.map (·.1)) ∧ acc.length ≤ ml.length) ∧ Γ = [lp none, collS b acc]) := by
 refine zep en49 fn49 rfl rfl rfl ?_
 repeat (first|refine zck ?_|refine zcl ?_|refine zcm ?_|refine zcn ?_)
 first|refine zcp (by kernel_rfl) ?_|refine zcq PP_mixed (by kernel_rfl) (by kernel_rfl) ?_
 repeat' (refine zap rfl ?_; first|refine reg_rangeV (hX.mono (fun p hp => .tail _ hp)) rfl (fun it => ?_)|refine zaa 0 rfl rfl rfl ?_)
 all_goals (refine zch ?_; repeat (first|refine zck ?_|refine zcl ?_|refine zcm ?_|refine zcn ?_))
 refine run_loop (S := List Nat × List ByteArray) (fun _ => [(0, .func (.yield L) #[] #[]), (5, .pointer (some ⟨it, 0, none⟩))])
   (fun s Γ => Γ = [lp none, collS b s.2, pt it (iterV m clock s.1)] ∧ Met kvS es s.1 s.2) (fun s => leftS es s.1) ([], []) ⟨rfl, rfl, trivial⟩ ⟨rfl, Met.nil⟩ ?_
 rintro ⟨seen, acc⟩ Γ junk ⟨rfl, hM⟩
 dsimp only at hM ⊢
 repeat (first|refine zck ?_|refine zcl ?_|refine zcm ?_|refine zcn ?_)
 first|refine zcp (by kernel_rfl) ?_|refine zcq PP_mixed (by kernel_rfl) (by kernel_rfl) ?_
 repeat' (refine zap rfl ?_; first|refine reg_nextV 2 (hX.mono (fun p hp => .tail _ hp)) rfl rfl (fun q => rfl) (fun ha => ?_) (fun e pe he hs hpe k1 k2 => ?_)|refine zan rfl ?_)
 all_goals (refine zch ?_; repeat (first|refine zck ?_|refine zcl ?_|refine zcm ?_|refine zcn ?_))
 · refine zcj rfl ?_
   refine zer rfl rfl ?_
   exact run_nil (zek (zel [0, 0] rfl (ends_none rfl ⟨rfl, acc, hM.done hX.ok hi ha, rfl⟩)))
 · refine zci rfl ?_
   have hal : acc.length ≤ 100000 := by have := hM.2.2; have := hX.ok.len; omega
   repeat (first|refine zck ?_|refine zcl ?_|refine zcm ?_|refine zcn ?_)
   first|refine zcp (by kernel_rfl) ?_|refine zcq PP_mixed (by kernel_rfl) (by kernel_rfl) ?_
   repeat' (refine zap rfl ?_; first|refine reg_entryV 2 (hX.mono (fun p hp => .tail _ hp)) he k1 k2 rfl rfl ?_|refine zan rfl ?_)
   all_goals (refine zch ?_; repeat (first|refine zck ?_|refine zcl ?_|refine zcm ?_|refine zcn ?_))
   repeat (first|refine zck ?_|refine zcl ?_|refine zcm ?_|refine zcn ?_|refine zco ?_)
   repeat (first|refine zck ?_|refine zcl ?_|refine zcm ?_|refine zcn ?_)
   first|refine zcp (by kernel_rfl) ?_|refine zcq PP_mixed (by kernel_rfl) (by kernel_rfl) ?_
   repeat' (refine zap rfl ?_; first|refine zbx rfl ?_|refine zan rfl ?_|refine reg_yield [0, 0] (hY ⟨(pe.1, acc), hal⟩) rfl rfl rfl (fun _ h => h) (fun q Γ' ⟨jump, Γ'', q1, ⟨q2, q3⟩, q4⟩ => ?_))
   all_goals (refine zch ?_; repeat (first|refine zck ?_|refine zcl ?_|refine zcm ?_|refine zcn ?_))
   subst q4; subst q3; subst q2; subst q1
   refine zcj rfl ?_
   repeat (first|refine zck ?_|refine zcl ?_|refine zcm ?_|refine zcn ?_|refine zco ?_)
   exact zeq ⟨rfl, (seen ++ [e.born], acc ++ [pe.1]), ⟨rfl, rfl, trivial⟩, ⟨rfl, hM.step hX.ok hX.born hn hi he hs k1⟩, leftS_next he hs⟩
abbrev ToldS (ml : GM ByteArray) (acc : List ByteArray) : Prop := acc.Nodup ∧ (∀ x, x ∈ acc ↔ x ∈ ml.map (·.1)) ∧ acc.length ≤ ml.length
theorem appendS (sh : Shared) (m : Option Nat) (es : List MapEntry) (clock : Nat) (ml : GM ByteArray) (hX : RdV kvS w0 sh m es clock ml) (hn : (ml.map (·.1)).Nodup) (hb : ml.length ≤ 100000) (b1 : Nat)
   (hi : ∀ x y : ByteArray, kvS x = kvS y → x = y) :
   Vc.Fn PP w0 ((b1, .cells (List.toArray [.map m]) 51 (0, 0)) :: sh) 81 [.slice none 0 0, .func (.func 49) #[] #[.pointer (some ⟨b1, 0, none⟩)]] []
     (fun r Γ => ∃ (acc : List ByteArray) (a : Option Addr) (c : Nat), ToldS ml acc ∧ r = .slice a acc.length c ∧ Γ = [SlA 9 1 a acc.length c (acc.flatMap encS)]) := by
 refine zep en81 fn81 rfl rfl rfl ?_
 repeat (first|refine zck ?_|refine zcl ?_|refine zcm ?_|refine zcn ?_)
 first|refine zcp (by kernel_rfl) ?_|refine zcq PP_mixed (by kernel_rfl) (by kernel_rfl) ?_
 repeat' (refine zap rfl ?_; first|refine zaq (cs := [_]) rfl (fun t2 => ?_)|refine zan rfl ?_)
 all_goals (refine zch ?_; repeat (first|refine zck ?_|refine zcl ?_|refine zcm ?_|refine zcn ?_))
 refine run_nilslice 9 1 ?_
 refine run_close (A := collS t2 []) [0, 0] rfl (fun h hs => ⟨none, 0, hs⟩) ?_
 repeat (first|refine zck ?_|refine zcl ?_|refine zcm ?_|refine zcn ?_)
 first|refine zcp (by kernel_rfl) ?_|refine zcq PP_mixed (by kernel_rfl) (by kernel_rfl) ?_
 repeat' (refine zap rfl ?_; first|refine zan rfl ?_)
 all_goals (refine zch ?_; repeat (first|refine zck ?_|refine zcl ?_|refine zcm ?_|refine zcn ?_))
 repeat (first|refine zck ?_|refine zcl ?_|refine zcm ?_|refine zcn ?_|refine zco ?_)
 refine run_rangeFunc (β := YXS) [0] (fun x => kvS x.1.1) (fun x => [collS t2 x.1.2]) (fun x jump Γ => jump = none ∧ Γ = [collS t2 (x.1.2 ++ [x.1.1])]) (fun jump Γ => jump = none ∧ ∃ acc, ToldS ml acc ∧ Γ = [collS t2 acc]) rfl rfl (by kernel_rfl) rfl (fun x => ?_) (fun L lp hY => ?_) (fun D jump Γ'' h => ?_)
 · obtain ⟨⟨v, acc⟩, hacc⟩ := x
   dsimp only at hacc ⊢
   repeat (first|refine zck ?_|refine zcl ?_|refine zcm ?_|refine zcn ?_)
   first|refine zcp (by kernel_rfl) ?_|refine zcq PP_mixed (by kernel_rfl) (by kernel_rfl) ?_
   repeat' (refine zap rfl ?_; first|refine zan rfl ?_)
   all_goals (refine zch ?_; repeat (first|refine zck ?_|refine zcl ?_|refine zcm ?_|refine zcn ?_))
   refine run_nil ⟨rfl, ?_⟩
   repeat (first|refine zck ?_|refine zcl ?_|refine zcm ?_|refine zcn ?_|refine zco ?_)
   refine run_open [0] (fun i : Option Addr × Nat => [pt t2 (.cells (List.toArray [.slice i.1 acc.length i.2]) 48 (0, 0)), SlA 9 1 i.1 acc.length i.2 (acc.flatMap encS)]) rfl (fun h ⟨a, c, hs⟩ => ⟨(a, c), hs⟩) (fun ⟨a, c⟩ => ?_)
   repeat (first|refine zck ?_|refine zcl ?_|refine zcm ?_|refine zcn ?_)
   first|refine zcp (by kernel_rfl) ?_|refine zcq PP_mixed (by kernel_rfl) (by kernel_rfl) ?_
   repeat' (refine zap rfl ?_; first|refine zdt rfl rfl rfl rfl rfl rfl (fun nb2 => ?_)|refine zan rfl ?_|refine zab 0 rfl rfl rfl ?_|refine zdz 1 2 rfl rfl rfl rfl rfl rfl rfl rfl (by omega) (fun _ _ => rfl) (fun a' cap' => ?_)|refine zae 0 rfl rfl rfl rfl rfl rfl rfl ?_)
   all_goals (refine zch ?_; repeat (first|refine zck ?_|refine zcl ?_|refine zcm ?_|refine zcn ?_))
   refine run_close (A := collS t2 (acc ++ [v])) [0, 0] rfl (fun h hs => collS_snoc h hs) ?_
   refine zec [0] rfl ?_
   exact run_nil ⟨rfl, rfl⟩
 · refine (keys1S w0 sh m es clock ml hX hn hb b1 t2 hi L lp hY).mono ?_
   rintro v Γ ⟨acc, h1, rfl⟩
   exact ⟨none, _, ⟨rfl, acc, h1, rfl⟩, rfl⟩
 · obtain ⟨rfl, acc, h1, rfl⟩ := h
   show Run _ _ _ _ _ _ _ _ _
   repeat (first|refine zck ?_|refine zcl ?_|refine zcm ?_|refine zcn ?_|refine zco ?_)
   refine run_open [1] (fun i : Option Addr × Nat => [pt t2 (.cells (List.toArray [.slice i.1 acc.length i.2]) 48 (0, 0)), SlA 9 1 i.1 acc.length i.2 (acc.flatMap encS)]) rfl (fun h ⟨a, c, hs⟩ => ⟨(a, c), hs⟩) (fun ⟨a, c⟩ => ?_)
   repeat (first|refine zck ?_|refine zcl ?_|refine zcm ?_|refine zcn ?_)
   first|refine zcp (by kernel_rfl) ?_|refine zcq PP_mixed (by kernel_rfl) (by kernel_rfl) ?_
   repeat' (refine zap rfl ?_; first|refine zan rfl ?_|refine zab 0 rfl rfl rfl ?_)
   all_goals (refine zch ?_; repeat (first|refine zck ?_|refine zcl ?_|refine zcm ?_|refine zcn ?_))
   refine zeg (leaves_mark [2] rfl (zek (zel [1] rfl (zem rfl rfl ⟨rfl, acc, a, c, h1, rfl, rfl⟩))))
theorem collectS (sh : Shared) (m : Option Nat) (es : List MapEntry) (clock : Nat) (ml : GM ByteArray) (hX : RdV kvS w0 sh m es clock ml) (hn : (ml.map (·.1)).Nodup) (hb : ml.length ≤ 100000) (b1 : Nat)
   (hi : ∀ x y : ByteArray, kvS x = kvS y → x = y) :
   Vc.Fn PP w0 ((b1, .cells (List.toArray [.map m]) 51 (0, 0)) :: sh) 47 [.func (.func 49) #[] #[.pointer (some ⟨b1, 0, none⟩)]] []
     (fun r Γ => ∃ (acc : List ByteArray) (a : Option Addr) (c : Nat), ToldS ml acc ∧ r = .slice a acc.length c ∧ Γ = [SlA 9 1 a acc.length c (acc.flatMap encS)]) := by
 refine zep en47 fn47 rfl rfl rfl ?_
 repeat (first|refine zck ?_|refine zcl ?_|refine zcm ?_|refine zcn ?_)
 first|refine zcp (by kernel_rfl) ?_|refine zcq PP_mixed (by kernel_rfl) (by kernel_rfl) ?_
 repeat' (refine zap rfl ?_; first|refine zan rfl ?_)
 all_goals (refine zch ?_; repeat (first|refine zck ?_|refine zcl ?_|refine zcm ?_|refine zcn ?_))
 first|refine zcp (by kernel_rfl) ?_|refine zcq PP_mixed (by kernel_rfl) (by kernel_rfl) ?_
 repeat' (refine zap rfl ?_; first|refine zan rfl ?_|(refine zai [] (appendS w0 sh m es clock ml hX hn hb b1 hi) rfl rfl rfl (fun _ h => h) ?_; rintro v Γ ⟨acc, a, c, h1, rfl, rfl⟩))
 all_goals (refine zch ?_; repeat (first|refine zck ?_|refine zcl ?_|refine zcm ?_|refine zcn ?_))
 exact zej rfl ⟨acc, a, c, h1, rfl, rfl⟩
theorem keysS (m : Option Nat) : Vc.Fn PP w0 [] 28 [.map m] [] (fun r Γ => ∃ b1, r = .func (.func 49) #[] #[.pointer (some ⟨b1, 0, none⟩)] ∧ Γ = [pt b1 (.cells (List.toArray [.map m]) 51 (0, 0))]) := by
 refine zep en28 fn28 rfl rfl rfl ?_
 repeat (first|refine zck ?_|refine zcl ?_|refine zcm ?_|refine zcn ?_)
 first|refine zcp (by kernel_rfl) ?_|refine zcq PP_mixed (by kernel_rfl) (by kernel_rfl) ?_
 repeat' (refine zap rfl ?_; first|refine zan rfl ?_|refine zaq (cs := [_]) rfl (fun nb => ?_))
 all_goals (refine zch ?_; repeat (first|refine zck ?_|refine zcl ?_|refine zcm ?_|refine zcn ?_))
 first|refine zcp (by kernel_rfl) ?_|refine zcq PP_mixed (by kernel_rfl) (by kernel_rfl) ?_
 repeat' (refine zap rfl ?_; first|refine zan rfl ?_)
 all_goals (refine zch ?_; repeat (first|refine zck ?_|refine zcl ?_|refine zcm ?_|refine zcn ?_))
 exact zej rfl ⟨_, rfl, rfl⟩
end Go.Proofs.YtikackodhiollaaGreatDoor
namespace Go.Proofs.YtikackodhiollaaGreatDoor
variable (w0 : World)
open Go.Sort (pdq)open Go.Vc
theorem isNaN_specL (x : Int) : FnE PP w0 [] 200 [.int .i64 x] [] (.bool false) [] := by
 refine zep en200 fn200 rfl rfl rfl ?_
 repeat' (first|refine zck ?_|refine zcp (by kernel_rfl) ?_|(refine zap rfl ?_; first|refine zan rfl ?_|refine zan rfl ?_|refine zbp rfl rfl ?_)|refine zch ?_)
 refine zej rfl ⟨(show Value.bool (decide (x ≠ x)) = _ from ?_), rfl⟩
 simp
theorem less_specL (x y : Int) : FnE PP w0 [] 189 [.int .i64 x, .int .i64 y] [] (.bool (Go.Sort.ltInt x y)) [] := by
 refine zep en189 fn189 rfl rfl rfl ?_
 repeat' (first|refine zck ?_|refine zcp (by kernel_rfl) ?_|(refine zap rfl ?_; first|refine zaj rfl ?_|refine zak rfl ?_|refine zan rfl ?_|refine zan rfl ?_|refine zah [] (isNaN_specL w0 _) rfl rfl rfl zdj rfl ?_|refine zbq rfl rfl ?_|refine zbv rfl ?_)|refine zch ?_)
 refine zej rfl ⟨?_, rfl⟩
 rfl
open Go.Vc
open Go.Sort (ltInt swp insInner insOuter insertionSort)
theorem ins_stepL {a j : Nat} {d : Array Int} (h : a < j + 1) (hl : ltInt d[j + 1]! d[j]! = true) : insInner ltInt a (j + 1) d = insInner ltInt a j (swp d (j + 1) j) := by
 rw [insInner]; simp [h, hl]
theorem ins_stopL {a j : Nat} {d : Array Int} (hl : ltInt d[j + 1]! d[j]! = false) : insInner ltInt a (j + 1) d = d := by
 rw [insInner]; simp [hl]
theorem ins_endL {a j : Nat} {d : Array Int} (h : j ≤ a) : insInner ltInt a j d = d := by
 cases j with
 | zero => rfl
 | succ j => rw [insInner]; simp; omega
theorem insOuter_ltL {a b i : Nat} {d : Array Int} (h : i < b) : insOuter ltInt a b i d = insOuter ltInt a b (i + 1) (insInner ltInt a i d) := by
 rw [insOuter, if_pos h]
theorem insOuter_geL {a b i : Nat} {d : Array Int} (h : b ≤ i) : insOuter ltInt a b i d = d := by
 rw [insOuter, if_neg (by omega)]
theorem ins_specL (bb N cap : Nat) (D : Array Int) (a b : Nat) (hN : N ≤ 4611686018427387903) (hab : a ≤ b) (hb : b ≤ N) (hD : D.size = N) :
   FnE PP w0 [] 183 [.slice (some ⟨bb, 0, none⟩) N cap, .int .i64 a, .int .i64 b] [Dat 24 bb N cap D] (.tuple #[]) [Dat 24 bb N cap (insertionSort ltInt D a b)] := by
 refine zep en183 fn183 rfl rfl rfl ?_
 repeat' (first|refine zck ?_|refine zcp (by kernel_rfl) ?_|refine zcl ?_|(refine zap rfl ?_; first|refine zan rfl ?_|refine zan rfl ?_|refine zau rfl rfl (by omega) ?_)|refine zch ?_)
 refine run_loop (S := Nat × Array Int) (fun s => [(0, .slice (some ⟨bb, 0, none⟩) N cap), (1, .int .i64 a), (2, .int .i64 b), (6, .int .i64 s.1)])
   (fun s Γ => Γ = [Dat 24 bb N cap s.2] ∧ a < s.1 ∧ s.1 ≤ b + 1 ∧ s.2.size = N ∧ insOuter ltInt a b s.1 s.2 = insertionSort ltInt D a b)
   (fun s => b + 1 - s.1) (a + 1, D) ⟨rfl, rfl, rfl, rfl, trivial⟩ ⟨rfl, by omega, by omega, hD, rfl⟩ ?_
 rintro ⟨i, d⟩ Γ junk ⟨rfl, h1, h2, h3, h4⟩
 dsimp only at h1 h2 h3 h4 ⊢
 by_cases hi : i < b
 · repeat' (first|refine zck ?_|refine zcp (by kernel_rfl) ?_|refine zcm ?_|refine zcl ?_|(refine zap rfl ?_; first|refine zan rfl ?_|refine zan rfl ?_|refine zbg rfl rfl (by omega) ?_)|refine zch ?_|refine zci rfl ?_)
   refine run_loop (S := Nat × Array Int) (fun s => [(0, .slice (some ⟨bb, 0, none⟩) N cap), (1, .int .i64 a), (2, .int .i64 b), (6, .int .i64 i), (7, .int .i64 s.1)])
     (fun s Γ => Γ = [Dat 24 bb N cap s.2] ∧ a ≤ s.1 ∧ s.1 ≤ i ∧ s.2.size = N ∧ insInner ltInt a s.1 s.2 = insInner ltInt a i d)
     (fun s => s.1) (i, d) ⟨rfl, rfl, rfl, rfl, rfl, trivial⟩ ⟨rfl, by omega, by omega, h3, rfl⟩ ?_
   rintro ⟨j, e⟩ Γ junk ⟨rfl, g1, g2, g3, g4⟩
   dsimp only at g1 g2 g3 g4 ⊢
   by_cases hj : a < j
   · obtain ⟨j, rfl⟩ : ∃ m, j = m + 1 := ⟨j - 1, by omega⟩
     repeat' (first|refine zck ?_|refine zeh PP_mixed (by kernel_rfl) (by kernel_rfl) ?_|(refine zap rfl ?_; first|refine reg_load_d 0 rfl rfl (by omega) ?_|refine zaj rfl ?_|refine zan rfl ?_|refine zah [] (less_specL w0 _ _) rfl rfl rfl zdj rfl ?_|refine zbk rfl rfl (by omega) ?_|refine zav rfl rfl (by omega) ?_|refine zbu rfl ?_|refine zas rfl rfl (by omega) ?_)|refine zch ?_)
     have e1 : ((j + 1 : Nat) : Int).toNat = j + 1 := by omega
     have e2 : (((j + 1 : Nat) : Int) - 1).toNat = j := by omega
     refine zed rfl (fun hE => ?_) (fun hE => ?_)
     · repeat' (first|refine zck ?_|refine zcp (by kernel_rfl) ?_|refine zeh PP_mixed (by kernel_rfl) (by kernel_rfl) ?_|refine zcm ?_|refine zcl ?_|refine zcn ?_|(refine zap rfl ?_; first|refine reg_load_d 0 rfl rfl (by omega) ?_|refine reg_store_d 0 rfl rfl rfl (by omega) rfl ?_|refine zan rfl ?_|refine zan rfl ?_|refine zav rfl rfl (by omega) ?_|refine zas rfl rfl (by omega) ?_)|refine zch ?_)
       rw [e1, e2] at hE
       refine zeq ⟨rfl, (j, swp e (j + 1) j), ⟨rfl, rfl, rfl, rfl, zes (by omega), trivial⟩, ⟨?_, by omega, by omega, ?_, ?_⟩, by omega⟩
       · rw [e1, e2]; rfl
       · rw [Go.Sort.size_swp]; exact g3
       · rw [← g4, ins_stepL hj (decide_eq_true hE)]
     · rw [e1, e2] at hE
       refine zer rfl rfl ?_
       repeat' (first|refine zcp (by kernel_rfl) ?_|refine zcn ?_|(refine zap rfl ?_; first|refine zan rfl ?_|refine zan rfl ?_|refine zau rfl rfl (by omega) ?_)|refine zch ?_)
       refine zeq ⟨rfl, (i + 1, e), ⟨rfl, rfl, rfl, zes (by omega), trivial⟩, ⟨rfl, by omega, by omega, g3, ?_⟩, by omega⟩
       rw [ins_stopL (decide_eq_false hE)] at g4
       rw [← h4, insOuter_ltL hi, ← g4]
   · repeat' (first|refine zck ?_|refine zeh PP_mixed (by kernel_rfl) (by kernel_rfl) ?_|(refine zap rfl ?_; first|refine zak rfl ?_|refine zan rfl ?_|refine zbl rfl rfl (by omega) ?_|refine zbv rfl ?_)|refine zch ?_|refine zcj rfl ?_)
     refine zer rfl rfl ?_
     repeat' (first|refine zcp (by kernel_rfl) ?_|refine zcn ?_|(refine zap rfl ?_; first|refine zan rfl ?_|refine zan rfl ?_|refine zau rfl rfl (by omega) ?_)|refine zch ?_)
     refine zeq ⟨rfl, (i + 1, e), ⟨rfl, rfl, rfl, zes (by omega), trivial⟩, ⟨rfl, by omega, by omega, g3, ?_⟩, by omega⟩
     rw [ins_endL (by omega)] at g4
     rw [← h4, insOuter_ltL hi, ← g4]
 · repeat' (first|refine zck ?_|refine zcp (by kernel_rfl) ?_|(refine zap rfl ?_; first|refine zan rfl ?_|refine zbh rfl rfl (by omega) ?_)|refine zch ?_|refine zcj rfl ?_)
   refine zer rfl rfl ?_
   repeat' (first|refine zck ?_|(refine zap rfl ?_; first|refine zaj rfl ?_|refine zak rfl ?_|refine zal rfl ?_|refine zam rfl rfl (fun _ => ?_) (fun _ => ?_))|refine zch ?_)
   refine end_tmp0 rfl ⟨rfl, ?_⟩
   rw [← h4, insOuter_geL (by omega)]
theorem pdq_smallL {d : Array Int} {a b limit : Nat} {wb wp : Bool} (h : b - a ≤ 12) : pdq ltInt d a b limit wb wp = insertionSort ltInt d a b := by
 rw [pdq, if_pos h]
theorem ins_nilL (v : Value) : FnE PP w0 [] 183 [v, .int .i64 0, .int .i64 0] [] (.tuple #[]) [] := by
 refine zep en183 fn183 rfl rfl rfl ?_
 repeat' (first|refine zck ?_|refine zcp (by kernel_rfl) ?_|refine zcl ?_|(refine zap rfl ?_; first|refine zan rfl ?_|refine zan rfl ?_|refine zau rfl rfl (by omega) ?_)|refine zch ?_)
 refine zet ?_
 repeat' (first|refine zck ?_|refine zcp (by kernel_rfl) ?_|refine zcs rfl ?_|(refine zap rfl ?_; first|refine zan rfl ?_|refine zbh rfl rfl (by omega) ?_)|refine zch ?_|refine zcj rfl ?_)
 exact end_tmp0 rfl ⟨rfl, rfl⟩
theorem pdq_nilL (v : Value) (lim : Int) : FnE PP w0 [] 176 [v, .int .i64 0, .int .i64 0, .int .i64 lim] [] (.tuple #[]) [] := by
 refine zep en176 fn176 rfl rfl rfl ?_
 repeat' (first|refine zck ?_|refine zcp (by kernel_rfl) ?_|refine zcl ?_|(refine zap rfl ?_; first|refine zan rfl ?_)|refine zch ?_)
 refine zet ?_
 repeat' (first|refine zck ?_|refine zcp (by kernel_rfl) ?_|refine zcl ?_|(refine zap rfl ?_; first|refine zan rfl ?_|refine zan rfl ?_|refine zah [] (ins_nilL w0 _) rfl rfl rfl zdj rfl ?_|refine zbi rfl rfl (by omega) ?_|refine zav rfl rfl (by omega) ?_)|refine zch ?_|refine zci rfl ?_)
 exact qret0 (fun _ _ h => h) rfl ⟨rfl, rfl⟩
theorem pdq_fewL (bb N cap : Nat) (D : Array Int) (hN : N ≤ 12) (hD : D.size = N) (lim : Int) :
   FnE PP w0 [] 176 [.slice (some ⟨bb, 0, none⟩) N cap, .int .i64 0, .int .i64 N, .int .i64 lim] [Dat 24 bb N cap D] (.tuple #[]) [Dat 24 bb N cap (insertionSort ltInt D 0 N)] := by
 have hI := ins_specL w0 bb N cap D 0 N (by omega) (by omega) (Nat.le_refl _) hD
 refine zep en176 fn176 rfl rfl rfl ?_
 repeat' (first|refine zck ?_|refine zcp (by kernel_rfl) ?_|refine zcl ?_|(refine zap rfl ?_; first|refine zan rfl ?_)|refine zch ?_)
 refine zet ?_
 repeat' (first|refine zck ?_|refine zcp (by kernel_rfl) ?_|refine zcl ?_|(refine zap rfl ?_; first|refine zan rfl ?_|refine zan rfl ?_|refine zah [0] hI rfl rfl rfl zdj rfl ?_|refine zbi rfl rfl (by omega) ?_|refine zav rfl rfl (by omega) ?_)|refine zch ?_|refine zci rfl ?_)
 exact qret0 (fun _ _ h => h) rfl ⟨rfl, rfl⟩
theorem sort_fewL (a : Option Addr) (N cap : Nat) (l : List Int) (hN : N ≤ 12) (hl : l.length = N) :
   FnE PP w0 [] 166 [.slice a N cap] [SlA 24 1 a N cap (intsV l)] (.tuple #[]) [SlA 24 1 a N cap (intsV (l.mergeSort fun x y => decide (x ≤ y)))] := by
 refine zep en166 fn166 rfl rfl rfl ?_
 refine run_sl_cases 0 rfl ?_ ?_
 · intro h1 h2 h3 h4
   subst h1; subst h2; subst h3
   have hl0 : l = [] := List.eq_nil_of_length_eq_zero hl
   subst hl0
   repeat' (first|refine zck ?_|refine zcp (by kernel_rfl) ?_|(refine zap rfl ?_; first|refine reg_convN ((0 : Nat) : Int) rfl (by decide) ?_|refine zan rfl ?_|refine zan rfl ?_|refine zah [] (blen_spec w0 0 (by omega)) rfl rfl rfl zdj rfl ?_|refine zah [] (pdq_nilL w0 _ _) rfl rfl rfl zdj rfl ?_|refine zce rfl ?_)|refine zch ?_)
   exact end_tmp0 rfl ⟨rfl, by rw [List.mergeSort_nil]; rfl⟩
 · intro nb h1 h2 h3
   subst h1
   have hP := pdq_fewL w0 nb N cap l.toArray hN (by simpa using hl) (Go.Sort.bitsLen N : Nat)
   have hS := Go.Sort.sortInt l
   unfold Go.Sort.sort at hS
   rw [List.size_toArray, hl, pdq_smallL (by omega)] at hS
   unfold Dat at hP
   rw [hS] at hP
   repeat' (first|refine zck ?_|refine zcp (by kernel_rfl) ?_|(refine zap rfl ?_; first|refine reg_convN ((N : Nat) : Int) rfl (by rw [IntKind.wrap_u64]; omega) ?_|refine zan rfl ?_|refine zan rfl ?_|refine zah [] (blen_spec w0 N (by omega)) rfl rfl rfl zdj rfl ?_|refine zah [0] hP rfl rfl rfl zdj rfl ?_|refine zce rfl ?_)|refine zch ?_)
   exact end_tmp0 rfl ⟨rfl, rfl⟩
end Go.Proofs.YtikackodhiollaaGreatDoor
namespace Sim.Tx
open Go Go.Vc Sim
theorem flat_one {α β : Type} (f : α → β) (l : List α) : l.flatMap (fun x => [f x]) = l.map f := by
 induction l with
 | nil => rfl
 | cons a l ih => rw [List.flatMap_cons, ih]; rfl
theorem two_max : ∀ {l : List Int}, l.Nodup → (∀ x ∈ l, x = 0 ∨ x = 1) → l.length ≤ 2
 | [], _, _ => by simp
 | [_], _, _ => by simp
 | [_, _], _, _ => by simp
 | a :: b :: c :: l, h, hx => by
   exfalso
   have h1 := hx a (by simp)
   have h2 := hx b (by simp)
   have h3 := hx c (by simp)
   obtain ⟨n1, h⟩ := List.nodup_cons.1 h
   obtain ⟨n2, _⟩ := List.nodup_cons.1 h
   have e1 : a ≠ b := fun e => n1 (by rw [e]; simp)
   have e2 : a ≠ c := fun e => n1 (by rw [e]; simp)
   have e3 : b ≠ c := fun e => n2 (by rw [e]; simp)
   omega
end Sim.Tx
namespace Go.Proofs.YtikackodhiollaaGreatDoor
variable (w0 : World)
open Go.Vc Sim Sim.Tx
set_option maxHeartbeats 4000000
theorem kvL_inj : ∀ x y : Int, kvL x = kvL y → x = y := fun x y h => by injection h
theorem kvS_inj : ∀ x y : ByteArray, kvS x = kvS y → x = y := fun x y h => by injection h
theorem sortedL (sh : Shared) (m : Option Nat) (es : List MapEntry) (clock : Nat) (ml : GM Int) (hX : RdV kvL w0 sh m es clock ml) (hv : VwOk ml) (b1 : Nat) :
   Vc.Fn PP w0 sh 150 [.func (.func 167) #[] #[.pointer (some ⟨b1, 0, none⟩)]] [pt b1 (.cells (List.toArray [.map m]) 163 (0, 0))]
     (fun r Γ' => ∃ Γ'', (∃ (l : List Int) (a : Option Addr) (c : Nat), (l.length ≤ 2 ∧ ∀ x ∈ l, x = 0 ∨ x = 1) ∧ r = .slice a l.length c ∧ Γ'' = [SlA 24 1 a l.length c (l.map kvL)]) ∧ Γ' = Γ'' ++ [pt b1 (.cells (List.toArray [.map m]) 163 (0, 0))]) := by
 refine Fn.owned (R := fun r Γ'' => ∃ (l : List Int) (a : Option Addr) (c : Nat), (l.length ≤ 2 ∧ ∀ x ∈ l, x = 0 ∨ x = 1) ∧ r = .slice a l.length c ∧ Γ'' = [SlA 24 1 a l.length c (l.map kvL)]) ?_
 have hmk : ∀ x ∈ ml.map (·.1), x = 0 ∨ x = 1 := fun x hx => by
   obtain ⟨p, hp, rfl⟩ := List.mem_map.1 hx
   exact (hv.2 p hp).1
 have hml : ml.length ≤ 2 := by
   have := two_max hv.1 hmk
   rwa [List.length_map] at this
 have hc := collectL w0 sh m es clock ml hX hv.1 (by omega) b1 kvL_inj
 refine zep en150 fn150 rfl rfl rfl ?_
 repeat (first|refine zck ?_|refine zcl ?_|refine zcm ?_|refine zcn ?_)
 first|refine zcp (by kernel_rfl) ?_|refine zcq PP_mixed (by kernel_rfl) (by kernel_rfl) ?_
 repeat' (refine zap rfl ?_; first|refine zan rfl ?_)
 all_goals (refine zch ?_; repeat (first|refine zck ?_|refine zcl ?_|refine zcm ?_|refine zcn ?_))
 first|refine zcp (by kernel_rfl) ?_|refine zcq PP_mixed (by kernel_rfl) (by kernel_rfl) ?_
 repeat' (refine zap rfl ?_; first|refine zan rfl ?_|(refine zai [] hc rfl rfl rfl (fun _ h => h) ?_; rintro v Γ ⟨acc, a, c, h1, rfl, rfl⟩))
 all_goals (refine zch ?_; repeat (first|refine zck ?_|refine zcl ?_|refine zcm ?_|refine zcn ?_))
 rw [show acc.flatMap encL = intsV acc from flat_one _ _]
 have hacc : ∀ x ∈ acc, x = 0 ∨ x = 1 := fun x hx => hmk x ((h1.2.1 x).1 hx)
 have hal : acc.length ≤ 2 := by have := h1.2.2; omega
 have hs := sort_fewL w0 a acc.length c acc (by omega) rfl
 repeat (first|refine zck ?_|refine zcl ?_|refine zcm ?_|refine zcn ?_)
 first|refine zcp (by kernel_rfl) ?_|refine zcq PP_mixed (by kernel_rfl) (by kernel_rfl) ?_
 repeat' (refine zap rfl ?_; first|refine zan rfl ?_|refine zah [0] hs rfl rfl rfl zdj rfl ?_)
 all_goals (refine zch ?_; repeat (first|refine zck ?_|refine zcl ?_|refine zcm ?_|refine zcn ?_))
 first|refine zcp (by kernel_rfl) ?_|refine zcq PP_mixed (by kernel_rfl) (by kernel_rfl) ?_
 repeat' (refine zap rfl ?_; first|refine zan rfl ?_)
 all_goals (refine zch ?_; repeat (first|refine zck ?_|refine zcl ?_|refine zcm ?_|refine zcn ?_))
 have hp : (acc.mergeSort fun x y => decide (x ≤ y)).length = acc.length := List.length_mergeSort acc
 exact zej rfl ⟨acc.mergeSort fun x y => decide (x ≤ y), a, c, ⟨by omega, fun x hx => hacc x (List.mem_mergeSort.1 hx)⟩, by rw [hp]; rfl, by rw [hp]; rfl⟩
theorem viewLocs (sh : Shared) (m : Option Nat) (hm : RdVw w0 sh m) :
   Vc.Fn PP w0 sh 126 [viewV m] []
     (fun r Γ => ∃ (l : List Int) (a : Option Addr) (c : Nat), (l.length ≤ 2 ∧ ∀ x ∈ l, x = 0 ∨ x = 1) ∧ r = .slice a l.length c ∧ Γ = [SlA 24 1 a l.length c (l.map kvL)]) := by
 obtain ⟨es, clock, ml, hX, hv⟩ := hm
 refine zep en126 fn126 rfl rfl rfl ?_
 repeat (first|refine zck ?_|refine zcl ?_|refine zcm ?_|refine zcn ?_)
 first|refine zcp (by kernel_rfl) ?_|refine zcq PP_mixed (by kernel_rfl) (by kernel_rfl) ?_
 repeat' (refine zap rfl ?_; first|refine zan rfl ?_|refine zaq (cs := [_]) rfl (fun nb => ?_))
 all_goals (refine zch ?_; repeat (first|refine zck ?_|refine zcl ?_|refine zcm ?_|refine zcn ?_))
 refine zeb [0] rfl ?_
 repeat (first|refine zck ?_|refine zcl ?_|refine zcm ?_|refine zcn ?_)
 first|refine zcp (by kernel_rfl) ?_|refine zcq PP_mixed (by kernel_rfl) (by kernel_rfl) ?_
 repeat' (refine zap rfl ?_; first|refine zan rfl ?_|refine zaa 0 rfl rfl rfl ?_|(refine zai [] (keysL w0 m) rfl rfl rfl zdj ?_; rintro v Γ ⟨b1, rfl, rfl⟩)|(refine zai [0] (sortedL w0 sh m es clock ml hX hv _) rfl rfl rfl (fun p hp => .tail _ hp) ?_; rintro v Γ ⟨_, ⟨l, a, c, hl, rfl, rfl⟩, rfl⟩)|refine zao rfl ?_)
 all_goals (refine zch ?_; repeat (first|refine zck ?_|refine zcl ?_|refine zcm ?_|refine zcn ?_))
 exact zeg (zek (zel [0] rfl (zem rfl rfl ⟨rfl, l, a, c, hl, rfl, rfl⟩)))
theorem sortedS (sh : Shared) (m : Option Nat) (es : List MapEntry) (clock : Nat) (ml : GM ByteArray) (hX : RdV kvS w0 sh m es clock ml) (hn : (ml.map (·.1)).Nodup) (hb : ml.length ≤ 60000) (b1 : Nat) :
   Vc.Fn PP w0 sh 27 [.func (.func 49) #[] #[.pointer (some ⟨b1, 0, none⟩)]] [pt b1 (.cells (List.toArray [.map m]) 51 (0, 0))]
     (fun r Γ' => ∃ Γ'', (∃ (acc : List ByteArray) (a : Option Addr) (c : Nat), ToldS ml acc ∧ r = .slice a acc.length c ∧ Γ'' = [SlA 9 1 a acc.length c (strsV ((unB acc).mergeSort fun x y => decide (x ≤ y)))]) ∧ Γ' = Γ'' ++ [pt b1 (.cells (List.toArray [.map m]) 51 (0, 0))]) := by
 refine Fn.owned (R := fun r Γ'' => ∃ (acc : List ByteArray) (a : Option Addr) (c : Nat), ToldS ml acc ∧ r = .slice a acc.length c ∧ Γ'' = [SlA 9 1 a acc.length c (strsV ((unB acc).mergeSort fun x y => decide (x ≤ y)))]) ?_
 have hc := collectS w0 sh m es clock ml hX hn (by omega) b1 kvS_inj
 refine zep en27 fn27 rfl rfl rfl ?_
 repeat (first|refine zck ?_|refine zcl ?_|refine zcm ?_|refine zcn ?_)
 first|refine zcp (by kernel_rfl) ?_|refine zcq PP_mixed (by kernel_rfl) (by kernel_rfl) ?_
 repeat' (refine zap rfl ?_; first|refine zan rfl ?_)
 all_goals (refine zch ?_; repeat (first|refine zck ?_|refine zcl ?_|refine zcm ?_|refine zcn ?_))
 first|refine zcp (by kernel_rfl) ?_|refine zcq PP_mixed (by kernel_rfl) (by kernel_rfl) ?_
 repeat' (refine zap rfl ?_; first|refine zan rfl ?_|(refine zai [] hc rfl rfl rfl (fun _ h => h) ?_; rintro v Γ ⟨acc, a, c, h1, rfl, rfl⟩))
 all_goals (refine zch ?_; repeat (first|refine zck ?_|refine zcl ?_|refine zcm ?_|refine zcn ?_))
 have e1 : acc.flatMap encS = strsV (unB acc) := by
   rw [show acc.flatMap encS = acc.map kvS from flat_one _ _]
   unfold strsV unB
   rw [List.map_map]
   rfl
 rw [e1]
 have hal : acc.length ≤ 60000 := by have := h1.2.2; omega
 have hs := sort_spec w0 a acc.length c (unB acc) (by omega) (by unfold unB; rw [List.length_map])
 repeat (first|refine zck ?_|refine zcl ?_|refine zcm ?_|refine zcn ?_)
 first|refine zcp (by kernel_rfl) ?_|refine zcq PP_mixed (by kernel_rfl) (by kernel_rfl) ?_
 repeat' (refine zap rfl ?_; first|refine zan rfl ?_|refine zah [0] hs rfl rfl rfl zdj rfl ?_)
 all_goals (refine zch ?_; repeat (first|refine zck ?_|refine zcl ?_|refine zcm ?_|refine zcn ?_))
 first|refine zcp (by kernel_rfl) ?_|refine zcq PP_mixed (by kernel_rfl) (by kernel_rfl) ?_
 repeat' (refine zap rfl ?_; first|refine zan rfl ?_)
 all_goals (refine zch ?_; repeat (first|refine zck ?_|refine zcl ?_|refine zcm ?_|refine zcn ?_))
 exact zej rfl ⟨acc, a, c, h1, rfl, rfl⟩
end Go.Proofs.YtikackodhiollaaGreatDoor
namespace Sim.Tx
open Go Go.Vc Sim
def I64 (z : Int) : Prop := -9223372036854775808 ≤ z ∧ z ≤ 9223372036854775807
def RdMs (w0 : World) (sh : Shared) (h : Hs) (x : Int) (cnt : Nat) (ms : List Ms) : Prop :=
 h.n = ms.length ∧ RdCl w0 sh 5 h.a ms.length (ms.flatMap msgE) ∧ ms.length ≤ h.c ∧ (∀ m ∈ ms, RdVw w0 sh m.vw ∧ I64 m.v ∧ I64 m.th) ∧ ms.length ≤ cnt + 1 ∧ ∃ m, ms[ms.length - 1]? = some m ∧ m.v = x
def RdHs (w0 : World) (sh : Shared) (h : Hs) (x : Int) (cnt : Nat) : Prop := ∃ ms, RdMs w0 sh h x cnt ms
theorem RdHs.mono {w0 : World} {sh sh' : Shared} {h : Hs} {x : Int} {cnt cnt' : Nat} (hh : RdHs w0 sh h x cnt) (hs : ∀ p ∈ sh, p ∈ sh') (hc : cnt ≤ cnt') : RdHs w0 sh' h x cnt' := by
 obtain ⟨ms, h1, h2, h3, h4, h5, h6⟩ := hh
 exact ⟨ms, h1, h2.mono hs, h3, fun m hm => ⟨(h4 m hm).1.mono hs, (h4 m hm).2⟩, by omega, h6⟩
structure MemS where
 pa : Option Addr
 pc : Nat
 va : Option Addr
 vc : Nat
structure RdMem (w0 : World) (sh : Shared) (q : MemS) (h0 h1 : Hs) (vs : List (Option Nat)) : Prop where
 pl : RdCl w0 sh 1 q.pa 2 (hsE h0 ++ hsE h1)
 pcap : 2 ≤ q.pc
 vw : RdCl w0 sh 1 q.va 3 (vs.flatMap vwE)
 vcap : 3 ≤ q.vc
 len : vs.length = 3
 ok : ∀ m ∈ vs, RdVw w0 sh m
theorem RdMem.mono {w0 : World} {sh sh' : Shared} {q : MemS} {h0 h1 : Hs} {vs : List (Option Nat)} (h : RdMem w0 sh q h0 h1 vs) (hs : ∀ p ∈ sh, p ∈ sh') : RdMem w0 sh' q h0 h1 vs :=
 ⟨h.pl.mono hs, h.pcap, h.vw.mono hs, h.vcap, h.len, fun m hm => (h.ok m hm).mono hs⟩
def RdMm (w0 : World) (sh : Shared) (q : MemS) (x y : Int) (cnt : Nat) : Prop := ∃ h0 h1 vs, RdMem w0 sh q h0 h1 vs ∧ RdHs w0 sh h0 x cnt ∧ RdHs w0 sh h1 y cnt
theorem RdMm.mono {w0 : World} {sh sh' : Shared} {q : MemS} {x y : Int} {cnt cnt' : Nat} (h : RdMm w0 sh q x y cnt) (hs : ∀ p ∈ sh, p ∈ sh') (hc : cnt ≤ cnt') : RdMm w0 sh' q x y cnt' := by
 obtain ⟨h0, h1, vs, a, b, c⟩ := h
 exact ⟨h0, h1, vs, a.mono hs, b.mono hs hc, c.mono hs hc⟩
theorem vws_three {vs : List (Option Nat)} (h : vs.length = 3) : ∃ a b c, vs = [a, b, c] := by
 match vs, h with
 | [a, b, c], _ => exact ⟨a, b, c, rfl⟩
end Sim.Tx
namespace Go.Proofs.YtikackodhiollaaGreatDoor
variable (w0 : World)
open Go.Vc Sim Sim.Tx
set_option maxHeartbeats 4000000
abbrev memQ (q : MemS) : Value := memV q.pa 2 q.pc q.va 3 q.vc
theorem memWith (sh : Shared) (q : MemS) (h0 h1 : Hs) (vs : List (Option Nat)) (hq : RdMem w0 sh q h0 h1 vs) (m : Option Nat) (hm : RdVw w0 sh m) (t : Nat) (ht : t < 3) :
   Vc.Fn PP w0 sh 194 [memQ q, .int .i64 ((t : Int) + 1), viewV m] [] (fun r Γ => ∃ q', r = memQ q' ∧ Γ = [RdO sh (fun s => RdMem w0 s q' h0 h1 (vs.set t m))]) := by
 obtain ⟨pa, pc, va, vc⟩ := q
 obtain ⟨v1, v2, v3, rfl⟩ := vws_three hq.len
 obtain ⟨x1, x2, x3, x4, x5, x6⟩ := hq
 dsimp only at x1 x2 x3 x4 ⊢
 rcases (by omega : t = 0 ∨ t = 1 ∨ t = 2) with rfl | rfl | rfl
 all_goals
   refine zep en194 fn194 rfl rfl rfl ?_
   refine run_kept ?_
   repeat (first|refine zck ?_|refine zcl ?_|refine zcm ?_|refine zcn ?_)
   first|refine zcp (by kernel_rfl) ?_|refine zcq PP_mixed (by kernel_rfl) (by kernel_rfl) ?_
   repeat' (refine zap rfl ?_; first|refine zar (fun t6 => ?_)|refine zaq (cs := [_]) rfl (fun nb => ?_)|refine zaq (cs := [_, _]) rfl (fun nb => ?_))
   all_goals (refine zch ?_; repeat (first|refine zck ?_|refine zcl ?_|refine zcm ?_|refine zcn ?_))
   refine run_shareK [1] rfl ?_
   repeat (first|refine zck ?_|refine zcl ?_|refine zcm ?_|refine zcn ?_)
   first|refine zcp (by kernel_rfl) ?_|refine zcq PP_mixed (by kernel_rfl) (by kernel_rfl) ?_
   repeat' (refine zap rfl ?_; first|refine reg_makeSlice rfl rfl rfl (by omega) (by decide) (fun nb => ?_)|refine zan rfl ?_|refine zab 0 rfl rfl rfl ?_|refine zce rfl ?_|refine zao rfl ?_)
   all_goals (refine zch ?_; repeat (first|refine zck ?_|refine zcl ?_|refine zcm ?_|refine zcn ?_))
   repeat (first|refine zck ?_|refine zcl ?_|refine zcm ?_|refine zcn ?_|refine zco ?_)
   repeat (first|refine zck ?_|refine zcl ?_|refine zcm ?_|refine zcn ?_)
   first|refine zcp (by kernel_rfl) ?_|refine zcq PP_mixed (by kernel_rfl) (by kernel_rfl) ?_
   repeat' (refine zap rfl ?_; first|refine zan rfl ?_|refine zab 0 rfl rfl rfl ?_|refine reg_copy 2 rfl rfl (x3.mono (fun p hp => .tail _ hp)) rfl rfl rfl rfl ?_|refine zao rfl ?_)
   all_goals (refine zch ?_; repeat (first|refine zck ?_|refine zcl ?_|refine zcm ?_|refine zcn ?_))
   repeat (first|refine zck ?_|refine zcl ?_|refine zcm ?_|refine zcn ?_|refine zco ?_)
   repeat (first|refine zck ?_|refine zcl ?_|refine zcm ?_|refine zcn ?_)
   first|refine zcp (by kernel_rfl) ?_|refine zcq PP_mixed (by kernel_rfl) (by kernel_rfl) ?_
   repeat' (refine zap rfl ?_; first|refine zas rfl rfl (by omega) ?_|refine zan rfl ?_|refine zaa 0 rfl rfl rfl ?_|refine zav rfl rfl (by omega) ?_|refine zae 2 rfl rfl rfl rfl rfl rfl rfl ?_)
   all_goals (refine zch ?_; repeat (first|refine zck ?_|refine zcl ?_|refine zcm ?_|refine zcn ?_))
   repeat (first|refine zck ?_|refine zcl ?_|refine zcm ?_|refine zcn ?_|refine zco ?_)
   repeat (first|refine zck ?_|refine zcl ?_|refine zcm ?_|refine zcn ?_)
   first|refine zcp (by kernel_rfl) ?_|refine zcq PP_mixed (by kernel_rfl) (by kernel_rfl) ?_
   repeat' (refine zap rfl ?_; first|refine zan rfl ?_|refine zao rfl ?_|refine zae 0 rfl rfl rfl rfl rfl rfl rfl ?_)
   all_goals (refine zch ?_; repeat (first|refine zck ?_|refine zcl ?_|refine zcm ?_|refine zcn ?_))
   repeat (first|refine zck ?_|refine zcl ?_|refine zcm ?_|refine zcn ?_|refine zco ?_)
   repeat (first|refine zck ?_|refine zcl ?_|refine zcm ?_|refine zcn ?_)
   first|refine zcp (by kernel_rfl) ?_|refine zcq PP_mixed (by kernel_rfl) (by kernel_rfl) ?_
   repeat' (refine zap rfl ?_; first|refine zab 0 rfl rfl rfl ?_|refine zae 1 rfl rfl rfl rfl rfl rfl rfl ?_)
   all_goals (refine zch ?_; repeat (first|refine zck ?_|refine zcl ?_|refine zcm ?_|refine zcn ?_))
   repeat (first|refine zck ?_|refine zcl ?_|refine zcm ?_|refine zcn ?_|refine zco ?_)
   refine run_shareK [2] rfl ?_
   refine retK [] (fun s => RdMem w0 s ⟨pa, pc, some ⟨nb, 0, none⟩, 3⟩ h0 h1 _) (fun _ hs => RdMem.mono ⟨x1.mono (fun p hp => .tail _ (.tail _ hp)), x2, .inr ⟨nb, 0, _, _, _, rfl, fun hF Γ w hsh hst => (hst.frame (hsh _ (.head _))).2, rfl, Nat.le_refl _⟩, Nat.le_refl _, rfl, fun z hz => ?_⟩ hs) rfl (zem rfl (zeo 1 rfl rfl rfl) ⟨rfl, _, rfl, rfl⟩)
   rcases List.mem_or_eq_of_mem_set hz with hz | e
   · exact (x6 z hz).mono (fun p hp => .tail _ (.tail _ hp))
   · rw [e]; exact hm.mono (fun p hp => .tail _ (.tail _ hp))
end Go.Proofs.YtikackodhiollaaGreatDoor
namespace Sim.Tx
open Go Go.Vc Sim
def pick2 {α : Type} (b : Bool) (x y : α) : α := if b = true then y else x
theorem plI_b (b : Bool) : plI b = ((if b = true then 1 else 0 : Nat) : Int) := by cases b <;> rfl
theorem RdMem.row {w0 : World} {sh : Shared} {q : MemS} {h0 h1 : Hs} {vs : List (Option Nat)} (h : RdMem w0 sh q h0 h1 vs) : RdSl w0 sh hsE 1 (.slice q.pa 2 q.pc) [h0, h1] := RdCl.sl (l := [h0, h1]) (fun _ _ => rfl) h.pl h.pcap
theorem RdMem.views {w0 : World} {sh : Shared} {q : MemS} {h0 h1 : Hs} {vs : List (Option Nat)} (h : RdMem w0 sh q h0 h1 vs) : RdSl w0 sh vwE 1 (.slice q.va 3 q.vc) vs := by
 have h1 := h.vw
 have h2 := h.vcap
 rw [← h.len] at h1 h2 ⊢
 exact RdCl.sl (fun _ _ => rfl) h1 h2
theorem RdMs.row {w0 : World} {sh : Shared} {h : Hs} {x : Int} {cnt : Nat} {ms : List Ms} (hh : RdMs w0 sh h x cnt ms) : RdSl w0 sh msgE 5 (.slice h.a ms.length h.c) ms := RdCl.sl (fun _ _ => rfl) hh.2.1 hh.2.2.1
theorem RdMs.mono {w0 : World} {sh sh' : Shared} {h : Hs} {x : Int} {cnt : Nat} {ms : List Ms} (hh : RdMs w0 sh h x cnt ms) (hs : ∀ p ∈ sh, p ∈ sh') : RdMs w0 sh' h x cnt ms := by
 obtain ⟨h1, h2, h3, h4, h5, h6⟩ := hh
 exact ⟨h1, h2.mono hs, h3, fun m hm => ⟨(h4 m hm).1.mono hs, (h4 m hm).2⟩, h5, h6⟩
end Sim.Tx
namespace Go.Proofs.YtikackodhiollaaGreatDoor
variable (w0 : World)
open Go.Vc Sim Sim.Tx
set_option maxHeartbeats 4000000
abbrev wordV (v : Int) : Value := .agg (List.toArray [.int .i64 v, .int .u32 0, .int .u32 0])
theorem memFinds (sh : Shared) (q : MemS) (h0 h1 : Hs) (vs : List (Option Nat)) (hq : RdMem w0 sh q h0 h1 vs) (b : Bool) (x : Int) (cnt : Nat) (hc : cnt ≤ 1000) (ms : List Ms) (hms : RdMs w0 sh (pick2 b h0 h1) x cnt ms) (i : Nat) (m : Ms) (hi : ms[i]? = some m) (t : Nat) (ht : t < 3) :
   Vc.Fn PP w0 sh 195 [memQ q, .int .i64 ((t : Int) + 1), .int .i64 (plI b), .int .i64 i, .bool true] []
     (fun r Γ => ∃ q', r = .tuple #[memQ q', wordV m.v] ∧ Γ = [RdO sh (fun s => ∃ vs', RdMem w0 s q' h0 h1 vs')]) := by
 have hb1 : [h0, h1][(if b = true then 1 else 0 : Nat)]? = some (pick2 b h0 h1) := by cases b <;> rfl
 obtain ⟨bb, off, cc, T, fr, ea, e2, e3, _⟩ := hq.row.cells hb1
 have hpl : 0 ≤ plI b ∧ plI b ≤ 1 := by cases b <;> decide
 have hil := (List.getElem?_eq_some_iff.1 hi).1
 have hlen := hms.2.2.2.2.1
 have hAt := hisAt w0 sh ms (pick2 b h0 h1).a (pick2 b h0 h1).c hms.row i m hi
 obtain ⟨va, hva⟩ : ∃ v, vs[t]? = some v := ⟨_, List.getElem?_eq_getElem (by rw [hq.len]; exact ht)⟩
 have hvv := hq.views
 have hvl := hq.len
 obtain ⟨pa, pc, vad, vc⟩ := q
 dsimp only at ea e2 e3 hvv ⊢
 subst ea
 have hSeen := memSeen w0 sh (some ⟨bb, off, none⟩) 2 pc vad vc vs (by rw [hvl]; exact hvv) t va hva (by omega)
 rw [hvl] at hSeen
 have hWith := viewWith w0 sh va (hq.ok va (List.mem_of_getElem? hva)) (plI b) (by omega) i (by omega)
 unfold WithF at hWith
 have hn := hms.1
 rw [← hn] at hAt
 obtain ⟨mv, mt, mw⟩ := m
 dsimp only at hAt ⊢
 generalize hg : pick2 b h0 h1 = g at *
 obtain ⟨ga, gn, gc⟩ := g
 dsimp only at hAt hn
 refine zep en195 fn195 rfl rfl rfl ?_
 refine run_kept ?_
 repeat (first|refine zck ?_|refine zcl ?_|refine zcm ?_|refine zcn ?_)
 first|refine zcp (by kernel_rfl) ?_|refine zcq PP_mixed (by kernel_rfl) (by kernel_rfl) ?_
 repeat' (refine zap rfl ?_; first|refine zar (fun t10 => ?_)|refine zaq (cs := [_, _]) rfl (fun nb => ?_))
 all_goals (refine zch ?_; repeat (first|refine zck ?_|refine zcl ?_|refine zcm ?_|refine zcn ?_))
 refine run_shareK [0] rfl ?_
 repeat (first|refine zck ?_|refine zcl ?_|refine zcm ?_|refine zcn ?_)
 first|refine zcp (by kernel_rfl) ?_|refine zcq PP_mixed (by kernel_rfl) (by kernel_rfl) ?_
 repeat' (refine zap rfl ?_; first|refine zas rfl rfl (by omega) ?_|refine zar (fun t12 => ?_)|refine zad rfl (fun hF Γ w h1 h2 => e2 hF Γ w (fun p hp => h1 p (.tail _ hp)) h2) (e3 _ (by have := plI_b b; omega)) ?_|refine zan rfl ?_|refine zaa 0 rfl rfl rfl ?_|refine zah [] hAt rfl rfl rfl (fun p hp => .tail _ hp) rfl ?_|refine zao rfl ?_|refine zae 2 rfl rfl rfl rfl rfl rfl rfl ?_)
 all_goals (refine zch ?_; repeat (first|refine zck ?_|refine zcl ?_|refine zcm ?_|refine zcn ?_))
 repeat (first|refine zck ?_|refine zcl ?_|refine zcm ?_|refine zcn ?_|refine zco ?_)
 repeat (first|refine zck ?_|refine zcl ?_|refine zcm ?_|refine zcn ?_)
 first|refine zcp (by kernel_rfl) ?_|refine zcq PP_mixed (by kernel_rfl) (by kernel_rfl) ?_
 repeat' (refine zap rfl ?_; first|refine zar (fun t14 => ?_)|refine zan rfl ?_|refine zaa 0 rfl rfl rfl ?_|refine zah [] hSeen rfl rfl rfl (fun p hp => .tail _ hp) rfl ?_|(refine zai [] hWith rfl rfl rfl (fun p hp => .tail _ hp) ?_; rintro v Γ ⟨m1, rfl, rfl⟩)|refine zae 4 rfl rfl rfl rfl rfl rfl rfl ?_)
 all_goals (refine zch ?_; repeat (first|refine zck ?_|refine zcl ?_|refine zcm ?_|refine zcn ?_))
 repeat (first|refine zck ?_|refine zcl ?_|refine zcm ?_|refine zcn ?_|refine zco ?_)
 refine run_shareO [0] (fun _ hp => .tail _ hp) rfl ?_
 intro bl hs hu hv1
 have hv1 := hv1.mono hu
 have hvm := (hms.2.2.2.1 _ (List.mem_of_getElem? hi)).1.mono (fun p hp => hs p (.tail _ hp))
 have hJ := viewJoin w0 _ m1 mw hv1 hvm
 unfold JoinF at hJ
 repeat (first|refine zck ?_|refine zcl ?_|refine zcm ?_|refine zcn ?_)
 first|refine zcp (by kernel_rfl) ?_|refine zcq PP_mixed (by kernel_rfl) (by kernel_rfl) ?_
 repeat' (refine zap rfl ?_; first|refine zan rfl ?_)
 all_goals (refine zch ?_; repeat (first|refine zck ?_|refine zcl ?_|refine zcm ?_|refine zcn ?_))
 refine zci rfl ?_
 repeat (first|refine zck ?_|refine zcl ?_|refine zcm ?_|refine zcn ?_|refine zco ?_)
 repeat (first|refine zck ?_|refine zcl ?_|refine zcm ?_|refine zcn ?_)
 first|refine zcp (by kernel_rfl) ?_|refine zcq PP_mixed (by kernel_rfl) (by kernel_rfl) ?_
 repeat' (refine zap rfl ?_; first|refine zab 2 rfl rfl rfl ?_|refine zab 3 rfl rfl rfl ?_|(refine zai [] hJ rfl rfl rfl (fun _ hp => hp) ?_; rintro v Γ ⟨m2, rfl, rfl⟩)|refine zao rfl ?_|refine zae 4 rfl rfl rfl rfl rfl rfl rfl ?_)
 all_goals (refine zch ?_; repeat (first|refine zck ?_|refine zcl ?_|refine zcm ?_|refine zcn ?_))
 repeat (first|refine zck ?_|refine zcl ?_|refine zcm ?_|refine zcn ?_|refine zco ?_)
 refine run_shareO [0] (fun _ hp => hp) rfl ?_
 intro bl2 hs2 hu2 hv2
 have hv2 := hv2.mono hu2
 have hW := memWith w0 _ ⟨some ⟨bb, off, none⟩, pc, vad, vc⟩ h0 h1 vs (hq.mono (fun p hp => hs2 p (hs p (.tail _ hp)))) m2 hv2 t ht
 refine run_shareK [2] rfl ?_
 refine run_shareK [2] rfl ?_
 repeat (first|refine zck ?_|refine zcl ?_|refine zcm ?_|refine zcn ?_)
 first|refine zcp (by kernel_rfl) ?_|refine zcq PP_mixed (by kernel_rfl) (by kernel_rfl) ?_
 repeat' (refine zap rfl ?_; first|refine zan rfl ?_|refine zaa 0 rfl rfl rfl ?_|refine zaa 1 rfl rfl rfl ?_|refine zaa 2 rfl rfl rfl ?_|(refine zai [] hW rfl rfl rfl (fun _ hp => .tail _ (.tail _ hp)) ?_; rintro v Γ ⟨q', rfl, rfl⟩)|refine zao rfl ?_|refine zae 1 rfl rfl rfl rfl rfl rfl rfl ?_|refine zae 2 rfl rfl rfl rfl rfl rfl rfl ?_)
 all_goals (refine zch ?_; repeat (first|refine zck ?_|refine zcl ?_|refine zcm ?_|refine zcn ?_))
 repeat (first|refine zck ?_|refine zcl ?_|refine zcm ?_|refine zcn ?_|refine zco ?_)
 refine run_shareO [0] (fun _ hp => .tail _ (.tail _ hp)) rfl ?_
 intro bl3 hs3 hu3 hv3
 exact retK [] (fun s => ∃ vs', RdMem w0 s q' h0 h1 vs') (fun _ hs => ⟨_, hv3.mono (fun p hp => hs p (hu3 p hp))⟩) rfl (zen rfl (zeo 0 rfl rfl rfl) (zeo 1 rfl rfl rfl) ⟨rfl, q', rfl, rfl⟩)
end Go.Proofs.YtikackodhiollaaGreatDoor
namespace Go.Proofs.YtikackodhiollaaGreatDoor
variable (w0 : World)
open Go.Vc Sim Sim.Tx
set_option maxHeartbeats 4000000
theorem pickLast (a : Option Addr) (n c : Nat) (hn : n ≤ 100000) (z : Int) : FnE PP w0 [] 181 [.int .i64 0, hisV a n c, .int .i64 z] [] (.int .i64 ((n : Int) - 1)) [] := by
 have hl := hisLen w0 a n c
 refine zep en181 fn181 rfl rfl rfl ?_
 repeat (first|refine zck ?_|refine zcl ?_|refine zcm ?_|refine zcn ?_)
 first|refine zcp (by kernel_rfl) ?_|refine zcq PP_mixed (by kernel_rfl) (by kernel_rfl) ?_
 repeat' (refine zap rfl ?_; first|refine zan rfl ?_|refine zaq (cs := [_]) rfl (fun nb => ?_))
 all_goals (refine zch ?_; repeat (first|refine zck ?_|refine zcl ?_|refine zcm ?_|refine zcn ?_))
 refine zeb [0] rfl ?_
 repeat (first|refine zck ?_|refine zcl ?_|refine zcm ?_|refine zcn ?_)
 first|refine zcp (by kernel_rfl) ?_|refine zcq PP_mixed (by kernel_rfl) (by kernel_rfl) ?_
 repeat' (refine zap rfl ?_; first|refine zan rfl ?_|refine zaa 0 rfl rfl rfl ?_|refine zah [] hl rfl rfl rfl zdj rfl ?_|refine zav rfl rfl (by omega) ?_)
 all_goals (refine zch ?_; repeat (first|refine zck ?_|refine zcl ?_|refine zcm ?_|refine zcn ?_))
 exact zej rfl ⟨rfl, rfl⟩
theorem memWrong (pa : Option Addr) (pc : Nat) (va : Option Addr) (vc : Nat) (b : Bool) (t : Nat) (ht : t < 3) : FnE PP w0 [] 178 [memV pa 2 pc va 3 vc, .int .i64 ((t : Int) + 1), .int .i64 (plI b)] [] (.int .i64 0) [] := by
 have h1 := memThread w0 pa 2 pc va 3 vc ((t : Int) + 1) (by omega)
 have hpl : 0 ≤ plI b ∧ plI b ≤ 1 := by cases b <;> decide
 have h2 := memPlace w0 pa 2 pc va 3 vc (plI b) (by omega)
 refine zep en178 fn178 rfl rfl rfl ?_
 repeat (first|refine zck ?_|refine zcl ?_|refine zcm ?_|refine zcn ?_)
 first|refine zcp (by kernel_rfl) ?_|refine zcq PP_mixed (by kernel_rfl) (by kernel_rfl) ?_
 repeat' (refine zap rfl ?_; first|refine zan rfl ?_|refine zaq (cs := [_, _]) rfl (fun nb => ?_))
 all_goals (refine zch ?_; repeat (first|refine zck ?_|refine zcl ?_|refine zcm ?_|refine zcn ?_))
 refine zeb [0] rfl ?_
 repeat (first|refine zck ?_|refine zcl ?_|refine zcm ?_|refine zcn ?_)
 first|refine zcp (by kernel_rfl) ?_|refine zcq PP_mixed (by kernel_rfl) (by kernel_rfl) ?_
 repeat' (refine zap rfl ?_; first|refine zbx rfl ?_|refine zan rfl ?_|refine zaa 0 rfl rfl rfl ?_|refine zah [] h1 rfl rfl rfl zdj rfl ?_)
 all_goals (refine zch ?_; repeat (first|refine zck ?_|refine zcl ?_|refine zcm ?_|refine zcn ?_))
 refine zcj rfl ?_
 repeat (first|refine zck ?_|refine zcl ?_|refine zcm ?_|refine zcn ?_|refine zco ?_)
 repeat (first|refine zck ?_|refine zcl ?_|refine zcm ?_|refine zcn ?_)
 first|refine zcp (by kernel_rfl) ?_|refine zcq PP_mixed (by kernel_rfl) (by kernel_rfl) ?_
 repeat' (refine zap rfl ?_; first|refine zbx rfl ?_|refine zan rfl ?_|refine zaa 0 rfl rfl rfl ?_|refine zah [] h2 rfl rfl rfl zdj rfl ?_)
 all_goals (refine zch ?_; repeat (first|refine zck ?_|refine zcl ?_|refine zcm ?_|refine zcn ?_))
 refine zcj rfl ?_
 repeat (first|refine zck ?_|refine zcl ?_|refine zcm ?_|refine zcn ?_|refine zco ?_)
 repeat (first|refine zck ?_|refine zcl ?_|refine zcm ?_|refine zcn ?_)
 first|refine zcp (by kernel_rfl) ?_|refine zcq PP_mixed (by kernel_rfl) (by kernel_rfl) ?_
 repeat' (refine zap rfl ?_; first|refine zan rfl ?_)
 all_goals (refine zch ?_; repeat (first|refine zck ?_|refine zcl ?_|refine zcm ?_|refine zcn ?_))
 exact zej rfl ⟨rfl, rfl⟩
def LookF (w0 : World) (sh : Shared) (q : MemS) (h0 h1 : Hs) (b : Bool) (t : Nat) (x : Int) (f : FuncId) (more : List Value) : Prop :=
 Vc.Fn PP w0 sh f ([memQ q, .int .i64 ((t : Int) + 1), .int .i64 (plI b)] ++ more) []
   (fun r Γ => ∃ q', r = .tuple #[memQ q', wordV x, .int .i64 0] ∧ Γ = [RdO sh (fun s => ∃ vs', RdMem w0 s q' h0 h1 vs')])
theorem memLook1 (sh : Shared) (q : MemS) (h0 h1 : Hs) (vs : List (Option Nat)) (hq : RdMem w0 sh q h0 h1 vs) (b : Bool) (x : Int) (cnt : Nat) (hc : cnt ≤ 1000) (ms : List Ms) (hms : RdMs w0 sh (pick2 b h0 h1) x cnt ms) (t : Nat) (ht : t < 3) :
   LookF w0 sh q h0 h1 b t x 180 [.bool true, .func (.func 181) #[.int .i64 0] #[]] := by
 unfold LookF
 obtain ⟨m, hm, hx⟩ := hms.2.2.2.2.2
 have hil := (List.getElem?_eq_some_iff.1 hm).1
 have hF := memFinds w0 sh q h0 h1 vs hq b x cnt hc ms hms (ms.length - 1) m hm t ht
 rw [hx, show ((ms.length - 1 : Nat) : Int) = (ms.length : Int) - 1 by omega] at hF
 have hb1 : [h0, h1][(if b = true then 1 else 0 : Nat)]? = some (pick2 b h0 h1) := by cases b <;> rfl
 obtain ⟨bb, off, cc, T, fr, ea, e2, e3, _⟩ := hq.row.cells hb1
 have hpl : 0 ≤ plI b ∧ plI b ≤ 1 := by cases b <;> decide
 have hlen := hms.2.2.2.2.1
 have hn := hms.1
 obtain ⟨va, hva⟩ : ∃ v, vs[t]? = some v := ⟨_, List.getElem?_eq_getElem (by rw [hq.len]; exact ht)⟩
 have hvv := hq.views
 have hvl := hq.len
 have hvok := hq.ok va (List.mem_of_getElem? hva)
 obtain ⟨ves, vclock, vml, hX, hv⟩ := hvok
 obtain ⟨z, hz, hz1, hz2⟩ := hv.look (plI b)
 have hAt := viewAt w0 sh va ves vclock vml hX (plI b)
 rw [hz] at hAt
 have hP := pickLast w0 (pick2 b h0 h1).a ms.length (pick2 b h0 h1).c (by omega) z
 obtain ⟨pa, pc, vad, vc⟩ := q
 dsimp only at ea e2 e3 hvv hF ⊢
 subst ea
 have hSeen := memSeen w0 sh (some ⟨bb, off, none⟩) 2 pc vad vc vs (by rw [hvl]; exact hvv) t va hva (by omega)
 rw [hvl] at hSeen
 have hW := memWrong w0 (some ⟨bb, off, none⟩) pc vad vc b t ht
 generalize hg : pick2 b h0 h1 = g at *
 obtain ⟨ga, gn, gc⟩ := g
 dsimp only at hn hP
 subst hn
 refine zep en180 fn180 rfl rfl rfl ?_
 refine run_kept ?_
 repeat (first|refine zck ?_|refine zcl ?_|refine zcm ?_|refine zcn ?_)
 first|refine zcp (by kernel_rfl) ?_|refine zcq PP_mixed (by kernel_rfl) (by kernel_rfl) ?_
 repeat' (refine zap rfl ?_; first|refine zar (fun t10 => ?_)|refine zan rfl ?_|refine zaq (cs := [_, _]) rfl (fun nb => ?_))
 all_goals (refine zch ?_; repeat (first|refine zck ?_|refine zcl ?_|refine zcm ?_|refine zcn ?_))
 refine run_shareK [0] rfl ?_
 repeat (first|refine zck ?_|refine zcl ?_|refine zcm ?_|refine zcn ?_)
 first|refine zcp (by kernel_rfl) ?_|refine zcq PP_mixed (by kernel_rfl) (by kernel_rfl) ?_
 repeat' (refine zap rfl ?_; first|refine zan rfl ?_|refine zaa 0 rfl rfl rfl ?_|refine zah [] hW rfl rfl rfl zdj rfl ?_)
 all_goals (refine zch ?_; repeat (first|refine zck ?_|refine zcl ?_|refine zcm ?_|refine zcn ?_))
 repeat (first|refine zck ?_|refine zcl ?_|refine zcm ?_|refine zcn ?_|refine zco ?_)
 repeat (first|refine zck ?_|refine zcl ?_|refine zcm ?_|refine zcn ?_)
 first|refine zcp (by kernel_rfl) ?_|refine zcq PP_mixed (by kernel_rfl) (by kernel_rfl) ?_
 repeat' (refine zap rfl ?_; first|refine zan rfl ?_|refine zbf rfl rfl (by omega) ?_)
 all_goals (refine zch ?_; repeat (first|refine zck ?_|refine zcl ?_|refine zcm ?_|refine zcn ?_))
 refine zcj rfl ?_
 repeat (first|refine zck ?_|refine zcl ?_|refine zcm ?_|refine zcn ?_|refine zco ?_)
 repeat (first|refine zck ?_|refine zcl ?_|refine zcm ?_|refine zcn ?_)
 first|refine zcp (by kernel_rfl) ?_|refine zcq PP_mixed (by kernel_rfl) (by kernel_rfl) ?_
 repeat' (refine zap rfl ?_; first|refine zas rfl rfl (by omega) ?_|refine zar (fun t12 => ?_)|refine zad rfl (fun hF Γ w h1 h2 => e2 hF Γ w (fun p hp => h1 p (.tail _ hp)) h2) (e3 _ (by have := plI_b b; omega)) ?_|refine zan rfl ?_|refine zaa 0 rfl rfl rfl ?_|refine zah [] hSeen rfl rfl rfl (fun p hp => .tail _ hp) rfl ?_|refine zah [] hAt rfl rfl rfl (fun p hp => .tail _ hp) rfl ?_|refine zah [] hP rfl rfl rfl zdj rfl ?_|(refine zai [] hF rfl rfl rfl (fun p hp => .tail _ hp) ?_; rintro v Γ ⟨q', rfl, rfl⟩)|refine zao rfl ?_|refine zae 3 rfl rfl rfl rfl rfl rfl rfl ?_|refine zae 4 rfl rfl rfl rfl rfl rfl rfl ?_)
 all_goals (refine zch ?_; repeat (first|refine zck ?_|refine zcl ?_|refine zcm ?_|refine zcn ?_))
 repeat (first|refine zck ?_|refine zcl ?_|refine zcm ?_|refine zcn ?_|refine zco ?_)
 refine run_shareK [3] rfl ?_
 refine run_shareK [3] rfl ?_
 repeat (first|refine zck ?_|refine zcl ?_|refine zcm ?_|refine zcn ?_)
 first|refine zcp (by kernel_rfl) ?_|refine zcq PP_mixed (by kernel_rfl) (by kernel_rfl) ?_
 repeat' (refine zap rfl ?_; first|refine zan rfl ?_|refine zaa 0 rfl rfl rfl ?_|refine zaa 1 rfl rfl rfl ?_|refine zae 1 rfl rfl rfl rfl rfl rfl rfl ?_|refine zae 2 rfl rfl rfl rfl rfl rfl rfl ?_)
 all_goals (refine zch ?_; repeat (first|refine zck ?_|refine zcl ?_|refine zcm ?_|refine zcn ?_))
 repeat (first|refine zck ?_|refine zcl ?_|refine zcm ?_|refine zcn ?_|refine zco ?_)
 refine run_shareO [0] (fun _ hp => .tail _ (.tail _ (.tail _ hp))) rfl ?_
 intro bl3 hs3 hu3 ⟨vs', hv3⟩
 exact retK [] (fun s => ∃ vs', RdMem w0 s q' h0 h1 vs') (fun _ hs => ⟨vs', hv3.mono (fun p hp => hs p (hu3 p hp))⟩) rfl (ends_three rfl (zeo 0 rfl rfl rfl) (zeo 1 rfl rfl rfl) rfl ⟨rfl, q', rfl, rfl⟩)
theorem memLook (sh : Shared) (q : MemS) (h0 h1 : Hs) (vs : List (Option Nat)) (hq : RdMem w0 sh q h0 h1 vs) (b : Bool) (x : Int) (cnt : Nat) (hc : cnt ≤ 1000) (ms : List Ms) (hms : RdMs w0 sh (pick2 b h0 h1) x cnt ms) (t : Nat) (ht : t < 3) :
   LookF w0 sh q h0 h1 b t x 173 [] := by
 have hL := memLook1 w0 sh q h0 h1 vs hq b x cnt hc ms hms t ht
 unfold LookF at hL ⊢
 refine zep en173 fn173 rfl rfl rfl ?_
 refine run_kept ?_
 repeat (first|refine zck ?_|refine zcl ?_|refine zcm ?_|refine zcn ?_)
 first|refine zcp (by kernel_rfl) ?_|refine zcq PP_mixed (by kernel_rfl) (by kernel_rfl) ?_
 repeat' (refine zap rfl ?_; first|refine zar (fun t7 => ?_)|refine zan rfl ?_|refine zaq (cs := [_, _]) rfl (fun nb => ?_))
 all_goals (refine zch ?_; repeat (first|refine zck ?_|refine zcl ?_|refine zcm ?_|refine zcn ?_))
 refine run_shareK [0] rfl ?_
 repeat (first|refine zck ?_|refine zcl ?_|refine zcm ?_|refine zcn ?_)
 first|refine zcp (by kernel_rfl) ?_|refine zcq PP_mixed (by kernel_rfl) (by kernel_rfl) ?_
 repeat' (refine zap rfl ?_; first|refine zan rfl ?_|refine zaa 0 rfl rfl rfl ?_|(refine zai [] hL rfl rfl rfl (fun _ hp => .tail _ hp) ?_; rintro v Γ ⟨q', rfl, rfl⟩)|refine zae 1 rfl rfl rfl rfl rfl rfl rfl ?_|refine zae 2 rfl rfl rfl rfl rfl rfl rfl ?_)
 all_goals (refine zch ?_; repeat (first|refine zck ?_|refine zcl ?_|refine zcm ?_|refine zcn ?_))
 repeat (first|refine zck ?_|refine zcl ?_|refine zcm ?_|refine zcn ?_|refine zco ?_)
 refine run_shareO [0] (fun _ hp => .tail _ hp) rfl ?_
 intro bl3 hs3 hu3 ⟨vs', hv3⟩
 exact retK [] (fun s => ∃ vs', RdMem w0 s q' h0 h1 vs') (fun _ hs => ⟨vs', hv3.mono (fun p hp => hs p (hu3 p hp))⟩) rfl (ends_three rfl (zeo 0 rfl rfl rfl) (zeo 1 rfl rfl rfl) rfl ⟨rfl, q', rfl, rfl⟩)
end Go.Proofs.YtikackodhiollaaGreatDoor
