import Derived.Test.YtikackodhiollaaGreatDoorPart6
import Derived.Test.YtikackodhiollaaGreatDoorPart1
import Derived.Test.YtikackodhiollaaGreatDoorKit
/- Own work: lemmas of this claim. -/
namespace Go.Proofs.YtikackodhiollaaGreatDoor
variable (w0 : World)
open Go.Vc Sim Sim.Tx
set_option maxHeartbeats 8000000
theorem macDoS (sh : Shared) (m : MacS) (b : Bool) (old new : Int) (t : Nat) (ht : t < 3) (x' y' val : Int) (ok : Bool) (cnt : Nat) (hc : cnt ≤ 1000)
   (hW : Vc.Fn PP w0 sh 158 [macV m, .int .i64 ((t : Int) + 1), actV 6 (plI b) old new] [] (fun r Γ => ∃ m' : MacS, r = .tuple #[macV m', gotV val ok] ∧ Γ = [RdO sh (fun s => RdMac w0 s m' x' y' cnt)])) :
   Vc.Fn PP w0 sh 137 [macV m, .int .i64 ((t : Int) + 1), actV 6 (plI b) old new, .int .i64 0] []
     (fun r Γ => ∃ m' : MacS, r = .tuple #[macV m', gotV val ok, .int .i64 0] ∧ Γ = [RdO sh (fun s => RdMac w0 s m' x' y' (cnt + 1))]) := by
 have hpl : plI b = 0 ∨ plI b = 1 := by cases b; exact .inl rfl; exact .inr rfl
 have hK := macCheck w0 m t ht 6 (plI b) old new (by decide) hpl
 have hCh := macChanges6 w0 (plI b) old new
 refine zep en137 fn137 rfl rfl rfl ?_
 refine run_kept ?_
 repeat (first|refine zck ?_|refine zcl ?_|refine zcm ?_|refine zcn ?_)
 first|refine zcp (by kernel_rfl) ?_|refine zcq PP_mixed (by kernel_rfl) (by kernel_rfl) ?_
 repeat' (refine zap rfl ?_; first|refine zar (fun t8 => ?_)|refine zan rfl ?_|refine zaq (cs := [_, _, _, _, _, _, _]) rfl (fun nb => ?_)|refine zaq (cs := [_, _, _, _, _, _, _, _]) rfl (fun nb => ?_))
 all_goals (refine zch ?_; repeat (first|refine zck ?_|refine zcl ?_|refine zcm ?_|refine zcn ?_))
 refine run_shareK [1] rfl ?_
 repeat (first|refine zck ?_|refine zcl ?_|refine zcm ?_|refine zcn ?_)
 first|refine zcp (by kernel_rfl) ?_|refine zcq PP_mixed (by kernel_rfl) (by kernel_rfl) ?_
 repeat' (refine zap rfl ?_; first|refine zan rfl ?_|refine zaa 0 rfl rfl rfl ?_|refine zab 0 rfl rfl rfl ?_|refine zah [] hK rfl rfl rfl zdj rfl ?_)
 all_goals (refine zch ?_; repeat (first|refine zck ?_|refine zcl ?_|refine zcm ?_|refine zcn ?_))
 repeat (first|refine zck ?_|refine zcl ?_|refine zcm ?_|refine zcn ?_|refine zco ?_)
 repeat (first|refine zck ?_|refine zcl ?_|refine zcm ?_|refine zcn ?_)
 first|refine zcp (by kernel_rfl) ?_|refine zcq PP_mixed (by kernel_rfl) (by kernel_rfl) ?_
 repeat' (refine zap rfl ?_; first|refine zan rfl ?_|refine zbf rfl rfl (by omega) ?_)
 all_goals (refine zch ?_; repeat (first|refine zck ?_|refine zcl ?_|refine zcm ?_|refine zcn ?_))
 refine zcj rfl ?_
 repeat (first|refine zck ?_|refine zcl ?_|refine zcm ?_|refine zcn ?_|refine zco ?_)
 repeat (first|refine zck ?_|refine zcl ?_|refine zcm ?_|refine zcn ?_)
 first|refine zcp (by kernel_rfl) ?_|refine zcq PP_mixed (by kernel_rfl) (by kernel_rfl) ?_
 repeat' (refine zap rfl ?_; first|refine zcb rfl ?_|refine zar (fun t12 => ?_)|refine zae 3 rfl rfl rfl rfl rfl rfl rfl ?_)
 all_goals (refine zch ?_; repeat (first|refine zck ?_|refine zcl ?_|refine zcm ?_|refine zcn ?_))
 repeat (first|refine zck ?_|refine zcl ?_|refine zcm ?_|refine zcn ?_|refine zco ?_)
 repeat (first|refine zck ?_|refine zcl ?_|refine zcm ?_|refine zcn ?_)
 first|refine zcp (by kernel_rfl) ?_|refine zcq PP_mixed (by kernel_rfl) (by kernel_rfl) ?_
 repeat' (refine zap rfl ?_; first|refine zan rfl ?_|refine zaa 0 rfl rfl rfl ?_|refine zah [] hCh rfl rfl rfl zdj rfl ?_)
 all_goals (refine zch ?_; repeat (first|refine zck ?_|refine zcl ?_|refine zcm ?_|refine zcn ?_))
 refine zci rfl ?_
 repeat (first|refine zck ?_|refine zcl ?_|refine zcm ?_|refine zcn ?_|refine zco ?_)
 repeat (first|refine zck ?_|refine zcl ?_|refine zcm ?_|refine zcn ?_)
 first|refine zcp (by kernel_rfl) ?_|refine zcq PP_mixed (by kernel_rfl) (by kernel_rfl) ?_
 repeat' (refine zap rfl ?_; first|refine zan rfl ?_|refine zaa 0 rfl rfl rfl ?_|refine zab 0 rfl rfl rfl ?_|(refine zai [] hW rfl rfl rfl (fun _ hp => .tail _ hp) ?_; rintro v Γ ⟨m', rfl, rfl⟩)|refine zae 1 rfl rfl rfl rfl rfl rfl rfl ?_|refine zae 4 rfl rfl rfl rfl rfl rfl rfl ?_)
 all_goals (refine zch ?_; repeat (first|refine zck ?_|refine zcl ?_|refine zcm ?_|refine zcn ?_))
 repeat (first|refine zck ?_|refine zcl ?_|refine zcm ?_|refine zcn ?_|refine zco ?_)
 refine run_shareO [0] (fun _ hp => .tail _ hp) rfl ?_
 intro bl hs hu hv
 have hv := hv.mono hu (Nat.le_refl _)
 obtain ⟨⟨pa, pc, va, vc⟩, ⟨fa, fc, la, lc, sa, sn, sc⟩, ia, ic⟩ := m'
 obtain ⟨hm1, hm2, ⟨s1, s2, s3, hr, b1, b2, b3⟩, hcap⟩ := hv
 dsimp only at hm1 hm2 hr hcap
 have hsome : ∃ ad, ia = some ad := by
   rcases hr with ⟨_, h1, _⟩ | ⟨bb, off, _, _, _, h1, _⟩
   · cases h1
   · exact ⟨_, h1⟩
 obtain ⟨ad, rfl⟩ := hsome
 have hrow : RdSl w0 _ encI 1 (.slice (some ad) 3 ic) [s1, s2, s3] := RdCl.sl (l := [s1, s2, s3]) (fun _ _ => rfl) hr hcap
 have hC : Vc.Fn PP w0 _ 135 [.slice (some ad) 3 ic] [] (fun v Γ => ∃ a c, v = .slice a 3 c ∧ Γ = [SlA 3 1 a 3 c [.int .i64 s1, .int .i64 s2, .int .i64 s3]]) := cloneInt w0 _ ad ic [s1, s2, s3] hrow rfl (by show 3 ≤ 100000; omega)
 repeat (first|refine zck ?_|refine zcl ?_|refine zcm ?_|refine zcn ?_|refine zco ?_)
 repeat (first|refine zck ?_|refine zcl ?_|refine zcm ?_|refine zcn ?_)
 first|refine zcp (by kernel_rfl) ?_|refine zcq PP_mixed (by kernel_rfl) (by kernel_rfl) ?_
 repeat' (refine zap rfl ?_; first|refine zab 0 rfl rfl rfl ?_|(refine zai [] hC rfl rfl rfl (fun _ hp => hp) ?_; rintro v Γ ⟨a2, c2, rfl, rfl⟩)|refine zao rfl ?_|refine zae 1 rfl rfl rfl rfl rfl rfl rfl ?_)
 all_goals (refine zch ?_; repeat (first|refine zck ?_|refine zcl ?_|refine zcm ?_|refine zcn ?_))
 repeat (first|refine zck ?_|refine zcl ?_|refine zcm ?_|refine zcn ?_|refine zco ?_)
 refine run_sl_cases 0 rfl (fun _ hn => by cases hn) (fun nb e1 e2 e3 => ?_)
 subst e1
 rcases (by omega : t = 0 ∨ t = 1 ∨ t = 2) with rfl | rfl | rfl
 all_goals
   repeat (first|refine zck ?_|refine zcl ?_|refine zcm ?_|refine zcn ?_)
   first|refine zcp (by kernel_rfl) ?_|refine zcq PP_mixed (by kernel_rfl) (by kernel_rfl) ?_
   repeat' (refine zap rfl ?_; first|refine zas rfl rfl (by omega) ?_|refine zag 0 rfl rfl rfl (fun h => by cases h) ?_|refine zaf 0 rfl rfl rfl rfl rfl rfl rfl ?_|refine zan rfl ?_|refine zab 1 rfl rfl rfl ?_|refine zao rfl ?_|refine zau rfl rfl (by omega) ?_|refine zav rfl rfl (by omega) ?_)
   all_goals (refine zch ?_; repeat (first|refine zck ?_|refine zcl ?_|refine zcm ?_|refine zcn ?_))
   repeat (first|refine zck ?_|refine zcl ?_|refine zcm ?_|refine zcn ?_|refine zco ?_)
   refine run_shareK [1] rfl ?_
   refine run_shareK [3] rfl ?_
   repeat (first|refine zck ?_|refine zcl ?_|refine zcm ?_|refine zcn ?_)
   first|refine zcp (by kernel_rfl) ?_|refine zcq PP_mixed (by kernel_rfl) (by kernel_rfl) ?_
   repeat' (refine zap rfl ?_; first|refine zan rfl ?_|refine zaa 0 rfl rfl rfl ?_|refine zaa 1 rfl rfl rfl ?_|refine zae 1 rfl rfl rfl rfl rfl rfl rfl ?_|refine zae 2 rfl rfl rfl rfl rfl rfl rfl ?_)
   all_goals (refine zch ?_; repeat (first|refine zck ?_|refine zcl ?_|refine zcm ?_|refine zcn ?_))
   repeat (first|refine zck ?_|refine zcl ?_|refine zcm ?_|refine zcn ?_|refine zco ?_)
   refine run_shareA [0] (fun s => RdCl w0 s 1 (some ⟨nb, 0, none⟩) 3 _ ∧ 3 ≤ c2) RdO.ofCl rfl ?_
   intro bl2 hs2 hv2
   exact retK [] (fun s => RdMac w0 s ⟨⟨pa, pc, va, vc⟩, ⟨fa, fc, la, lc, sa, sn, sc⟩, some ⟨nb, 0, none⟩, c2⟩ x' y' (cnt + 1)) (fun _ hs3 => ⟨hm1.mono (fun p hp => hs3 p (hs2 p (.tail _ (.tail _ hp)))) (Nat.le_succ _), hm2.mono (fun p hp => hs3 p (hs2 p (.tail _ (.tail _ hp)))) (Nat.le_succ _), ⟨_, _, _, hv2.1.mono hs3, by omega, by omega, by omega⟩, hv2.2⟩) rfl (ends_three rfl (zeo 0 rfl rfl rfl) (zeo 1 rfl rfl rfl) rfl ⟨rfl, _, rfl, rfl⟩)
theorem macDoL (sh : Shared) (m : MacS) (b : Bool) (t : Nat) (ht : t < 3) (x' y' val : Int) (ok : Bool) (cnt : Nat) (hc : cnt ≤ 1000)
   (hW : Vc.Fn PP w0 sh 160 [macV m, .int .i64 ((t : Int) + 1), actV 5 (plI b) 0 0, .int .i64 0] [] (fun r Γ => ∃ m' : MacS, r = .tuple #[macV m', gotV val ok] ∧ Γ = [RdO sh (fun s => RdMac w0 s m' x' y' cnt)])) :
   Vc.Fn PP w0 sh 137 [macV m, .int .i64 ((t : Int) + 1), actV 5 (plI b) 0 0, .int .i64 0] []
     (fun r Γ => ∃ m' : MacS, r = .tuple #[macV m', gotV val ok, .int .i64 0] ∧ Γ = [RdO sh (fun s => RdMac w0 s m' x' y' (cnt + 1))]) := by
 have hpl : plI b = 0 ∨ plI b = 1 := by cases b; exact .inl rfl; exact .inr rfl
 have hK := macCheck w0 m t ht 5 (plI b) 0 0 (by decide) hpl
 have hCh := macChanges5 w0 (plI b) 0 0
 refine zep en137 fn137 rfl rfl rfl ?_
 refine run_kept ?_
 repeat (first|refine zck ?_|refine zcl ?_|refine zcm ?_|refine zcn ?_)
 first|refine zcp (by kernel_rfl) ?_|refine zcq PP_mixed (by kernel_rfl) (by kernel_rfl) ?_
 repeat' (refine zap rfl ?_; first|refine zar (fun t8 => ?_)|refine zan rfl ?_|refine zaq (cs := [_, _, _, _, _, _, _]) rfl (fun nb => ?_)|refine zaq (cs := [_, _, _, _, _, _, _, _]) rfl (fun nb => ?_))
 all_goals (refine zch ?_; repeat (first|refine zck ?_|refine zcl ?_|refine zcm ?_|refine zcn ?_))
 refine run_shareK [1] rfl ?_
 repeat (first|refine zck ?_|refine zcl ?_|refine zcm ?_|refine zcn ?_)
 first|refine zcp (by kernel_rfl) ?_|refine zcq PP_mixed (by kernel_rfl) (by kernel_rfl) ?_
 repeat' (refine zap rfl ?_; first|refine zan rfl ?_|refine zaa 0 rfl rfl rfl ?_|refine zab 0 rfl rfl rfl ?_|refine zah [] hK rfl rfl rfl zdj rfl ?_)
 all_goals (refine zch ?_; repeat (first|refine zck ?_|refine zcl ?_|refine zcm ?_|refine zcn ?_))
 repeat (first|refine zck ?_|refine zcl ?_|refine zcm ?_|refine zcn ?_|refine zco ?_)
 repeat (first|refine zck ?_|refine zcl ?_|refine zcm ?_|refine zcn ?_)
 first|refine zcp (by kernel_rfl) ?_|refine zcq PP_mixed (by kernel_rfl) (by kernel_rfl) ?_
 repeat' (refine zap rfl ?_; first|refine zan rfl ?_|refine zbf rfl rfl (by omega) ?_)
 all_goals (refine zch ?_; repeat (first|refine zck ?_|refine zcl ?_|refine zcm ?_|refine zcn ?_))
 refine zcj rfl ?_
 repeat (first|refine zck ?_|refine zcl ?_|refine zcm ?_|refine zcn ?_|refine zco ?_)
 repeat (first|refine zck ?_|refine zcl ?_|refine zcm ?_|refine zcn ?_)
 first|refine zcp (by kernel_rfl) ?_|refine zcq PP_mixed (by kernel_rfl) (by kernel_rfl) ?_
 repeat' (refine zap rfl ?_; first|refine zcb rfl ?_|refine zar (fun t12 => ?_)|refine zae 3 rfl rfl rfl rfl rfl rfl rfl ?_)
 all_goals (refine zch ?_; repeat (first|refine zck ?_|refine zcl ?_|refine zcm ?_|refine zcn ?_))
 repeat (first|refine zck ?_|refine zcl ?_|refine zcm ?_|refine zcn ?_|refine zco ?_)
 repeat (first|refine zck ?_|refine zcl ?_|refine zcm ?_|refine zcn ?_)
 first|refine zcp (by kernel_rfl) ?_|refine zcq PP_mixed (by kernel_rfl) (by kernel_rfl) ?_
 repeat' (refine zap rfl ?_; first|refine zan rfl ?_|refine zaa 0 rfl rfl rfl ?_|refine zah [] hCh rfl rfl rfl zdj rfl ?_)
 all_goals (refine zch ?_; repeat (first|refine zck ?_|refine zcl ?_|refine zcm ?_|refine zcn ?_))
 refine zcj rfl ?_
 repeat (first|refine zck ?_|refine zcl ?_|refine zcm ?_|refine zcn ?_|refine zco ?_)
 repeat (first|refine zck ?_|refine zcl ?_|refine zcm ?_|refine zcn ?_)
 first|refine zcp (by kernel_rfl) ?_|refine zcq PP_mixed (by kernel_rfl) (by kernel_rfl) ?_
 repeat' (refine zap rfl ?_; first|refine zan rfl ?_|refine zaa 0 rfl rfl rfl ?_|refine zao rfl ?_|refine zbd rfl rfl (by omega) ?_)
 all_goals (refine zch ?_; repeat (first|refine zck ?_|refine zcl ?_|refine zcm ?_|refine zcn ?_))
 refine zcj rfl ?_
 repeat (first|refine zck ?_|refine zcl ?_|refine zcm ?_|refine zcn ?_|refine zco ?_)
 repeat (first|refine zck ?_|refine zcl ?_|refine zcm ?_|refine zcn ?_)
 first|refine zcp (by kernel_rfl) ?_|refine zcq PP_mixed (by kernel_rfl) (by kernel_rfl) ?_
 repeat' (refine zap rfl ?_; first|refine zan rfl ?_|refine zaa 0 rfl rfl rfl ?_|refine zao rfl ?_|refine zbd rfl rfl (by omega) ?_)
 all_goals (refine zch ?_; repeat (first|refine zck ?_|refine zcl ?_|refine zcm ?_|refine zcn ?_))
 refine zcj rfl ?_
 repeat (first|refine zck ?_|refine zcl ?_|refine zcm ?_|refine zcn ?_|refine zco ?_)
 repeat (first|refine zck ?_|refine zcl ?_|refine zcm ?_|refine zcn ?_)
 first|refine zcp (by kernel_rfl) ?_|refine zcq PP_mixed (by kernel_rfl) (by kernel_rfl) ?_
 repeat' (refine zap rfl ?_; first|refine zan rfl ?_|refine zaa 0 rfl rfl rfl ?_|refine zao rfl ?_|refine zbe rfl rfl (by omega) ?_)
 all_goals (refine zch ?_; repeat (first|refine zck ?_|refine zcl ?_|refine zcm ?_|refine zcn ?_))
 refine zci rfl ?_
 repeat (first|refine zck ?_|refine zcl ?_|refine zcm ?_|refine zcn ?_|refine zco ?_)
 repeat (first|refine zck ?_|refine zcl ?_|refine zcm ?_|refine zcn ?_)
 first|refine zcp (by kernel_rfl) ?_|refine zcq PP_mixed (by kernel_rfl) (by kernel_rfl) ?_
 repeat' (refine zap rfl ?_; first|refine zan rfl ?_|refine zaa 0 rfl rfl rfl ?_|refine zab 0 rfl rfl rfl ?_|(refine zai [] hW rfl rfl rfl (fun _ hp => .tail _ hp) ?_; rintro v Γ ⟨m', rfl, rfl⟩)|refine zae 1 rfl rfl rfl rfl rfl rfl rfl ?_|refine zae 4 rfl rfl rfl rfl rfl rfl rfl ?_)
 all_goals (refine zch ?_; repeat (first|refine zck ?_|refine zcl ?_|refine zcm ?_|refine zcn ?_))
 repeat (first|refine zck ?_|refine zcl ?_|refine zcm ?_|refine zcn ?_|refine zco ?_)
 refine run_shareO [0] (fun _ hp => .tail _ hp) rfl ?_
 intro bl hs hu hv
 have hv := hv.mono hu (Nat.le_refl _)
 obtain ⟨⟨pa, pc, va, vc⟩, ⟨fa, fc, la, lc, sa, sn, sc⟩, ia, ic⟩ := m'
 obtain ⟨hm1, hm2, ⟨s1, s2, s3, hr, b1, b2, b3⟩, hcap⟩ := hv
 dsimp only at hm1 hm2 hr hcap
 have hsome : ∃ ad, ia = some ad := by
   rcases hr with ⟨_, h1, _⟩ | ⟨bb, off, _, _, _, h1, _⟩
   · cases h1
   · exact ⟨_, h1⟩
 obtain ⟨ad, rfl⟩ := hsome
 have hrow : RdSl w0 _ encI 1 (.slice (some ad) 3 ic) [s1, s2, s3] := RdCl.sl (l := [s1, s2, s3]) (fun _ _ => rfl) hr hcap
 have hC : Vc.Fn PP w0 _ 135 [.slice (some ad) 3 ic] [] (fun v Γ => ∃ a c, v = .slice a 3 c ∧ Γ = [SlA 3 1 a 3 c [.int .i64 s1, .int .i64 s2, .int .i64 s3]]) := cloneInt w0 _ ad ic [s1, s2, s3] hrow rfl (by show 3 ≤ 100000; omega)
 repeat (first|refine zck ?_|refine zcl ?_|refine zcm ?_|refine zcn ?_|refine zco ?_)
 repeat (first|refine zck ?_|refine zcl ?_|refine zcm ?_|refine zcn ?_)
 first|refine zcp (by kernel_rfl) ?_|refine zcq PP_mixed (by kernel_rfl) (by kernel_rfl) ?_
 repeat' (refine zap rfl ?_; first|refine zab 0 rfl rfl rfl ?_|(refine zai [] hC rfl rfl rfl (fun _ hp => hp) ?_; rintro v Γ ⟨a2, c2, rfl, rfl⟩)|refine zao rfl ?_|refine zae 1 rfl rfl rfl rfl rfl rfl rfl ?_)
 all_goals (refine zch ?_; repeat (first|refine zck ?_|refine zcl ?_|refine zcm ?_|refine zcn ?_))
 repeat (first|refine zck ?_|refine zcl ?_|refine zcm ?_|refine zcn ?_|refine zco ?_)
 refine run_sl_cases 0 rfl (fun _ hn => by cases hn) (fun nb e1 e2 e3 => ?_)
 subst e1
 rcases (by omega : t = 0 ∨ t = 1 ∨ t = 2) with rfl | rfl | rfl
 all_goals
   repeat (first|refine zck ?_|refine zcl ?_|refine zcm ?_|refine zcn ?_)
   first|refine zcp (by kernel_rfl) ?_|refine zcq PP_mixed (by kernel_rfl) (by kernel_rfl) ?_
   repeat' (refine zap rfl ?_; first|refine zas rfl rfl (by omega) ?_|refine zag 0 rfl rfl rfl (fun h => by cases h) ?_|refine zaf 0 rfl rfl rfl rfl rfl rfl rfl ?_|refine zan rfl ?_|refine zab 1 rfl rfl rfl ?_|refine zao rfl ?_|refine zau rfl rfl (by omega) ?_|refine zav rfl rfl (by omega) ?_)
   all_goals (refine zch ?_; repeat (first|refine zck ?_|refine zcl ?_|refine zcm ?_|refine zcn ?_))
   repeat (first|refine zck ?_|refine zcl ?_|refine zcm ?_|refine zcn ?_|refine zco ?_)
   refine run_shareK [1] rfl ?_
   refine run_shareK [3] rfl ?_
   repeat (first|refine zck ?_|refine zcl ?_|refine zcm ?_|refine zcn ?_)
   first|refine zcp (by kernel_rfl) ?_|refine zcq PP_mixed (by kernel_rfl) (by kernel_rfl) ?_
   repeat' (refine zap rfl ?_; first|refine zan rfl ?_|refine zaa 0 rfl rfl rfl ?_|refine zaa 1 rfl rfl rfl ?_|refine zae 1 rfl rfl rfl rfl rfl rfl rfl ?_|refine zae 2 rfl rfl rfl rfl rfl rfl rfl ?_)
   all_goals (refine zch ?_; repeat (first|refine zck ?_|refine zcl ?_|refine zcm ?_|refine zcn ?_))
   repeat (first|refine zck ?_|refine zcl ?_|refine zcm ?_|refine zcn ?_|refine zco ?_)
   refine run_shareA [0] (fun s => RdCl w0 s 1 (some ⟨nb, 0, none⟩) 3 _ ∧ 3 ≤ c2) RdO.ofCl rfl ?_
   intro bl2 hs2 hv2
   exact retK [] (fun s => RdMac w0 s ⟨⟨pa, pc, va, vc⟩, ⟨fa, fc, la, lc, sa, sn, sc⟩, some ⟨nb, 0, none⟩, c2⟩ x' y' (cnt + 1)) (fun _ hs3 => ⟨hm1.mono (fun p hp => hs3 p (hs2 p (.tail _ (.tail _ hp)))) (Nat.le_succ _), hm2.mono (fun p hp => hs3 p (hs2 p (.tail _ (.tail _ hp)))) (Nat.le_succ _), ⟨_, _, _, hv2.1.mono hs3, by omega, by omega, by omega⟩, hv2.2⟩) rfl (ends_three rfl (zeo 0 rfl rfl rfl) (zeo 1 rfl rfl rfl) rfl ⟨rfl, _, rfl, rfl⟩)
end Go.Proofs.YtikackodhiollaaGreatDoor
namespace Go.Proofs.YtikackodhiollaaGreatDoor
variable (w0 : World)
open Go.Vc Sim Sim.Tx
set_option maxHeartbeats 8000000
theorem memNew (sh : Shared) (ad : Addr) (cap : Nat) (x y : Int) (hx : I64 x) (hy : I64 y) (hl : RdSl w0 sh wdE 3 (.slice (some ad) 2 cap) [x, y]) :
   Vc.Fn PP w0 sh 23 [.int .i64 3, .slice (some ad) 2 cap] [] (fun r Γ => ∃ q', r = .tuple #[memQ q', .int .i64 0] ∧ Γ = [RdO sh (fun s => RdMm w0 s q' x y 0)]) := by
 obtain ⟨bb, off, cc, T, fr, ea, e2, e3, _⟩ := hl.cells (i := 0) rfl
 obtain ⟨bb', off', cc', T', fr', ea', f2, f3, _⟩ := hl.cells (i := 1) rfl
 cases ea
 cases ea'
 have hN0 := hisNew w0 x
 have hN1 := hisNew w0 y
 refine zep en23 fn23 rfl rfl rfl ?_
 refine run_kept ?_
 repeat (first|refine zck ?_|refine zcl ?_|refine zcm ?_|refine zcn ?_)
 first|refine zcp (by kernel_rfl) ?_|refine zcq PP_mixed (by kernel_rfl) (by kernel_rfl) ?_
 repeat' (refine zap rfl ?_; first|refine zar (fun t4 => ?_)|refine zan rfl ?_)
 all_goals (refine zch ?_; repeat (first|refine zck ?_|refine zcl ?_|refine zcm ?_|refine zcn ?_))
 repeat (first|refine zck ?_|refine zcl ?_|refine zcm ?_|refine zcn ?_|refine zco ?_)
 repeat (first|refine zck ?_|refine zcl ?_|refine zcm ?_|refine zcn ?_)
 first|refine zcp (by kernel_rfl) ?_|refine zcq PP_mixed (by kernel_rfl) (by kernel_rfl) ?_
 repeat' (refine zap rfl ?_; first|refine zaj rfl ?_|refine zan rfl ?_|refine zbh rfl rfl (by omega) ?_|refine zbl rfl rfl (by omega) ?_|refine zbv rfl ?_)
 all_goals (refine zch ?_; repeat (first|refine zck ?_|refine zcl ?_|refine zcm ?_|refine zcn ?_))
 refine zcj rfl ?_
 repeat (first|refine zck ?_|refine zcl ?_|refine zcm ?_|refine zcn ?_|refine zco ?_)
 repeat (first|refine zck ?_|refine zcl ?_|refine zcm ?_|refine zcn ?_)
 first|refine zcp (by kernel_rfl) ?_|refine zcq PP_mixed (by kernel_rfl) (by kernel_rfl) ?_
 repeat' (refine zap rfl ?_; first|refine zan rfl ?_|refine zce rfl ?_|refine zbd rfl rfl (by omega) ?_)
 all_goals (refine zch ?_; repeat (first|refine zck ?_|refine zcl ?_|refine zcm ?_|refine zcn ?_))
 refine zcj rfl ?_
 repeat (first|refine zck ?_|refine zcl ?_|refine zcm ?_|refine zcn ?_|refine zco ?_)
 repeat (first|refine zck ?_|refine zcl ?_|refine zcm ?_|refine zcn ?_)
 first|refine zcp (by kernel_rfl) ?_|refine zcq PP_mixed (by kernel_rfl) (by kernel_rfl) ?_
 repeat' (refine zap rfl ?_; first|refine zan rfl ?_|refine zce rfl ?_|refine zbl rfl rfl (by omega) ?_)
 all_goals (refine zch ?_; repeat (first|refine zck ?_|refine zcl ?_|refine zcm ?_|refine zcn ?_))
 refine zcj rfl ?_
 repeat (first|refine zck ?_|refine zcl ?_|refine zcm ?_|refine zcn ?_|refine zco ?_)
 repeat (first|refine zck ?_|refine zcl ?_|refine zcm ?_|refine zcn ?_)
 first|refine zcp (by kernel_rfl) ?_|refine zcq PP_mixed (by kernel_rfl) (by kernel_rfl) ?_
 repeat' (refine zap rfl ?_; first|refine reg_makeSlice rfl rfl rfl (by omega) (by decide) (fun nv => ?_)|refine zcb rfl ?_|refine zar (fun t6 => ?_)|refine zan rfl ?_|refine zae 2 rfl rfl rfl rfl rfl rfl rfl ?_)
 all_goals (refine zch ?_; repeat (first|refine zck ?_|refine zcl ?_|refine zcm ?_|refine zcn ?_))
 repeat (first|refine zck ?_|refine zcl ?_|refine zcm ?_|refine zcn ?_|refine zco ?_)
 repeat (first|refine zck ?_|refine zcl ?_|refine zcm ?_|refine zcn ?_)
 first|refine zcp (by kernel_rfl) ?_|refine zcq PP_mixed (by kernel_rfl) (by kernel_rfl) ?_
 repeat' (refine zap rfl ?_; first|refine zan rfl ?_|refine zce rfl ?_)
 all_goals (refine zch ?_; repeat (first|refine zck ?_|refine zcl ?_|refine zcm ?_|refine zcn ?_))
 repeat (first|refine zck ?_|refine zcl ?_|refine zcm ?_|refine zcn ?_|refine zco ?_)
 refine run_nilslice 123 1 ?_
 refine zet ?_
 repeat (first|refine zck ?_|refine zcl ?_|refine zcm ?_|refine zcn ?_|refine zco ?_)
 repeat (first|refine zck ?_|refine zcl ?_|refine zcm ?_|refine zcn ?_)
 first|refine zcp (by kernel_rfl) ?_|refine zcq PP_mixed (by kernel_rfl) (by kernel_rfl) ?_
 repeat' (refine zap rfl ?_; first|refine zbg rfl rfl (by omega) ?_)
 all_goals (refine zch ?_; repeat (first|refine zck ?_|refine zcl ?_|refine zcm ?_|refine zcn ?_))
 refine zci rfl ?_
 repeat (first|refine zck ?_|refine zcl ?_|refine zcm ?_|refine zcn ?_|refine zco ?_)
 repeat (first|refine zck ?_|refine zcl ?_|refine zcm ?_|refine zcn ?_)
 first|refine zcp (by kernel_rfl) ?_|refine zcq PP_mixed (by kernel_rfl) (by kernel_rfl) ?_
 repeat' (refine zap rfl ?_; first|refine zas rfl rfl (by omega) ?_|refine zar (fun t8 => ?_)|refine zad rfl (fun hF Γ w h1 h2 => e2 hF Γ w h1 h2) (e3 _ (by omega)) ?_|refine zae 4 rfl rfl rfl rfl rfl rfl rfl ?_)
 all_goals (refine zch ?_; repeat (first|refine zck ?_|refine zcl ?_|refine zcm ?_|refine zcn ?_))
 repeat (first|refine zck ?_|refine zcl ?_|refine zcm ?_|refine zcn ?_|refine zco ?_)
 refine run_shareK [4] rfl ?_
 refine run_drawT [2] [(.quiet, 0), (.quiet, 1), (.quiet, 2), (.loud, 3), (.loud, 4), (.loud, 5)] [(.quiet, 6), (.loud, 7)] PP_mixed (by kernel_rfl) (by kernel_rfl) rfl ?_
 repeat' (refine zap rfl ?_; first|refine zdt rfl rfl rfl rfl rfl rfl (fun nb2 => ?_)|refine zaa 0 rfl rfl rfl ?_|refine zaa 1 rfl rfl rfl ?_|(refine zai [] hN0 rfl rfl rfl zdj ?_; rintro v Γ ⟨n0, rfl, rfl⟩)|refine zdz 3 4 rfl rfl rfl rfl rfl rfl rfl rfl (by omega) (fun _ _ => rfl) (fun an0 cn0 => ?_)|refine zao rfl ?_)
 refine reg_turn ?_
 repeat' (refine zap rfl ?_; first|refine zae 0 rfl rfl rfl rfl rfl rfl rfl ?_|refine zao rfl ?_)
 refine zch ?_
 repeat (first|refine zck ?_|refine zcl ?_|refine zcm ?_|refine zcn ?_|refine zco ?_)
 repeat (first|refine zck ?_|refine zcl ?_|refine zcm ?_|refine zcn ?_)
 first|refine zcp (by kernel_rfl) ?_|refine zcq PP_mixed (by kernel_rfl) (by kernel_rfl) ?_
 repeat' (refine zap rfl ?_; first|refine zan rfl ?_|refine zau rfl rfl (by omega) ?_)
 all_goals (refine zch ?_; repeat (first|refine zck ?_|refine zcl ?_|refine zcm ?_|refine zcn ?_))
 refine zec [0, 0, 0, 0, 0] rfl ?_
 repeat (first|refine zck ?_|refine zcl ?_|refine zcm ?_|refine zcn ?_|refine zco ?_)
 repeat (first|refine zck ?_|refine zcl ?_|refine zcm ?_|refine zcn ?_)
 first|refine zcp (by kernel_rfl) ?_|refine zcq PP_mixed (by kernel_rfl) (by kernel_rfl) ?_
 repeat' (refine zap rfl ?_; first|refine zbg rfl rfl (by omega) ?_)
 all_goals (refine zch ?_; repeat (first|refine zck ?_|refine zcl ?_|refine zcm ?_|refine zcn ?_))
 refine zci rfl ?_
 repeat (first|refine zck ?_|refine zcl ?_|refine zcm ?_|refine zcn ?_|refine zco ?_)
 repeat (first|refine zck ?_|refine zcl ?_|refine zcm ?_|refine zcn ?_)
 first|refine zcp (by kernel_rfl) ?_|refine zcq PP_mixed (by kernel_rfl) (by kernel_rfl) ?_
 repeat' (refine zap rfl ?_; first|refine zae 5 rfl rfl rfl rfl rfl rfl rfl ?_|refine zas rfl rfl (by omega) ?_|refine zar (fun t8 => ?_)|refine zad rfl (fun hF Γ w h1 h2 => f2 hF Γ w (fun p hp => h1 p (.tail _ hp)) h2) (f3 _ (by omega)) ?_)
 all_goals (refine zch ?_; repeat (first|refine zck ?_|refine zcl ?_|refine zcm ?_|refine zcn ?_))
 repeat (first|refine zck ?_|refine zcl ?_|refine zcm ?_|refine zcn ?_|refine zco ?_)
 refine run_shareK [5] rfl ?_
 refine run_drawT [0] [(.quiet, 0), (.quiet, 1), (.quiet, 2), (.loud, 3), (.loud, 4), (.loud, 5)] [(.quiet, 6), (.loud, 7)] PP_mixed (by kernel_rfl) (by kernel_rfl) rfl ?_
 repeat' (refine zap rfl ?_; first|refine zdt rfl rfl rfl rfl rfl rfl (fun nb2 => ?_)|refine zaa 0 rfl rfl rfl ?_|refine zaa 1 rfl rfl rfl ?_|(refine zai [] hN1 rfl rfl rfl zdj ?_; rintro v Γ ⟨n1, rfl, rfl⟩)|refine zdz 4 5 rfl rfl rfl rfl rfl rfl rfl rfl (by omega) (fun _ _ => rfl) (fun an1 cn1 => ?_)|refine zao rfl ?_)
 refine reg_turn ?_
 repeat' (refine zap rfl ?_; first|refine zae 0 rfl rfl rfl rfl rfl rfl rfl ?_|refine zao rfl ?_)
 refine zch ?_
 repeat (first|refine zck ?_|refine zcl ?_|refine zcm ?_|refine zcn ?_|refine zco ?_)
 repeat (first|refine zck ?_|refine zcl ?_|refine zcm ?_|refine zcn ?_)
 first|refine zcp (by kernel_rfl) ?_|refine zcq PP_mixed (by kernel_rfl) (by kernel_rfl) ?_
 repeat' (refine zap rfl ?_; first|refine zan rfl ?_|refine zau rfl rfl (by omega) ?_)
 all_goals (refine zch ?_; repeat (first|refine zck ?_|refine zcl ?_|refine zcm ?_|refine zcn ?_))
 repeat (first|refine zck ?_|refine zcl ?_|refine zcm ?_|refine zcn ?_|refine zco ?_)
 repeat (first|refine zck ?_|refine zcl ?_|refine zcm ?_|refine zcn ?_)
 first|refine zcp (by kernel_rfl) ?_|refine zcq PP_mixed (by kernel_rfl) (by kernel_rfl) ?_
 repeat' (refine zap rfl ?_; first|refine zbh rfl rfl (by omega) ?_)
 all_goals (refine zch ?_; repeat (first|refine zck ?_|refine zcl ?_|refine zcm ?_|refine zcn ?_))
 refine zcj rfl ?_
 refine zcs rfl ?_
 repeat (first|refine zck ?_|refine zcl ?_|refine zcm ?_|refine zcn ?_|refine zco ?_)
 repeat (first|refine zck ?_|refine zcl ?_|refine zcm ?_|refine zcn ?_)
 first|refine zcp (by kernel_rfl) ?_|refine zcq PP_mixed (by kernel_rfl) (by kernel_rfl) ?_
 repeat' (refine zap rfl ?_; first|refine zan rfl ?_|refine zab 0 rfl rfl rfl ?_|refine zae 3 rfl rfl rfl rfl rfl rfl rfl ?_)
 all_goals (refine zch ?_; repeat (first|refine zck ?_|refine zcl ?_|refine zcm ?_|refine zcn ?_))
 repeat (first|refine zck ?_|refine zcl ?_|refine zcm ?_|refine zcn ?_|refine zco ?_)
 refine run_shareK [1] rfl ?_
 refine run_shareK [1] rfl ?_
 refine run_shareK [2] rfl ?_
 refine run_shareA [2] (fun s => RdCl w0 s 1 an1 2 _ ∧ 2 ≤ cn1) RdO.ofCl rfl ?_
 intro bl hs hv
 have one : ∀ (s : Shared) (n : Nat) (z : Int), I64 z → (n, Obj.cells (List.toArray (msgE ⟨z, 0, none⟩)) 167 (0, 0)) ∈ s → RdHs w0 s ⟨some ⟨n, 0, none⟩, 1, 1⟩ z 0 := fun s n z hz hm =>
   ⟨[⟨z, 0, none⟩], rfl, .inr ⟨n, 0, _, _, _, rfl, fun hF Γ w hsh hst => (hst.frame (hsh _ hm)).2, rfl, Nat.le_refl _⟩, Nat.le_refl _, fun m hm => by rw [List.mem_singleton.1 hm]; exact ⟨RdVw.nil, hz, by unfold I64; dsimp only; omega⟩, Nat.le_refl _, ⟨z, 0, none⟩, rfl, rfl⟩
 exact retK [] (fun s => RdMm w0 s ⟨an1, cn1, some ⟨nv, 0, none⟩, 3⟩ x y 0) (fun s hs3 => ⟨⟨some ⟨n0, 0, none⟩, 1, 1⟩, ⟨some ⟨n1, 0, none⟩, 1, 1⟩, [none, none, none],
   ⟨hv.1.mono hs3, hv.2, .inr ⟨nv, 0, _, _, _, rfl, fun hF Γ w hsh hst => (hst.frame (hsh _ (hs3 _ (hs _ (.head _))))).2, rfl, Nat.le_refl _⟩, Nat.le_refl _, rfl, fun m hm => by
     simp only [List.mem_cons, List.not_mem_nil, or_false] at hm
     rcases hm with rfl | rfl | rfl <;> exact RdVw.nil⟩,
   one s n0 x hx (hs3 _ (hs _ (.tail _ (.head _)))), one s n1 y hy (hs3 _ (hs _ (.tail _ (.tail _ (.head _)))))⟩) rfl (zen rfl (zeo 1 rfl rfl rfl) rfl ⟨rfl, _, rfl, rfl⟩)
theorem macNew (sh : Shared) (ad : Addr) (cap : Nat) (x y : Int) (hx : I64 x) (hy : I64 y) (hl : RdSl w0 sh wdE 3 (.slice (some ad) 2 cap) [x, y]) :
   Vc.Fn PP w0 sh 12 [.int .i64 3, .slice (some ad) 2 cap] [] (fun r Γ => ∃ m' : MacS, r = .tuple #[macV m', .int .i64 0] ∧ Γ = [RdO sh (fun s => RdMac w0 s m' x y 0)]) := by
 have hM := memNew w0 sh ad cap x y hx hy hl
 have hL := linNew w0 sh ad cap x y hl
 refine zep en12 fn12 rfl rfl rfl ?_
 refine run_kept ?_
 repeat (first|refine zck ?_|refine zcl ?_|refine zcm ?_|refine zcn ?_)
 first|refine zcp (by kernel_rfl) ?_|refine zcq PP_mixed (by kernel_rfl) (by kernel_rfl) ?_
 repeat' (refine zap rfl ?_; first|refine zar (fun t4 => ?_)|refine zan rfl ?_)
 all_goals (refine zch ?_; repeat (first|refine zck ?_|refine zcl ?_|refine zcm ?_|refine zcn ?_))
 repeat (first|refine zck ?_|refine zcl ?_|refine zcm ?_|refine zcn ?_|refine zco ?_)
 repeat (first|refine zck ?_|refine zcl ?_|refine zcm ?_|refine zcn ?_)
 first|refine zcp (by kernel_rfl) ?_|refine zcq PP_mixed (by kernel_rfl) (by kernel_rfl) ?_
 repeat' (refine zap rfl ?_; first|refine zar (fun t6 => ?_)|refine zan rfl ?_|(refine zai [] hM rfl rfl rfl (fun _ hp => hp) ?_; rintro v Γ ⟨q', rfl, rfl⟩)|refine zae 2 rfl rfl rfl rfl rfl rfl rfl ?_)
 all_goals (refine zch ?_; repeat (first|refine zck ?_|refine zcl ?_|refine zcm ?_|refine zcn ?_))
 repeat (first|refine zck ?_|refine zcl ?_|refine zcm ?_|refine zcn ?_|refine zco ?_)
 repeat (first|refine zck ?_|refine zcl ?_|refine zcm ?_|refine zcn ?_)
 first|refine zcp (by kernel_rfl) ?_|refine zcq PP_mixed (by kernel_rfl) (by kernel_rfl) ?_
 repeat' (refine zap rfl ?_; first|refine zan rfl ?_|refine zbf rfl rfl (by omega) ?_)
 all_goals (refine zch ?_; repeat (first|refine zck ?_|refine zcl ?_|refine zcm ?_|refine zcn ?_))
 refine zcj rfl ?_
 repeat (first|refine zck ?_|refine zcl ?_|refine zcm ?_|refine zcn ?_|refine zco ?_)
 repeat (first|refine zck ?_|refine zcl ?_|refine zcm ?_|refine zcn ?_)
 first|refine zcp (by kernel_rfl) ?_|refine zcq PP_mixed (by kernel_rfl) (by kernel_rfl) ?_
 repeat' (refine zap rfl ?_; first|refine zar (fun t8 => ?_)|refine zan rfl ?_|(refine zai [] hL rfl rfl rfl (fun _ hp => hp) ?_; rintro v Γ ⟨l', rfl, rfl⟩)|refine zae 4 rfl rfl rfl rfl rfl rfl rfl ?_)
 all_goals (refine zch ?_; repeat (first|refine zck ?_|refine zcl ?_|refine zcm ?_|refine zcn ?_))
 repeat (first|refine zck ?_|refine zcl ?_|refine zcm ?_|refine zcn ?_|refine zco ?_)
 repeat (first|refine zck ?_|refine zcl ?_|refine zcm ?_|refine zcn ?_)
 first|refine zcp (by kernel_rfl) ?_|refine zcq PP_mixed (by kernel_rfl) (by kernel_rfl) ?_
 repeat' (refine zap rfl ?_; first|refine zan rfl ?_|refine zbf rfl rfl (by omega) ?_)
 all_goals (refine zch ?_; repeat (first|refine zck ?_|refine zcl ?_|refine zcm ?_|refine zcn ?_))
 refine zcj rfl ?_
 repeat (first|refine zck ?_|refine zcl ?_|refine zcm ?_|refine zcn ?_|refine zco ?_)
 refine run_shareK [3] rfl ?_
 refine run_shareK [3] rfl ?_
 repeat (first|refine zck ?_|refine zcl ?_|refine zcm ?_|refine zcn ?_)
 first|refine zcp (by kernel_rfl) ?_|refine zcq PP_mixed (by kernel_rfl) (by kernel_rfl) ?_
 repeat' (refine zap rfl ?_; first|refine reg_makeSlice rfl rfl rfl (by omega) (by decide) (fun nv => ?_)|refine zcb rfl ?_|refine zan rfl ?_|refine zaa 0 rfl rfl rfl ?_|refine zaa 1 rfl rfl rfl ?_|refine zae 2 rfl rfl rfl rfl rfl rfl rfl ?_)
 all_goals (refine zch ?_; repeat (first|refine zck ?_|refine zcl ?_|refine zcm ?_|refine zcn ?_))
 repeat (first|refine zck ?_|refine zcl ?_|refine zcm ?_|refine zcn ?_|refine zco ?_)
 refine run_shareK [3] rfl ?_
 refine run_shareO [0] (fun _ hp => .tail _ (.tail _ (.tail _ hp))) rfl ?_
 intro bl hs hu hv
 refine run_shareO [0] (fun _ hp => hs _ (.tail _ (.tail _ (.tail _ hp)))) rfl ?_
 intro bl2 hs2 hu2 hv2
 exact retK [] (fun s => RdMac w0 s ⟨q', l', some ⟨nv, 0, none⟩, 3⟩ x y 0) (fun s hs3 => ⟨hv2.mono (fun p hp => hs3 p (hu2 p hp)) (Nat.le_refl _), hv.mono (fun p hp => hs3 p (hs2 p (hu p hp))) (Nat.le_refl _), ⟨0, 0, 0, .inr ⟨nv, 0, _, _, _, rfl, fun hF Γ w hsh hst => (hst.frame (hsh _ (hs3 _ (hs2 _ (hs _ (.head _)))))).2, rfl, Nat.le_refl _⟩, by omega, by omega, by omega⟩, Nat.le_refl _⟩) rfl (zen rfl (zeo 0 rfl rfl rfl) rfl ⟨rfl, _, rfl, rfl⟩)
end Go.Proofs.YtikackodhiollaaGreatDoor
namespace Go.Vc
theorem wr_mid (vs post : List Value) : ∀ (pre old : List Value), old.length = vs.length → wr vs pre.length (pre ++ (old ++ post)) = some (pre ++ (vs ++ post))
 | [], old, h => by
   have : ∀ (vs old : List Value), old.length = vs.length → over vs (old ++ post) = some (vs ++ post) := by
     intro vs
     induction vs with
     | nil => intro old h; rw [List.length_eq_zero_iff.1 h]; rfl
     | cons v vs ih =>
       intro old h
       cases old with
       | nil => cases h
       | cons o old =>
         simp only [List.cons_append, over]
         rw [ih old (by simpa using h)]
   simp only [List.length_nil, wr, List.nil_append]
   exact this vs old h
 | p :: pre, old, h => by
   simp only [List.cons_append, List.length_cons, wr]
   rw [wr_mid vs post pre old h]
theorem wr_flat {α : Type} {enc : α → List Value} {q : Nat} {l : List α} (hq : ∀ x ∈ l, (enc x).length = q) {i : Nat} {x y : α} (hx : l[i]? = some x) (hy : (enc y).length = q) : ∀ o, o = i * q → wr (enc y) o (l.flatMap enc) = some ((l.set i y).flatMap enc) := by
 intro o ho
 have hi := (List.getElem?_eq_some_iff.1 hx).1
 have e1 : l = l.take i ++ x :: l.drop (i + 1) := by
   have := (List.getElem?_eq_some_iff.1 hx).2
   rw [← this, ← List.drop_eq_getElem_cons hi, List.take_append_drop]
 have e2 : l.set i y = l.take i ++ y :: l.drop (i + 1) := by rw [List.set_eq_take_append_cons_drop, if_pos hi]
 have e3 : ((l.take i).flatMap enc).length = o := by
   rw [flat_len (l.take i) (fun z hz => hq z (List.mem_of_mem_take hz)), List.length_take, Nat.min_eq_left (Nat.le_of_lt hi), ho]
 rw [e2]
 conv => lhs; rw [e1]
 simp only [List.flatMap_append, List.flatMap_cons]
 rw [← e3]
 exact wr_mid (enc y) _ _ _ (by rw [hy, hq x (List.mem_of_getElem? hx)])
theorem rd_flat {α : Type} {enc : α → List Value} {q : Nat} {l : List α} (hq : ∀ x ∈ l, (enc x).length = q) {i : Nat} {x : α} (hx : l[i]? = some x) : ∀ o, o = i * q → rd true q (l.flatMap enc) o = some (.agg (List.toArray (enc x))) := by
 have h := rd_cells (c := (l.flatMap enc).toArray) (o := i * q) (hq x (List.mem_of_getElem? hx)) (fun k u hu => by
   rw [List.getElem?_toArray]
   exact flat_at l hq i x hx k u hu)
 intro o ho
 exact h o ho
end Go.Vc
namespace Go.Proofs.YtikackodhiollaaGreatDoor
variable (w0 : World)
open Go.Vc Sim Sim.Tx
set_option maxHeartbeats 8000000
structure TR where
 o : AO
 g : Gots
 s : Bool
 t : Int
 an : Int
 a : Option Addr
 c : Nat
def trE (x : TR) : List Value :=
 match stt x.o x.g with
 | .look => [codeI x.o true false false 0 0, nextV (codeI x.o true false false 0 0), .int .i64 5, .int .i64 (plI x.o.pl), .int .i64 0, .int .u32 0, .int .u32 0, .int .i64 0, .int .u32 0, .int .u32 0, .slice x.a x.g.length x.c]
 | .swap v => [codeI x.o true true false x.t x.an, nextV (codeI x.o true true false x.t x.an), .int .i64 6, .int .i64 (plI x.o.pl), .int .i64 v, .int .u32 0, .int .u32 0, .int .i64 (x.o.fn v), .int .u32 0, .int .u32 0, .slice x.a x.g.length x.c]
 | .done => [codeI x.o true x.s true x.t x.an, .nilFunc, .int .i64 0, .int .i64 0, .int .i64 0, .int .u32 0, .int .u32 0, .int .i64 0, .int .u32 0, .int .u32 0, .slice x.a x.g.length x.c]
theorem trE_len (x : TR) : (trE x).length = 11 := by unfold trE; split <;> rfl
theorem trE_one (x : TR) : allOne (trE x) = true := by unfold trE; split <;> rfl
structure RdTr (w0 : World) (sh : Shared) (cnt : Nat) (x : TR) : Prop where
 cl : RdCl w0 sh 4 x.a x.g.length (x.g.flatMap gotE)
 cap : x.g.length ≤ x.c
 few : x.g.length ≤ cnt
 tr : 0 ≤ x.t ∧ x.t ≤ cnt
 ok : x.o.ok
 vs : ∀ p ∈ x.g, I64 p.1
theorem RdTr.mono {w0 : World} {sh sh' : Shared} {cnt cnt' : Nat} {x : TR} (h : RdTr w0 sh cnt x) (hs : ∀ p ∈ sh, p ∈ sh') (hc : cnt ≤ cnt') : RdTr w0 sh' cnt' x :=
 ⟨h.cl.mono hs, h.cap, by have := h.few; omega, by have := h.tr; omega, h.ok, h.vs⟩
theorem flat_snoc (g : Gots) (p : Int × Bool) : (g ++ [p]).flatMap gotE = g.flatMap gotE ++ gotE p := by rw [List.flatMap_append]; simp
def TR.give (x : TR) (w : Int) (ok : Bool) (nb : Nat) (cap : Nat) : TR :=
 ⟨x.o, x.g ++ [(w, ok)], if x.g = [] then false else true, if x.g = [] then 0 else x.t + 1, if x.o.fn w = w ∨ (ok = true ∧ x.g ≠ []) then w else if x.g = [] then 0 else x.an, some ⟨nb, 0, none⟩, cap⟩
theorem trE_look {x : TR} (h : stt x.o x.g = .look) : trE x = [codeI x.o true false false 0 0, nextV (codeI x.o true false false 0 0), .int .i64 5, .int .i64 (plI x.o.pl), .int .i64 0, .int .u32 0, .int .u32 0, .int .i64 0, .int .u32 0, .int .u32 0, .slice x.a x.g.length x.c] := by unfold trE; rw [h]
theorem trE_swap {x : TR} {v : Int} (h : stt x.o x.g = .swap v) : trE x = [codeI x.o true true false x.t x.an, nextV (codeI x.o true true false x.t x.an), .int .i64 6, .int .i64 (plI x.o.pl), .int .i64 v, .int .u32 0, .int .u32 0, .int .i64 (x.o.fn v), .int .u32 0, .int .u32 0, .slice x.a x.g.length x.c] := by unfold trE; rw [h]
theorem trE_done {x : TR} (h : stt x.o x.g = .done) : trE x = [codeI x.o true x.s true x.t x.an, .nilFunc, .int .i64 0, .int .i64 0, .int .i64 0, .int .u32 0, .int .u32 0, .int .i64 0, .int .u32 0, .int .u32 0, .slice x.a x.g.length x.c] := by unfold trE; rw [h]
def GiveF (w0 : World) (sh : Shared) (cnt : Nat) (x : TR) (w : Int) (ok : Bool) : Prop :=
 Vc.Fn PP w0 sh 139 [.agg (List.toArray (trE x)), gotV w ok] [] (fun r Γ => ∃ x' : TR, (x'.o, x'.g) = (x.o, x.g ++ [(w, ok)]) ∧ r = .agg (List.toArray (trE x')) ∧ Γ = [RdO sh (fun s => RdTr w0 s (cnt + 1) x')])
theorem give_row {w0 : World} {sh : Shared} {cnt : Nat} {x : TR} (h : RdTr w0 sh cnt x) (w : Int) (hw : I64 w) (ok : Bool) (nb cap : Nat) (g : Heap) (hg : SlA 129 4 (some ⟨nb, 0, none⟩) (x.g.length + 1) cap (x.g.flatMap gotE ++ gotE (w, ok)) g) : RdO sh (fun s => RdTr w0 s (cnt + 1) (x.give w ok nb cap)) g := by
 refine RdO.mono (fun s hs hc => ?_) g (RdO.ofCl (w0 := w0) (sh := sh) g hg)
 obtain ⟨h1, h2⟩ := hc
 have hf := h.few
 have ht := h.tr
 refine ⟨?_, by show (x.g ++ [(w, ok)]).length ≤ cap; rw [List.length_append]; exact h2, by show (x.g ++ [(w, ok)]).length ≤ _; rw [List.length_append, List.length_singleton]; omega, ?_, h.ok, fun p hp => ?_⟩
 · show RdCl w0 s 4 (some ⟨nb, 0, none⟩) (x.g ++ [(w, ok)]).length ((x.g ++ [(w, ok)]).flatMap gotE)
   rw [flat_snoc, List.length_append]
   exact h1
 · show 0 ≤ (if x.g = [] then 0 else x.t + 1) ∧ (if x.g = [] then 0 else x.t + 1) ≤ _
   split <;> omega
 · rcases List.mem_append.1 hp with hp | hp
   · exact h.vs p hp
   · rw [List.mem_singleton.1 hp]; exact hw
theorem taskGive (sh : Shared) (cnt : Nat) (hc : cnt ≤ 900) (x : TR) (h : RdTr w0 sh cnt x) (w : Int) (hw : I64 w) (ok : Bool) (hl : stt x.o x.g = .look → ok = true) (hd : stt x.o x.g ≠ .done) : GiveF w0 sh cnt x w ok := by
 unfold GiveF
 have hf := h.few
 have ht := h.tr
 cases hs : stt x.o x.g with
 | done => exact absurd hs hd
 | look =>
   have hg := stt_look hs
   have hok := hl hs
   subst hok
   have e2 := stt_snoc x.o x.g w true
   rw [trE_look hs]
   by_cases hv : x.o.fn w = w
   · have hn := next_same w0 x.o h.ok false true (by decide) 0 (by omega) 0 w hv
     refine (give_done w0 sh 83 _ _ _ (codeMeth x.o true false false 0 0) 5 (plI x.o.pl) 0 0 0 0 0 0 w true x.a x.g.length x.c _ h.cl h.cap (by omega) hn).post ?_
     rintro v Γ ⟨nb, cap, rfl, rfl⟩
     refine ⟨_, ⟨x.give w true nb cap, rfl, ?_, rfl⟩, fun g hg2 => Stars.one.2 (give_row h w hw true nb cap g (Stars.one.1 hg2))⟩
     rw [if_pos (.inr hv)] at e2
     rw [trE_done e2]
     simp [TR.give, hg, hv]
   · have hn := next_swap w0 x.o h.ok false true (by decide) 0 (by omega) 0 w hv
     refine (give_go w0 sh 83 _ _ _ (codeMeth x.o true false false 0 0) 5 (plI x.o.pl) 0 0 6 (plI x.o.pl) w (x.o.fn w) w true x.a x.g.length x.c _ h.cl h.cap (by omega) hn).post ?_
     rintro v Γ ⟨nb, cap, rfl, rfl⟩
     refine ⟨_, ⟨x.give w true nb cap, rfl, ?_, rfl⟩, fun g hg2 => Stars.one.2 (give_row h w hw true nb cap g (Stars.one.1 hg2))⟩
     rw [if_neg (by rw [hg]; simp [hv])] at e2
     rw [trE_swap e2]
     simp [TR.give, hg, hv]
 | swap v0 =>
   have hg : x.g ≠ [] := fun e => by rw [e] at hs; cases hs
   have hg1 : 1 ≤ x.g.length := (stt_swap hs).2
   have e2 := stt_snoc x.o x.g w ok
   rw [trE_swap hs]
   cases ok with
   | true =>
     have hn := next_good w0 x.o x.t (by omega) x.an w
     refine (give_done w0 sh 83 _ _ _ (codeMeth x.o true true false x.t x.an) 6 (plI x.o.pl) v0 (x.o.fn v0) 0 0 0 0 w true x.a x.g.length x.c _ h.cl h.cap (by omega) hn).post ?_
     rintro v Γ ⟨nb, cap, rfl, rfl⟩
     refine ⟨_, ⟨x.give w true nb cap, rfl, ?_, rfl⟩, fun g hg2 => Stars.one.2 (give_row h w hw true nb cap g (Stars.one.1 hg2))⟩
     rw [if_pos (.inl ⟨rfl, hg1⟩)] at e2
     rw [trE_done e2]
     simp [TR.give, hg]
   | false =>
     by_cases hv : x.o.fn w = w
     · have hn := next_same w0 x.o h.ok true false (fun _ => rfl) x.t (by omega) x.an w hv
       refine (give_done w0 sh 83 _ _ _ (codeMeth x.o true true false x.t x.an) 6 (plI x.o.pl) v0 (x.o.fn v0) 0 0 0 0 w false x.a x.g.length x.c _ h.cl h.cap (by omega) hn).post ?_
       rintro v Γ ⟨nb, cap, rfl, rfl⟩
       refine ⟨_, ⟨x.give w false nb cap, rfl, ?_, rfl⟩, fun g hg2 => Stars.one.2 (give_row h w hw false nb cap g (Stars.one.1 hg2))⟩
       rw [if_pos (.inr hv)] at e2
       rw [trE_done e2]
       simp [TR.give, hg, hv]
     · have hn := next_swap w0 x.o h.ok true false (fun _ => rfl) x.t (by omega) x.an w hv
       refine (give_go w0 sh 83 _ _ _ (codeMeth x.o true true false x.t x.an) 6 (plI x.o.pl) v0 (x.o.fn v0) 6 (plI x.o.pl) w (x.o.fn w) w false x.a x.g.length x.c _ h.cl h.cap (by omega) hn).post ?_
       rintro v Γ ⟨nb, cap, rfl, rfl⟩
       refine ⟨_, ⟨x.give w false nb cap, rfl, ?_, rfl⟩, fun g hg2 => Stars.one.2 (give_row h w hw false nb cap g (Stars.one.1 hg2))⟩
       rw [if_neg (by simp [hv])] at e2
       rw [trE_swap e2]
       simp [TR.give, hg, hv]
end Go.Proofs.YtikackodhiollaaGreatDoor
namespace Go.Proofs.YtikackodhiollaaGreatDoor
variable (w0 : World)
open Go.Vc Sim Sim.Tx
set_option maxHeartbeats 8000000
structure WoS where
 m : MacS
 ta : Option Addr
 tc : Nat
 sa : Option Addr
 sc : Nat
 n : Nat
abbrev woV (W : WoS) : Value := .agg (List.toArray [.slice W.m.q.pa 2 W.m.q.pc, .slice W.m.q.va 3 W.m.q.vc, .slice W.m.l.fa 2 W.m.l.fc, .slice W.m.l.la 1 W.m.l.lc, .map none, .slice W.m.sa 3 W.m.sc, .int .i64 0, .slice W.ta W.n W.tc, .slice W.sa W.n W.sc])
abbrev boE : Bool → List Value := fun b => [.bool b]
structure RdWo (w0 : World) (sh : Shared) (W : WoS) (a : Tx.Wd) (cnt : Nat) : Prop where
 mac : RdMac w0 sh W.m a.w0 a.w1 cnt
 rows : ∃ rows : List TR, rows.map (fun x => (x.o, x.g)) = a.ts ∧ RdCl w0 sh 11 W.ta W.n (rows.flatMap trE) ∧ ∀ x ∈ rows, RdTr w0 sh cnt x
 tcap : W.n ≤ W.tc
 st : RdCl w0 sh 1 W.sa W.n ((List.replicate W.n false).flatMap boE)
 scap : W.n ≤ W.sc
 n : W.n = a.ts.length
 few : a.ts.length ≤ 3
 i0 : I64 a.w0
 i1 : I64 a.w1
theorem RdWo.mono {w0 : World} {sh sh' : Shared} {W : WoS} {a : Tx.Wd} {cnt cnt' : Nat} (h : RdWo w0 sh W a cnt) (hs : ∀ p ∈ sh, p ∈ sh') (hc : cnt ≤ cnt') : RdWo w0 sh' W a cnt' := by
 obtain ⟨h1, ⟨rows, h2, h3, h4⟩, h5, h6, h7, h8, h9, h10, h11⟩ := h
 exact ⟨h1.mono hs hc, ⟨rows, h2, h3.mono hs, fun x hx => (h4 x hx).mono hs hc⟩, h5, h6.mono hs, h7, h8, h9, h10, h11⟩
theorem RdWo.at {w0 : World} {sh : Shared} {W : WoS} {a : Tx.Wd} {cnt : Nat} (h : RdWo w0 sh W a cnt) {i : Nat} (hi : i < a.ts.length) :
   ∃ (rows : List TR) (x : TR), rows.map (fun x => (x.o, x.g)) = a.ts ∧ RdSl w0 sh trE 11 (.slice W.ta W.n W.tc) rows ∧ (∀ x ∈ rows, RdTr w0 sh cnt x) ∧ rows.length = W.n ∧ rows[i]? = some x ∧ a.ts[i]? = some (x.o, x.g) := by
 obtain ⟨rows, h2, h3, h4⟩ := h.rows
 have hn : rows.length = W.n := by rw [h.n, ← h2, List.length_map]
 obtain ⟨x, hx⟩ : ∃ x, rows[i]? = some x := ⟨_, List.getElem?_eq_getElem (by rw [hn, h.n]; exact hi)⟩
 refine ⟨rows, x, h2, ?_, h4, hn, hx, ?_⟩
 · have hc := h.tcap
   rw [← hn] at h3 hc ⊢
   exact RdCl.sl (fun x _ => trE_len x) h3 hc
 · rw [← h2, List.getElem?_map, hx]; rfl
theorem RdWo.stop {w0 : World} {sh : Shared} {W : WoS} {a : Tx.Wd} {cnt : Nat} (h : RdWo w0 sh W a cnt) : RdSl w0 sh boE 1 (.slice W.sa W.n W.sc) (List.replicate W.n false) := by
 have h1 := h.st
 have h2 := h.scap
 have e : (List.replicate W.n false).length = W.n := List.length_replicate
 have := RdCl.sl (w0 := w0) (sh := sh) (encE := boE) (sz := 1) (a := W.sa) (l := List.replicate W.n false) (cap := W.sc) (fun _ _ => rfl) (by rw [e]; exact h1) (by rw [e]; exact h2)
 rw [e] at this
 exact this
theorem woDead (W : WoS) : FnE PP w0 [] 100 [woV W] [] (.bool false) [] := by
 have hs := macSize w0 W.m
 refine zep en100 fn100 rfl rfl rfl ?_
 repeat (first|refine zck ?_|refine zcl ?_|refine zcm ?_|refine zcn ?_)
 first|refine zcp (by kernel_rfl) ?_|refine zcq PP_mixed (by kernel_rfl) (by kernel_rfl) ?_
 repeat' (refine zap rfl ?_; first|refine zan rfl ?_|refine zaq (cs := [_, _, _, _, _, _, _, _, _]) rfl (fun nb => ?_))
 all_goals (refine zch ?_; repeat (first|refine zck ?_|refine zcl ?_|refine zcm ?_|refine zcn ?_))
 refine zeb [0] rfl ?_
 repeat' (first|refine zck ?_|refine zcp (by kernel_rfl) ?_|(refine zap rfl ?_; first|refine zan rfl ?_|refine zan rfl ?_|refine zaa 0 rfl rfl rfl ?_|refine zah [] hs rfl rfl rfl zdj rfl ?_|refine zao rfl ?_|refine zan rfl ?_|refine zbd rfl rfl (by omega) ?_)|refine zch ?_)
 exact zej rfl ⟨rfl, rfl⟩
theorem woStopped (sh : Shared) (W : WoS) (a : Tx.Wd) (cnt : Nat) (h : RdWo w0 sh W a cnt) (i : Nat) (hi : i < a.ts.length) : FnE PP w0 sh 136 [woV W, .int .i64 i] [] (.bool false) [] := by
 have hin : i < W.n := by rw [h.n]; exact hi
 obtain ⟨bb, off, cc, T, fr, ea, e2, _, e3⟩ := h.stop.cells (i := i) (x := false) (by rw [List.getElem?_replicate, if_pos hin])
 obtain ⟨m, ta, tc, sa, sc, n⟩ := W
 dsimp only [woV] at ea hin ⊢
 subst ea
 refine zep en136 fn136 rfl rfl rfl ?_
 repeat (first|refine zck ?_|refine zcl ?_|refine zcm ?_|refine zcn ?_)
 first|refine zcp (by kernel_rfl) ?_|refine zcq PP_mixed (by kernel_rfl) (by kernel_rfl) ?_
 repeat' (refine zap rfl ?_; first|refine zan rfl ?_|refine zaq (cs := [_, _, _, _, _, _, _, _, _]) rfl (fun nb => ?_))
 all_goals (refine zch ?_; repeat (first|refine zck ?_|refine zcl ?_|refine zcm ?_|refine zcn ?_))
 refine zeb [0] rfl ?_
 repeat (first|refine zck ?_|refine zcl ?_|refine zcm ?_|refine zcn ?_)
 first|refine zcp (by kernel_rfl) ?_|refine zcq PP_mixed (by kernel_rfl) (by kernel_rfl) ?_
 repeat' (refine zap rfl ?_; first|refine zad rfl (fun hF Γ w h1 h2 => e2 hF Γ w (fun p hp => h1 p (.tail _ hp)) h2) (e3 0 _ rfl _ (by omega)) ?_|refine zas rfl rfl (by omega) ?_|refine zaj rfl ?_|refine zan rfl ?_|refine zaa 0 rfl rfl rfl ?_|refine zce rfl ?_|refine zao rfl ?_|refine zbg rfl rfl (by omega) ?_|refine zbu rfl ?_)
 all_goals (refine zch ?_; repeat (first|refine zck ?_|refine zcl ?_|refine zcm ?_|refine zcn ?_))
 exact zej rfl ⟨rfl, rfl⟩
theorem trDone (x : TR) (hd : stt x.o x.g ≠ .done) : FnE PP w0 [] 55 [.agg (List.toArray (trE x))] [] (.bool false) [] := by
 cases hs : stt x.o x.g with
 | done => exact absurd hs hd
 | look => rw [trE_look hs]; exact done_spec w0 _ _ _ _ _ _ _ _ _ _ _ _
 | swap v => rw [trE_swap hs]; exact done_spec w0 _ _ _ _ _ _ _ _ _ _ _ _
theorem trDoneT (x : TR) (hd : stt x.o x.g = .done) : FnE PP w0 [] 55 [.agg (List.toArray (trE x))] [] (.bool true) [] := by
 rw [trE_done hd]; exact done_nil w0 _ _ _ _ _ _ _ _ _
def actOf (x : TR) : Value := match stt x.o x.g with
 | .look => actV 5 (plI x.o.pl) 0 0
 | .swap v => actV 6 (plI x.o.pl) v (x.o.fn v)
 | .done => actV 0 0 0 0
def liveB (x : TR) : Bool := match stt x.o x.g with | .done => false | _ => true
theorem trAct (x : TR) : FnE PP w0 [] 96 [.agg (List.toArray (trE x))] [] (.tuple #[actOf x, .bool (liveB x)]) [] := by
 unfold actOf liveB
 cases hs : stt x.o x.g with
 | done => rw [trE_done hs]; exact act_done w0 _ _ _ _ _ _ _ _ _
 | look => rw [trE_look hs]; exact act_go w0 _ _ _ _ _ _ _ _ _ _ _ _
 | swap v => rw [trE_swap hs]; exact act_go w0 _ _ _ _ _ _ _ _ _ _ _ _
theorem woTakes (sh : Shared) (W : WoS) (a : Tx.Wd) (cnt : Nat) (h : RdWo w0 sh W a cnt) (i : Nat) (hi : i ∈ a.steps) : FnE PP w0 sh 102 [woV W, .int .i64 ((i : Int) + 1)] [] (.bool true) [] := by
 obtain ⟨o, g, hx, hd⟩ := mem_steps.1 hi
 have hil : i < a.ts.length := (List.getElem?_eq_some_iff.1 hx).1
 obtain ⟨rows, x, h2, h3, h4, h5, h6, h7⟩ := h.at hil
 rw [hx] at h7
 cases h7
 have hin : i < W.n := by rw [h.n]; exact hil
 have hst := woStopped w0 sh W a cnt h i hil
 have hdn := trDone w0 x hd
 rw [← h5] at h3
 obtain ⟨bb, off, cc, T, fr, ea, e2, e3, _⟩ := h3.cells h6
 have hfew := h.few
 have hn := h.n
 obtain ⟨m, ta, tc, sa, sc, n⟩ := W
 dsimp only [woV] at ea hin hst hn ⊢
 subst ea
 refine zep en102 fn102 rfl rfl rfl ?_
 repeat (first|refine zck ?_|refine zcl ?_|refine zcm ?_|refine zcn ?_)
 first|refine zcp (by kernel_rfl) ?_|refine zcq PP_mixed (by kernel_rfl) (by kernel_rfl) ?_
 repeat' (refine zap rfl ?_; first|refine zan rfl ?_|refine zaq (cs := [_, _, _, _, _, _, _, _, _]) rfl (fun nb => ?_))
 all_goals (refine zch ?_; repeat (first|refine zck ?_|refine zcl ?_|refine zcm ?_|refine zcn ?_))
 refine zeb [0] rfl ?_
 repeat (first|refine zck ?_|refine zcl ?_|refine zcm ?_|refine zcn ?_)
 first|refine zcp (by kernel_rfl) ?_|refine zcq PP_mixed (by kernel_rfl) (by kernel_rfl) ?_
 repeat' (refine zap rfl ?_; first|refine zbx rfl ?_|refine zad rfl (fun hF Γ w h1 h2 => e2 hF Γ w (fun p hp => h1 p (.tail _ hp)) h2) (e3 _ (by omega)) ?_|refine zas rfl rfl (by omega) ?_|refine zaj rfl ?_|refine zan rfl ?_|refine zaa 0 rfl rfl rfl ?_|refine zce rfl ?_|refine zah [] hst rfl (by rw [show (i : Int) + 1 - 1 = i by omega]; rfl) rfl (fun p hp => .tail _ hp) rfl ?_|refine zah [] hdn rfl rfl rfl zdj rfl ?_|refine zao rfl ?_|refine zbi rfl rfl (by omega) ?_|refine zbm rfl rfl (by omega) ?_|refine zav rfl rfl (by omega) ?_|refine zbu rfl ?_)
 all_goals (refine zch ?_; repeat (first|refine zck ?_|refine zcl ?_|refine zcm ?_|refine zcn ?_))
 exact zej rfl ⟨rfl, rfl⟩
end Go.Proofs.YtikackodhiollaaGreatDoor
namespace Sim.Tx
open Go Go.Vc Sim
theorem pick2_get (a : Tx.Wd) (b : Bool) : pick2 b a.w0 a.w1 = a.get b := by cases b <;> rfl
theorem put2_put (a : Tx.Wd) (b : Bool) (v : Int) : put2 b a.w0 a.w1 v = ((a.put b v).w0, (a.put b v).w1) := by cases b <;> rfl
theorem rows_set {α β : Type} {f : α → β} {l : List α} {m : List β} (h : l.map f = m) (i : Nat) (x : α) (y : β) (hy : f x = y) : (l.set i x).map f = m.set i y := by rw [List.map_set, h, hy]
theorem w64_bdX (x : Int) : -9223372036854775808 ≤ w64 x ∧ w64 x ≤ 9223372036854775807 := by
 unfold w64
 simp only [IntKind.wrap, IntKind.bits, IntKind.signed]
 simp
 constructor <;> (split <;> omega)
theorem I64.fn {o : AO} (ho : I64 o.N) {v : Int} (hv : I64 v) : I64 (o.fn v) := by
 unfold I64 at *
 unfold AO.fn
 split
 · exact w64_bdX _
 · split
   · omega
   · split
     · exact ho
     · split
       · exact ho
       · exact hv
end Sim.Tx
namespace Go.Proofs.YtikackodhiollaaGreatDoor
variable (w0 : World)
open Go.Vc Sim Sim.Tx
set_option maxHeartbeats 8000000
theorem woStep0 (sh : Shared) (W : WoS) (a : Tx.Wd) (cnt : Nat) (hc : cnt ≤ 900) (h : RdWo w0 sh W a cnt) (i : Nat) (rows : List TR) (x : TR) (hrows : rows.map (fun x => (x.o, x.g)) = a.ts) (hsl : RdSl w0 sh trE 11 (.slice W.ta W.n W.tc) rows) (hall : ∀ x ∈ rows, RdTr w0 sh cnt x) (hlen : rows.length = W.n) (hx : rows[i]? = some x)
   (op ad v n : Int) (hact : actOf x = actV op ad v n) (val : Int) (hval : I64 val) (ok : Bool) (hl : stt x.o x.g = .look → ok = true) (hd : stt x.o x.g ≠ .done) (x' y' : Int) (h0 : I64 x') (h1 : I64 y')
   (hDo : Vc.Fn PP w0 sh 137 [macV W.m, .int .i64 ((i : Int) + 1), actV op ad v n, .int .i64 0] [] (fun r Γ => ∃ m' : MacS, r = .tuple #[macV m', gotV val ok, .int .i64 0] ∧ Γ = [RdO sh (fun s => RdMac w0 s m' x' y' (cnt + 2))])) :
   Vc.Fn PP w0 sh 103 [woV W, .int .i64 ((i : Int) + 1), .int .i64 0] [] (fun r Γ => ∃ W' : WoS, r = woV W' ∧ Γ = [RdO sh (fun s => RdWo w0 s W' ⟨x', y', a.ts.set i (x.o, x.g ++ [(val, ok)])⟩ (cnt + 2))]) := by
 have hAct := trAct w0 x
 rw [hact] at hAct
 have hG := taskGive w0 sh cnt hc x (hall x (List.mem_of_getElem? hx)) val hval ok hl hd
 unfold GiveF at hG
 have hil := (List.getElem?_eq_some_iff.1 hx).1
 have hfew := h.few
 have hn := h.n
 have hst := h.st
 have hsc := h.scap
 have hsl0 := hsl
 rw [← hlen] at hsl
 obtain ⟨bb, off, cc, T, fr, ea, e2, e3, _⟩ := hsl.cells hx
 have hone : allOne (rows.flatMap trE) = true := by
   have : ∀ l : List TR, allOne (l.flatMap trE) = true := fun l => by
     induction l with
     | nil => rfl
     | cons y l ih =>
       rw [List.flatMap_cons]
       have ap : ∀ p q : List Value, allOne p = true → allOne q = true → allOne (p ++ q) = true := fun p q hp hq => by
         induction p with
         | nil => exact hq
         | cons z p ihp =>
           simp only [List.cons_append, allOne, Bool.and_eq_true] at hp ⊢
           exact ⟨hp.1, ihp hp.2⟩
       exact ap _ _ (trE_one y) ih
   exact this rows
 obtain ⟨m, ta, tc, sa, sc, N⟩ := W
 dsimp only [woV] at ea hlen hn hst hsc hsl hDo ⊢
 subst ea
 have hC := cloneTask w0 sh ⟨bb, off, none⟩ tc rows hsl hone (by omega)
 rw [hlen] at hC
 have hrd := rd_flat (fun x _ => trE_len x) hx
 refine zep en103 fn103 rfl rfl rfl ?_
 refine run_kept ?_
 repeat (first|refine zck ?_|refine zcl ?_|refine zcm ?_|refine zcn ?_)
 first|refine zcp (by kernel_rfl) ?_|refine zcq PP_mixed (by kernel_rfl) (by kernel_rfl) ?_
 repeat' (refine zap rfl ?_; first|refine zar (fun t6 => ?_)|refine zaq (cs := [_, _, _, _, _, _, _, _, _]) rfl (fun nb => ?_))
 all_goals (refine zch ?_; repeat (first|refine zck ?_|refine zcl ?_|refine zcm ?_|refine zcn ?_))
 first|refine zcp (by kernel_rfl) ?_|refine zcq PP_mixed (by kernel_rfl) (by kernel_rfl) ?_
 repeat' (refine zap rfl ?_; first|refine zas rfl rfl (by omega) ?_|refine zar (fun t7 => ?_)|refine zad rfl (fun hF Γ w h1 h2 => e2 hF Γ w h1 h2) (e3 _ (by omega)) ?_|refine zan rfl ?_|refine zab 0 rfl rfl rfl ?_|refine zah [] hAct rfl rfl rfl zdj rfl ?_|refine zao rfl ?_|refine zav rfl rfl (by omega) ?_|refine zae 2 rfl rfl rfl rfl rfl rfl rfl ?_)
 all_goals (refine zch ?_; repeat (first|refine zck ?_|refine zcl ?_|refine zcm ?_|refine zcn ?_))
 repeat (first|refine zck ?_|refine zcl ?_|refine zcm ?_|refine zcn ?_|refine zco ?_)
 repeat (first|refine zck ?_|refine zcl ?_|refine zcm ?_|refine zcn ?_)
 first|refine zcp (by kernel_rfl) ?_|refine zcq PP_mixed (by kernel_rfl) (by kernel_rfl) ?_
 repeat' (refine zap rfl ?_; first|refine zar (fun t9 => ?_)|refine zan rfl ?_|refine zab 0 rfl rfl rfl ?_|refine zab 2 rfl rfl rfl ?_|(refine zai [] hDo rfl rfl rfl (fun _ hp => hp) ?_; rintro v Γ ⟨m', rfl, rfl⟩)|refine zao rfl ?_|refine zae 4 rfl rfl rfl rfl rfl rfl rfl ?_|refine zae 5 rfl rfl rfl rfl rfl rfl rfl ?_)
 all_goals (refine zch ?_; repeat (first|refine zck ?_|refine zcl ?_|refine zcm ?_|refine zcn ?_))
 repeat (first|refine zck ?_|refine zcl ?_|refine zcm ?_|refine zcn ?_|refine zco ?_)
 refine run_shareO [0] (fun _ hp => hp) rfl ?_
 intro bl hs hu hm
 have hm := hm.mono hu (Nat.le_refl _)
 repeat (first|refine zck ?_|refine zcl ?_|refine zcm ?_|refine zcn ?_)
 first|refine zcp (by kernel_rfl) ?_|refine zcq PP_mixed (by kernel_rfl) (by kernel_rfl) ?_
 repeat' (refine zap rfl ?_; first|refine zan rfl ?_|refine zbf rfl rfl (by omega) ?_)
 all_goals (refine zch ?_; repeat (first|refine zck ?_|refine zcl ?_|refine zcm ?_|refine zcn ?_))
 refine zcj rfl ?_
 repeat (first|refine zck ?_|refine zcl ?_|refine zcm ?_|refine zcn ?_|refine zco ?_)
 repeat (first|refine zck ?_|refine zcl ?_|refine zcm ?_|refine zcn ?_)
 first|refine zcp (by kernel_rfl) ?_|refine zcq PP_mixed (by kernel_rfl) (by kernel_rfl) ?_
 repeat' (refine zap rfl ?_; first|refine zab 3 rfl rfl rfl ?_|refine zao rfl ?_|refine zae 0 rfl rfl rfl rfl rfl rfl rfl ?_)
 all_goals (refine zch ?_; repeat (first|refine zck ?_|refine zcl ?_|refine zcm ?_|refine zcn ?_))
 repeat (first|refine zck ?_|refine zcl ?_|refine zcm ?_|refine zcn ?_|refine zco ?_)
 repeat (first|refine zck ?_|refine zcl ?_|refine zcm ?_|refine zcn ?_)
 first|refine zcp (by kernel_rfl) ?_|refine zcq PP_mixed (by kernel_rfl) (by kernel_rfl) ?_
 repeat' (refine zap rfl ?_; first|refine zab 0 rfl rfl rfl ?_|(refine zai [] hC rfl rfl rfl hs ?_; rintro v Γ ⟨a2, c2, rfl, rfl⟩)|refine zao rfl ?_|refine zae 1 rfl rfl rfl rfl rfl rfl rfl ?_)
 all_goals (refine zch ?_; repeat (first|refine zck ?_|refine zcl ?_|refine zcm ?_|refine zcn ?_))
 repeat (first|refine zck ?_|refine zcl ?_|refine zcm ?_|refine zcn ?_|refine zco ?_)
 refine run_sl_cases 0 rfl (fun _ hn => by omega) (fun nb e1 e2 e3 => ?_)
 subst e1
 refine run_shareK [1] rfl ?_
 refine run_shareK [4] rfl ?_
 refine run_draw [.quiet, .quiet, .quiet, .quiet, .quiet, .quiet, .quiet, .quiet, .quiet, .read, .quiet, .loud, .quiet, .loud] PP_mixed (by kernel_rfl) (by kernel_rfl) ?_
 repeat' (refine zap rfl ?_; first|refine zas rfl rfl (by omega) ?_|refine zag 0 rfl rfl (hrd _ (by omega)) (fun _ => by decide) ?_|refine zaf 1 rfl rfl rfl (trE_len _) (trE_one _) (wr_flat (fun x _ => trE_len x) hx (trE_len _) _ (by omega)) rfl ?_|refine zan rfl ?_|refine zaa 0 rfl rfl rfl ?_|refine zaa 1 rfl rfl rfl ?_|(refine zai [] hG rfl rfl rfl (fun p hp => .tail _ (.tail _ (hs p hp))) ?_; rintro v Γ ⟨x2, hx2, rfl, rfl⟩)|refine zao rfl ?_|refine zav rfl rfl (by omega) ?_)
 refine zch ?_
 repeat (first|refine zck ?_|refine zcl ?_|refine zcm ?_|refine zcn ?_|refine zco ?_)
 repeat (first|refine zck ?_|refine zcl ?_|refine zcm ?_|refine zcn ?_)
 first|refine zcp (by kernel_rfl) ?_|refine zcq PP_mixed (by kernel_rfl) (by kernel_rfl) ?_
 repeat' (refine zap rfl ?_; first|refine zaa 1 rfl rfl rfl ?_|refine zae 2 rfl rfl rfl rfl rfl rfl rfl ?_)
 all_goals (refine zch ?_; repeat (first|refine zck ?_|refine zcl ?_|refine zcm ?_|refine zcn ?_))
 repeat (first|refine zck ?_|refine zcl ?_|refine zcm ?_|refine zcn ?_|refine zco ?_)
 refine run_shareO [0] (fun p hp => .tail _ (.tail _ (hs p hp))) rfl ?_
 intro bl2 hs2 hu2 htr
 have htr := htr.mono hu2 (Nat.le_refl _)
 refine run_shareA [0] (fun s => RdCl w0 s 11 (some ⟨nb, 0, none⟩) N ((rows.set i x2).flatMap trE) ∧ N ≤ c2) RdO.ofCl rfl ?_
 intro bl3 hs3 hv3
 have up : ∀ p ∈ sh, _ := fun p hp => hs3 p (hs2 p (List.Mem.tail _ (List.Mem.tail _ (hs p hp))))
 have hW : RdWo w0 _ ⟨m', some ⟨nb, 0, none⟩, c2, sa, sc, N⟩ ⟨x', y', a.ts.set i (x.o, x.g ++ [(val, ok)])⟩ (cnt + 2) :=
   ⟨hm.mono (fun p hp => hs3 p (hs2 p (.tail _ (.tail _ hp)))) (Nat.le_refl _), ⟨rows.set i x2, rows_set hrows i x2 _ hx2, hv3.1, fun z hz => by
     rcases List.mem_or_eq_of_mem_set hz with hz | rfl
     · exact (hall z hz).mono up (by omega)
     · exact htr.mono hs3 (by omega)⟩, hv3.2, hst.mono up, hsc, by dsimp only; rw [List.length_set]; exact hn, by dsimp only; rw [List.length_set]; exact hfew, h0, h1⟩
 exact retK [] (fun s => RdWo w0 s ⟨m', some ⟨nb, 0, none⟩, c2, sa, sc, N⟩ ⟨x', y', a.ts.set i (x.o, x.g ++ [(val, ok)])⟩ (cnt + 2)) (fun _ hs4 => hW.mono hs4 (Nat.le_refl _)) rfl (zem rfl (zeo 0 rfl rfl rfl) ⟨rfl, _, rfl, rfl⟩)
theorem woStep (sh : Shared) (W : WoS) (a : Tx.Wd) (cnt : Nat) (hc : cnt ≤ 900) (h : RdWo w0 sh W a cnt) (i : Nat) (hi : i ∈ a.steps) :
   Vc.Fn PP w0 sh 103 [woV W, .int .i64 ((i : Int) + 1), .int .i64 0] [] (fun r Γ => ∃ W' : WoS, r = woV W' ∧ Γ = [RdO sh (fun s => RdWo w0 s W' (a.aft i) (cnt + 2))]) := by
 obtain ⟨o, g, hx, hd⟩ := mem_steps.1 hi
 have hil : i < a.ts.length := (List.getElem?_eq_some_iff.1 hx).1
 obtain ⟨rows, x, h2, h3, h4, h5, h6, h7⟩ := h.at hil
 rw [hx] at h7
 cases h7
 have hi3 : i < 3 := by have := h.few; omega
 have htr := h4 x (List.mem_of_getElem? h6)
 have hN : I64 x.o.N := htr.ok.2.2
 have hget : I64 (a.get x.o.pl) := by unfold Tx.Wd.get; split; exact h.i1; exact h.i0
 have hget0 := hget
 rw [← pick2_get] at hget
 cases hs : stt x.o x.g with
 | done => exact absurd hs hd
 | look =>
   have hR := macRead w0 sh W.m a.w0 a.w1 (cnt + 1) (by omega) (h.mac.mono (fun _ hp => hp) (Nat.le_succ _)) x.o.pl i hi3
   have hDo := macDoL w0 sh W.m x.o.pl i hi3 a.w0 a.w1 _ true (cnt + 1) (by omega) hR
   have hS := woStep0 w0 sh W a cnt hc h i rows x h2 h3 h4 h5 h6 5 (plI x.o.pl) 0 0 (by unfold actOf; rw [hs]) _ hget true (fun _ => rfl) hd a.w0 a.w1 h.i0 h.i1 hDo
   rw [aft_look hx hs, ← pick2_get]
   exact hS
 | swap v =>
   by_cases hv : a.get x.o.pl = v
   · have hfn : I64 (x.o.fn v) := hN.fn (hv ▸ hget0)
     have hR := macWriteT w0 sh W.m a.w0 a.w1 cnt (by omega) h.mac x.o.pl i hi3 (x.o.fn v) hfn
     have hpk : pick2 x.o.pl a.w0 a.w1 = v := by rw [pick2_get]; exact hv
     rw [hpk] at hR hget
     have hDo := macDoS w0 sh W.m x.o.pl v (x.o.fn v) i hi3 _ _ v true (cnt + 1) (by omega) hR
     have hp0 : I64 (put2 x.o.pl a.w0 a.w1 (x.o.fn v)).1 ∧ I64 (put2 x.o.pl a.w0 a.w1 (x.o.fn v)).2 := by
       unfold put2; split
       · exact ⟨h.i0, hfn⟩
       · exact ⟨hfn, h.i1⟩
     have hS := woStep0 w0 sh W a cnt hc h i rows x h2 h3 h4 h5 h6 6 (plI x.o.pl) v (x.o.fn v) (by unfold actOf; rw [hs]) v hget true (fun _ => rfl) hd _ _ hp0.1 hp0.2 hDo
     rw [aft_good hx hs hv]
     have e : (⟨(put2 x.o.pl a.w0 a.w1 (x.o.fn v)).1, (put2 x.o.pl a.w0 a.w1 (x.o.fn v)).2, a.ts.set i (x.o, x.g ++ [(v, true)])⟩ : Tx.Wd) = (a.put x.o.pl (x.o.fn v)).tell i x.o (x.g ++ [(v, true)]) := by
       rw [put2_put]
       unfold Tx.Wd.tell
       rw [put_ts]
     rw [← e]
     exact hS
   · have hpk : pick2 x.o.pl a.w0 a.w1 ≠ v := by rw [pick2_get]; exact hv
     have hR := macWriteF w0 sh W.m a.w0 a.w1 (cnt + 1) (by omega) (h.mac.mono (fun _ hp => hp) (Nat.le_succ _)) x.o.pl i hi3 v (x.o.fn v) hpk
     have hDo := macDoS w0 sh W.m x.o.pl v (x.o.fn v) i hi3 a.w0 a.w1 _ false (cnt + 1) (by omega) hR
     have hS := woStep0 w0 sh W a cnt hc h i rows x h2 h3 h4 h5 h6 6 (plI x.o.pl) v (x.o.fn v) (by unfold actOf; rw [hs]) _ hget false (fun e => by rw [hs] at e; cases e) hd a.w0 a.w1 h.i0 h.i1 hDo
     rw [aft_bad hx hs hv, ← pick2_get]
     exact hS
theorem woStepP (sh : Shared) (W : WoS) (a : Tx.Wd) (cnt : Nat) (hc : cnt ≤ 900) (h : RdWo w0 sh W a cnt) (i : Nat) (hi : i ∈ a.steps) :
   Vc.Fn PP w0 sh 63 [woV W, .agg (List.toArray [.int .i64 0, .int .i64 ((i : Int) + 1), .int .i64 0])] [] (fun r Γ => ∃ W' : WoS, r = .tuple #[woV W', .bool true] ∧ Γ = [RdO sh (fun s => RdWo w0 s W' (a.aft i) (cnt + 2))]) := by
 have hS := woStep w0 sh W a cnt hc h i hi
 have hD := woDead w0 W
 have hT := woTakes w0 sh W a cnt h i hi
 refine zep en63 fn63 rfl rfl rfl ?_
 refine run_kept ?_
 repeat (first|refine zck ?_|refine zcl ?_|refine zcm ?_|refine zcn ?_)
 first|refine zcp (by kernel_rfl) ?_|refine zcq PP_mixed (by kernel_rfl) (by kernel_rfl) ?_
 repeat' (refine zap rfl ?_; first|refine zar (fun t4 => ?_)|refine zan rfl ?_|refine zaq (cs := [_, _, _]) rfl (fun nb => ?_)|refine zaq (cs := [_, _, _, _, _, _, _, _, _]) rfl (fun nb => ?_))
 all_goals (refine zch ?_; repeat (first|refine zck ?_|refine zcl ?_|refine zcm ?_|refine zcn ?_))
 refine run_shareK [0] rfl ?_
 refine run_shareK [0] rfl ?_
 repeat (first|refine zck ?_|refine zcl ?_|refine zcm ?_|refine zcn ?_|refine zco ?_)
 repeat (first|refine zck ?_|refine zcl ?_|refine zcm ?_|refine zcn ?_)
 first|refine zcp (by kernel_rfl) ?_|refine zcq PP_mixed (by kernel_rfl) (by kernel_rfl) ?_
 repeat' (refine zap rfl ?_; first|refine zan rfl ?_|refine zaa 1 rfl rfl rfl ?_|refine zah [] hD rfl rfl rfl zdj rfl ?_)
 all_goals (refine zch ?_; repeat (first|refine zck ?_|refine zcl ?_|refine zcm ?_|refine zcn ?_))
 refine zcj rfl ?_
 repeat (first|refine zck ?_|refine zcl ?_|refine zcm ?_|refine zcn ?_|refine zco ?_)
 repeat (first|refine zck ?_|refine zcl ?_|refine zcm ?_|refine zcn ?_)
 first|refine zcp (by kernel_rfl) ?_|refine zcq PP_mixed (by kernel_rfl) (by kernel_rfl) ?_
 repeat' (refine zap rfl ?_; first|refine zan rfl ?_|refine zaa 0 rfl rfl rfl ?_|refine zao rfl ?_|refine zbd rfl rfl (by omega) ?_)
 all_goals (refine zch ?_; repeat (first|refine zck ?_|refine zcl ?_|refine zcm ?_|refine zcn ?_))
 refine zcj rfl ?_
 repeat (first|refine zck ?_|refine zcl ?_|refine zcm ?_|refine zcn ?_|refine zco ?_)
 repeat (first|refine zck ?_|refine zcl ?_|refine zcm ?_|refine zcn ?_)
 first|refine zcp (by kernel_rfl) ?_|refine zcq PP_mixed (by kernel_rfl) (by kernel_rfl) ?_
 repeat' (refine zap rfl ?_; first|refine zbx rfl ?_|refine zan rfl ?_|refine zaa 0 rfl rfl rfl ?_|refine zaa 1 rfl rfl rfl ?_|refine zah [] hT rfl rfl rfl (fun p hp => .tail _ (.tail _ hp)) rfl ?_|refine zao rfl ?_)
 all_goals (refine zch ?_; repeat (first|refine zck ?_|refine zcl ?_|refine zcm ?_|refine zcn ?_))
 refine zcj rfl ?_
 repeat (first|refine zck ?_|refine zcl ?_|refine zcm ?_|refine zcn ?_|refine zco ?_)
 repeat (first|refine zck ?_|refine zcl ?_|refine zcm ?_|refine zcn ?_)
 first|refine zcp (by kernel_rfl) ?_|refine zcq PP_mixed (by kernel_rfl) (by kernel_rfl) ?_
 repeat' (refine zap rfl ?_; first|refine zan rfl ?_|refine zaa 0 rfl rfl rfl ?_|refine zao rfl ?_|refine zbc rfl rfl (by omega) ?_)
 all_goals (refine zch ?_; repeat (first|refine zck ?_|refine zcl ?_|refine zcm ?_|refine zcn ?_))
 refine zci rfl ?_
 repeat (first|refine zck ?_|refine zcl ?_|refine zcm ?_|refine zcn ?_|refine zco ?_)
 repeat (first|refine zck ?_|refine zcl ?_|refine zcm ?_|refine zcn ?_)
 first|refine zcp (by kernel_rfl) ?_|refine zcq PP_mixed (by kernel_rfl) (by kernel_rfl) ?_
 repeat' (refine zap rfl ?_; first|refine zan rfl ?_|refine zaa 0 rfl rfl rfl ?_|refine zaa 1 rfl rfl rfl ?_|(refine zai [] hS rfl rfl rfl (fun p hp => .tail _ (.tail _ hp)) ?_; rintro v Γ ⟨W', rfl, rfl⟩)|refine zao rfl ?_|refine zae 1 rfl rfl rfl rfl rfl rfl rfl ?_)
 all_goals (refine zch ?_; repeat (first|refine zck ?_|refine zcl ?_|refine zcm ?_|refine zcn ?_))
 repeat (first|refine zck ?_|refine zcl ?_|refine zcm ?_|refine zcn ?_|refine zco ?_)
 refine run_shareO [0] (fun p hp => .tail _ (.tail _ hp)) rfl ?_
 intro bl hs hu hv
 exact retK [] (fun s => RdWo w0 s W' (a.aft i) (cnt + 2)) (fun _ hs4 => hv.mono (fun p hp => hs4 p (hu p hp)) (Nat.le_refl _)) rfl (zen rfl (zeo 0 rfl rfl rfl) rfl ⟨rfl, _, rfl, rfl⟩)
theorem exAfter (sh : Shared) (W : WoS) (a : Tx.Wd) (cnt : Nat) (hc : cnt ≤ 900) (h : RdWo w0 sh W a cnt) (i : Nat) (hi : i ∈ a.steps) :
   Vc.Fn PP w0 sh 32 [woV W, kvT i] [] (fun r Γ => ∃ W' : WoS, r = woV W' ∧ Γ = [RdO sh (fun s => RdWo w0 s W' (a.aft i) (cnt + 2))]) := by
 have hS := woStepP w0 sh W a cnt hc h i hi
 refine zep en32 fn32 rfl rfl rfl ?_
 refine run_kept ?_
 repeat (first|refine zck ?_|refine zcl ?_|refine zcm ?_|refine zcn ?_)
 first|refine zcp (by kernel_rfl) ?_|refine zcq PP_mixed (by kernel_rfl) (by kernel_rfl) ?_
 repeat' (refine zap rfl ?_; first|refine zar (fun t4 => ?_)|refine zaq (cs := [_, _]) rfl (fun nb => ?_)|refine zaq (cs := [_, _, _, _, _, _, _, _, _]) rfl (fun nb => ?_))
 all_goals (refine zch ?_; repeat (first|refine zck ?_|refine zcl ?_|refine zcm ?_|refine zcn ?_))
 refine run_shareK [0] rfl ?_
 refine run_shareK [0] rfl ?_
 repeat (first|refine zck ?_|refine zcl ?_|refine zcm ?_|refine zcn ?_|refine zco ?_)
 repeat (first|refine zck ?_|refine zcl ?_|refine zcm ?_|refine zcn ?_)
 first|refine zcp (by kernel_rfl) ?_|refine zcq PP_mixed (by kernel_rfl) (by kernel_rfl) ?_
 repeat' (refine zap rfl ?_; first|refine zcb rfl ?_|refine zar (fun t5 => ?_)|refine zan rfl ?_|refine zaa 0 rfl rfl rfl ?_|refine zaa 1 rfl rfl rfl ?_|(refine zai [] hS rfl rfl rfl (fun p hp => .tail _ (.tail _ hp)) ?_; rintro v Γ ⟨W', rfl, rfl⟩)|refine zao rfl ?_|refine zae 2 rfl rfl rfl rfl rfl rfl rfl ?_)
 all_goals (refine zch ?_; repeat (first|refine zck ?_|refine zcl ?_|refine zcm ?_|refine zcn ?_))
 repeat (first|refine zck ?_|refine zcl ?_|refine zcm ?_|refine zcn ?_|refine zco ?_)
 repeat (first|refine zck ?_|refine zcl ?_|refine zcm ?_|refine zcn ?_)
 first|refine zcp (by kernel_rfl) ?_|refine zcq PP_mixed (by kernel_rfl) (by kernel_rfl) ?_
 repeat' (refine zap rfl ?_; first|refine zab 2 rfl rfl rfl ?_|refine zae 1 rfl rfl rfl rfl rfl rfl rfl ?_)
 all_goals (refine zch ?_; repeat (first|refine zck ?_|refine zcl ?_|refine zcm ?_|refine zcn ?_))
 repeat (first|refine zck ?_|refine zcl ?_|refine zcm ?_|refine zcn ?_|refine zco ?_)
 refine run_shareO [0] (fun p hp => .tail _ (.tail _ hp)) rfl ?_
 intro bl hs hu hv
 exact retK [] (fun s => RdWo w0 s W' (a.aft i) (cnt + 2)) (fun _ hs4 => hv.mono (fun p hp => hs4 p (hu p hp)) (Nat.le_refl _)) rfl (zem rfl (zeo 0 rfl rfl rfl) ⟨rfl, _, rfl, rfl⟩)
end Go.Proofs.YtikackodhiollaaGreatDoor
namespace Go.Vc
theorem St.below {w0 w w' : World} {hF : Heap} {Γ : List Asn} (h : St w0 hF Γ w) (hb : Go.RowKit.Below w.heap.size w w') : St w0 hF Γ w' := by
 obtain ⟨g, hs, hd, hg, ha⟩ := h
 refine ⟨g, hs, hd, ⟨hb.tape.trans hg.1, hb.os.trans hg.2.1, hb.output.trans hg.2.2.1, Nat.le_trans hg.2.2.2.1 hb.size, fun b hb0 => ?_⟩, fun b o ho => ?_⟩
 · rw [hb.block b (Nat.lt_of_lt_of_le hb0 hg.2.2.2.1)]
   exact hg.2.2.2.2 b hb0
 · have h1 := ha b o ho
   exact ⟨h1.1, by rw [hb.block b (Array.getElem?_eq_some_iff.1 h1.2).1]; exact h1.2⟩
end Go.Vc
namespace Go.Proofs.YtikackodhiollaaGreatDoor
variable (w0 : World)
open Go.Vc Sim
def TabOk (w0 : World) : Prop := ∃ T fr, w0.heap[1]? = some (.cells (Lib.pow10Tab.map fun z => Value.int .u64 z).toArray T fr)
theorem tab_is {w0 w : World} {hF : Heap} {Γ : List Asn} (ht : TabOk w0) (hst : St w0 hF Γ w) : Lib.TabIs Tryz.prog w "internal/strconv.uint64pow10" .u64 Lib.pow10Tab := by
 obtain ⟨T, fr, ht⟩ := ht
 have h1 := (hst.base (Array.getElem?_eq_some_iff.1 ht).1).trans ht
 unfold Lib.TabIs World.var?
 have hg : Tryz.prog.globalNamed "internal/strconv.uint64pow10" = some 1 := by kernel_rfl
 rw [hg]
 simp only [Option.bind_some, h1]
theorem fmt_spec (ht : TabOk w0) (sh : Shared) (n : Int) (h : -9223372036854775808 ≤ n ∧ n ≤ 9223372036854775807) : FnE PP w0 sh 38 [.int .i64 n, .int .i64 10] [] (.string ⟨(Lib.itoa n).toArray⟩) [] := by
 refine ⟨en38, fun hF w hsh hst => ?_⟩
 rw [PP_def]
 exact (Any.strconv_FormatInt_10 laysM173 n h.1 h.2 w (tab_is ht hst)).mono fun e w' ⟨he, k, os, hw⟩ => ⟨_, [], he, ⟨rfl, rfl⟩, by rw [hw]; exact hst.grow k os⟩
theorem join_spec0 (sh : Shared) (v : Value) (l : List ByteArray) (sep : ByteArray) (hl : RdSl w0 sh encY 1 v l) (hne : l ≠ []) (hn : l.length ≤ 1000000) (hb : (Lib.join (l.map (·.data.toList)) sep.data.toList).length ≤ 140737488355328) :
   FnE PP w0 sh 62 [v, .string sep] [] (.string ⟨(Lib.join (l.map (·.data.toList)) sep.data.toList).toArray⟩) [] := by
 obtain ⟨a, cap, rfl, hc, h2⟩ := hl
 obtain ⟨b, off, c, T, fr, rfl, hh, hcell⟩ := h2.resolve_left hne
 refine ⟨en62, fun hF w hsh hst => ?_⟩
 have hbk := hh hF _ w hsh hst
 rw [PP_def]
 refine (Any.strings_Join lays156 bldExtra b off cap l sep w (fun j x hx => ?_) (Array.getElem?_eq_some_iff.1 hbk).1 (by omega) hc hb).mono fun e w' ⟨he, hw⟩ => ⟨_, [], he, ⟨rfl, rfl⟩, hst.below hw⟩
 have h3 := (hcell j x hx).2 0 _ rfl
 have h4 : c[off + j]? = some (.string x) := by simpa using h3
 simp [World.cell?, hbk, h4]
abbrev bldP (b : Nat) (p v : Value) : Asn := pt b (.cells (List.toArray [p, v]) 135 (0, 0))
abbrev bldB (a : Option Addr) (c : Nat) (s : ByteArray) : Asn := SlA 5 1 a s.size c (Lib.strCells s)
theorem copyCheck_new (sh : Shared) (b : Nat) (v : Value) : FnE PP w0 sh 90 [.pointer (some ⟨b, 0, none⟩)] [bldP b (.pointer none) v] (.tuple #[]) [bldP b (.pointer (some ⟨b, 0, none⟩)) v] := by
 refine ⟨en90, fun hF w hsh hst => ?_⟩
 have hbk := hst.get.2
 have hlt := hst.lt
 rw [PP_def]
 refine (Any.Builder_copyCheck_fresh (ρ := lays156_ren) { lays156 with } bldExtra.toX72 b w (by simp [World.cell?, hbk]) (by simp [World.shape?, hbk]; rfl) (by simp [World.frozen?, hbk])).mono fun e w' ⟨he, hw⟩ => ⟨_, _, he, ⟨rfl, rfl⟩, ?_⟩
 subst hw
 refine hst.upd rfl rfl rfl (by simp [World.setCell]) ?_ (fun z hz => ?_)
 · simp only [World.setCell, Array.getElem?_modify, if_true, hbk, Option.map_some]
   rfl
 · simp only [World.setCell, Array.getElem?_modify]
   rw [if_neg (fun q => hz q.symm)]
theorem copyCheck_used (sh : Shared) (b : Nat) (v : Value) : FnE PP w0 sh 90 [.pointer (some ⟨b, 0, none⟩)] [bldP b (.pointer (some ⟨b, 0, none⟩)) v] (.tuple #[]) [bldP b (.pointer (some ⟨b, 0, none⟩)) v] := by
 refine ⟨en90, fun hF w hsh hst => ?_⟩
 have hbk := hst.get.2
 rw [PP_def]
 exact (Any.Builder_copyCheck_used (ρ := lays156_ren) { lays156 with } bldExtra.toX72 b w (by simp [World.cell?, hbk])).mono fun e w' ⟨he, hw⟩ => ⟨_, _, he, ⟨rfl, rfl⟩, by rw [hw]; exact hst⟩
theorem copyCheck_spec (sh : Shared) (b : Nat) (p v : Value) (hp : p = .pointer none ∨ p = .pointer (some ⟨b, 0, none⟩)) :
   FnE PP w0 sh 90 [.pointer (some ⟨b, 0, none⟩)] [bldP b p v] (.tuple #[]) [bldP b (.pointer (some ⟨b, 0, none⟩)) v] := by
 rcases hp with rfl | rfl
 · exact copyCheck_new w0 sh b v
 · exact copyCheck_used w0 sh b v
theorem strCells_app (s t : ByteArray) : Lib.strCells s ++ Lib.strCells t = Lib.strCells (s ++ t) := by
 unfold Lib.strCells
 rw [← List.map_append]
 congr 1
theorem writeString_spec (sh : Shared) (b : Nat) (p : Value) (a : Option Addr) (c : Nat) (s t : ByteArray) (hp : p = .pointer none ∨ p = .pointer (some ⟨b, 0, none⟩)) (hsz : s.size + t.size ≤ 1000000000) :
   Vc.Fn PP w0 sh 94 [.pointer (some ⟨b, 0, none⟩), .string t] [bldP b p (.slice a s.size c), bldB a c s]
     (fun v Γ => ∃ a' c', v = .tuple #[.int .i64 t.size, .nilIface] ∧ Γ = [bldP b (.pointer (some ⟨b, 0, none⟩)) (.slice a' (s ++ t).size c'), bldB a' c' (s ++ t)]) := by
 have hst : (s ++ t).size = s.size + t.size := ByteArray.size_append
 unfold bldB
 rw [hst, ← strCells_app]
 refine zep en94 fn94 rfl rfl rfl ?_
 repeat (first|refine zck ?_|refine zcl ?_|refine zcm ?_|refine zcn ?_)
 first|refine zcp (by kernel_rfl) ?_|refine zcq PP_mixed (by kernel_rfl) (by kernel_rfl) ?_
 repeat' (refine zap rfl ?_; first|refine zan rfl ?_)
 all_goals (refine zch ?_; repeat (first|refine zck ?_|refine zcl ?_|refine zcm ?_|refine zcn ?_))
 first|refine zcp (by kernel_rfl) ?_|refine zcq PP_mixed (by kernel_rfl) (by kernel_rfl) ?_
 repeat' (refine zap rfl ?_; first|refine zan rfl ?_|refine zah [0] (copyCheck_spec w0 sh b p _ hp) rfl rfl rfl (fun p hp => hp) rfl ?_)
 all_goals (refine zch ?_; repeat (first|refine zck ?_|refine zcl ?_|refine zcm ?_|refine zcn ?_))
 first|refine zcp (by kernel_rfl) ?_|refine zcq PP_mixed (by kernel_rfl) (by kernel_rfl) ?_
 repeat' (refine zap rfl ?_; first|refine zan rfl ?_|refine zab 0 rfl rfl rfl ?_|refine reg_appendS 1 rfl rfl rfl rfl (by omega) (fun _ _ => rfl) (fun a' c' => ?_)|refine zao rfl ?_|refine zae 0 rfl rfl rfl rfl rfl rfl rfl ?_)
 all_goals (refine zch ?_; repeat (first|refine zck ?_|refine zcl ?_|refine zcm ?_|refine zcn ?_))
 first|refine zcp (by kernel_rfl) ?_|refine zcq PP_mixed (by kernel_rfl) (by kernel_rfl) ?_
 repeat' (refine zap rfl ?_; first|refine zan rfl ?_|refine zdy rfl ?_)
 all_goals (refine zch ?_; repeat (first|refine zck ?_|refine zcl ?_|refine zcm ?_|refine zcn ?_))
 exact zei rfl ⟨_, _, rfl, rfl⟩
theorem bstring_spec (sh : Shared) (b : Nat) (p : Value) (a : Option Addr) (c : Nat) (s : ByteArray) (hc : s.size ≠ 0 ∨ a = none) (hsz : s.size ≤ 1000000000) :
   FnE PP w0 sh 58 [.pointer (some ⟨b, 0, none⟩)] [bldP b p (.slice a s.size c), bldB a c s] (.string s) [] := by
 have hcb : PP.cellsOf 5 = 1 := by rw [PP_def]; kernel_rfl
 refine zep en58 fn58 rfl rfl rfl ?_
 repeat (first|refine zck ?_|refine zcl ?_|refine zcm ?_|refine zcn ?_)
 first|refine zcp (by kernel_rfl) ?_|refine zcq PP_mixed (by kernel_rfl) (by kernel_rfl) ?_
 repeat' (refine zap rfl ?_; first|refine zan rfl ?_)
 all_goals (refine zch ?_; repeat (first|refine zck ?_|refine zcl ?_|refine zcm ?_|refine zcn ?_))
 refine run_know (φ := s.size ≤ c) (fun hF w hsh hst => ?_) (fun hsc => ?_)
 · obtain ⟨r, h1, _⟩ := hst.at (j := 1) rfl
   obtain ⟨g, hA, _⟩ := h1.head
   exact (SlA_len hA).2
 have hcap : a ≠ none → c ≠ 0 := fun h => by
   rcases hc with h1 | h1
   · omega
   · exact absurd h1 h
 refine zeb [0] rfl ?_
 repeat (first|refine zck ?_|refine zcl ?_|refine zcm ?_|refine zcn ?_)
 first|refine zcp (by kernel_rfl) ?_|refine zcq PP_mixed (by kernel_rfl) (by kernel_rfl) ?_
 repeat' (refine zap rfl ?_; first|refine zan rfl ?_|refine zaa 0 rfl rfl rfl ?_|refine reg_sliceData rfl hcap ?_|refine reg_unsafeString 0 (bl := s.data.toList) hcb rfl rfl rfl (show s.size ≤ _ by omega) ?_|refine zce rfl ?_|refine zao rfl ?_)
 all_goals (refine zch ?_; repeat (first|refine zck ?_|refine zcl ?_|refine zcm ?_|refine zcn ?_))
 exact zej rfl ⟨rfl, rfl⟩
end Go.Proofs.YtikackodhiollaaGreatDoor
namespace Sim.Tx
open Go Go.Vc Sim
def encT (ts : List Tk) : ByteArray := ⟨(ts.flatMap Tk.enc).toArray⟩
theorem encT_app (a b : List Tk) : encT (a ++ b) = encT a ++ encT b := by
 unfold encT
 rw [List.flatMap_append]
 apply ByteArray.ext
 simp
theorem dec_len : ∀ (k u : Nat), u < 10 ^ (k + 1) → (Lib.decDigits u).length ≤ k + 1
 | 0, u, h => by
   rw [Lib.decDigits, dif_pos (by omega)]
   exact Nat.le_refl _
 | k + 1, u, h => by
   rw [Lib.decDigits]
   split
   · simp
   · rw [List.length_append]
     have := dec_len k (u / 10) (by rw [Nat.pow_succ] at h; omega)
     simp only [List.length_singleton]
     omega
theorem itoa_len {v : Int} (h : I64 v) : (Lib.itoa v).length ≤ 21 := by
 unfold I64 at h
 have hp : (9223372036854775808 : Nat) < 10 ^ (19 + 1) := by decide
 unfold Lib.itoa
 split
 · have := dec_len 19 v.natAbs (by omega)
   simp only [List.length_cons]
   omega
 · have := dec_len 19 v.toNat (by omega)
   omega
def Tk.in64 : Tk → Prop
 | .n v => I64 v
 | .c _ => True
theorem enc_size : ∀ {ts : List Tk}, (∀ t ∈ ts, t.in64) → (encT ts).size ≤ 22 * ts.length
 | [], _ => Nat.le_refl _
 | t :: ts, h => by
   have ih := enc_size (ts := ts) (fun t ht => h t (.tail _ ht))
   have e : t :: ts = [t] ++ ts := rfl
   rw [e, encT_app, ByteArray.size_append]
   have h1 : (encT [t]).size ≤ 22 := by
     have hs : (encT [t]).size = t.enc.length := by
       unfold encT
       rw [List.flatMap_cons, List.flatMap_nil, List.append_nil]
       rfl
     rw [hs]
     have ht := h t (.head _)
     cases t with
     | n v => have := itoa_len ht; simp only [Tk.enc, List.length_append, List.length_singleton]; omega
     | c b => simp [Tk.enc]
   simp only [List.length_append, List.length_singleton]
   omega
end Sim.Tx
namespace Go.Proofs.YtikackodhiollaaGreatDoor
variable (w0 : World)
open Go.Vc Sim Sim.Tx
set_option maxHeartbeats 4000000
def bldA (b : Nat) (s : ByteArray) : Asn := fun h => ∃ i : Value × Option Addr × Nat, ((i.1 = .pointer none ∨ i.1 = .pointer (some ⟨b, 0, none⟩)) ∧ (s.size ≠ 0 ∨ i.2.1 = none)) ∧ Stars [bldP b i.1 (.slice i.2.1 s.size i.2.2), bldB i.2.1 i.2.2 s] h
abbrev bptr (b : Nat) : Value := .pointer (some ⟨b, 0, none⟩)
theorem writeStr (sh : Shared) (b : Nat) (s t : ByteArray) (hsz : s.size + t.size ≤ 1000000000) (ht : t.size ≠ 0) :
   FnE PP w0 sh 94 [bptr b, .string t] [bldA b s] (.tuple #[.int .i64 t.size, .nilIface]) [bldA b (s ++ t)] := by
 refine Fn.opened (fun i : Value × Option Addr × Nat => [bldP b i.1 (.slice i.2.1 s.size i.2.2), bldB i.2.1 i.2.2 s]) (fun i => (i.1 = .pointer none ∨ i.1 = .pointer (some ⟨b, 0, none⟩)) ∧ (s.size ≠ 0 ∨ i.2.1 = none)) en94 (fun h hh => hh) (fun i hi => ?_)
 refine (writeString_spec w0 sh b i.1 i.2.1 i.2.2 s t hi.1 hsz).post ?_
 rintro v Γ ⟨a', c', rfl, rfl⟩
 exact ⟨_, ⟨rfl, rfl⟩, fun h hh => Stars.one.2 ⟨(_, a', c'), ⟨.inr rfl, .inl (by rw [ByteArray.size_append]; omega)⟩, hh⟩⟩
theorem buildStr (sh : Shared) (b : Nat) (s : ByteArray) (hsz : s.size ≤ 1000000000) :
   FnE PP w0 sh 58 [bptr b] [bldA b s] (.string s) [] := by
 refine Fn.opened (fun i : Value × Option Addr × Nat => [bldP b i.1 (.slice i.2.1 s.size i.2.2), bldB i.2.1 i.2.2 s]) (fun i => (i.1 = .pointer none ∨ i.1 = .pointer (some ⟨b, 0, none⟩)) ∧ (s.size ≠ 0 ∨ i.2.1 = none)) en58 (fun h hh => hh) (fun i hi => ?_)
 exact bstring_spec w0 sh b i.1 i.2.1 i.2.2 s hi.2 hsz
theorem writeByte1 (sh : Shared) (b : Nat) (p : Value) (a : Option Addr) (c : Nat) (s : ByteArray) (ch : UInt8) (hp : p = .pointer none ∨ p = .pointer (some ⟨b, 0, none⟩)) (hsz : s.size ≤ 999999999) :
   Vc.Fn PP w0 sh 51 [bptr b, .int .u8 ch.toNat] [bldP b p (.slice a s.size c), bldB a c s]
     (fun v Γ => ∃ a' c', v = .nilIface ∧ Γ = [bldP b (.pointer (some ⟨b, 0, none⟩)) (.slice a' (s.size + 1) c'), SlA 5 1 a' (s.size + 1) c' (Lib.strCells s ++ [.int .u8 ch.toNat])]) := by
 unfold bldB
 refine zep en51 fn51 rfl rfl rfl ?_
 repeat (first|refine zck ?_|refine zcl ?_|refine zcm ?_|refine zcn ?_)
 first|refine zcp (by kernel_rfl) ?_|refine zcq PP_mixed (by kernel_rfl) (by kernel_rfl) ?_
 repeat' (refine zap rfl ?_; first|refine zan rfl ?_)
 all_goals (refine zch ?_; repeat (first|refine zck ?_|refine zcl ?_|refine zcm ?_|refine zcn ?_))
 first|refine zcp (by kernel_rfl) ?_|refine zcq PP_mixed (by kernel_rfl) (by kernel_rfl) ?_
 repeat' (refine zap rfl ?_; first|refine zan rfl ?_|refine zah [0] (copyCheck_spec w0 sh b p _ hp) rfl rfl rfl (fun p hp => hp) rfl ?_)
 all_goals (refine zch ?_; repeat (first|refine zck ?_|refine zcl ?_|refine zcm ?_|refine zcn ?_))
 first|refine zcp (by kernel_rfl) ?_|refine zcq PP_mixed (by kernel_rfl) (by kernel_rfl) ?_
 repeat' (refine zap rfl ?_; first|refine zdt rfl rfl rfl rfl rfl rfl (fun nb2 => ?_)|refine zan rfl ?_|refine zab 0 rfl rfl rfl ?_|refine zdz 1 2 rfl rfl rfl rfl rfl rfl rfl rfl (by omega) (fun _ _ => rfl) (fun a' c' => ?_)|refine zao rfl ?_|refine zae 0 rfl rfl rfl rfl rfl rfl rfl ?_)
 all_goals (refine zch ?_; repeat (first|refine zck ?_|refine zcl ?_|refine zcm ?_|refine zcn ?_))
 first|refine zcp (by kernel_rfl) ?_|refine zcq PP_mixed (by kernel_rfl) (by kernel_rfl) ?_
 repeat' (refine zap rfl ?_; first|refine zan rfl ?_)
 all_goals (refine zch ?_; repeat (first|refine zck ?_|refine zcl ?_|refine zcm ?_|refine zcn ?_))
 exact zeg (zek (zel [0, 0] rfl (zem rfl rfl ⟨rfl, _, _, rfl, rfl⟩)))
theorem writeByte (sh : Shared) (b : Nat) (s : ByteArray) (ch : UInt8) (hsz : s.size ≤ 999999999) :
   FnE PP w0 sh 51 [bptr b, .int .u8 ch.toNat] [bldA b s] .nilIface [bldA b (s ++ bs [ch])] := by
 refine Fn.opened (fun i : Value × Option Addr × Nat => [bldP b i.1 (.slice i.2.1 s.size i.2.2), bldB i.2.1 i.2.2 s]) (fun i => (i.1 = .pointer none ∨ i.1 = .pointer (some ⟨b, 0, none⟩)) ∧ (s.size ≠ 0 ∨ i.2.1 = none)) en51 (fun h hh => hh) (fun i hi => ?_)
 refine (writeByte1 w0 sh b i.1 i.2.1 i.2.2 s ch hi.1 hsz).post ?_
 rintro v Γ ⟨a', c', rfl, rfl⟩
 have e1 : (s ++ bs [ch]).size = s.size + 1 := by rw [ByteArray.size_append]; rfl
 have e2 : Lib.strCells (s ++ bs [ch]) = Lib.strCells s ++ [.int .u8 ch.toNat] := by rw [← strCells_app]; rfl
 exact ⟨_, ⟨rfl, rfl⟩, fun h hh => Stars.one.2 ⟨(_, a', c'), ⟨.inr rfl, .inl (by rw [e1]; omega)⟩, by unfold bldB; rw [e1, e2]; exact hh⟩⟩
def bldT (b : Nat) (ts : List Tk) : Asn := fun h => (∀ t ∈ ts, t.in64) ∧ bldA b (encT ts) h
end Go.Proofs.YtikackodhiollaaGreatDoor
namespace Sim.Tx
open Go Go.Vc Sim
theorem encT_nums (l : List Int) (n : Int) : encT ((l ++ [n]).map Tk.n) = encT (l.map Tk.n) ++ (⟨(Lib.itoa n).toArray⟩ ++ bs [44]) := by
 rw [List.map_append, encT_app]
 congr 1
 unfold encT
 apply ByteArray.ext
 simp [Tk.enc, bs]
end Sim.Tx
namespace Go.Proofs.YtikackodhiollaaGreatDoor
variable (w0 : World)
open Go.Vc Sim Sim.Tx
set_option maxHeartbeats 4000000
theorem numbersA (ht : TabOk w0) (sh : Shared) (b : Nat) (s : ByteArray) (a : Option Addr) (c : Nat) (l : List Int) (hl : RdSl w0 sh encI 1 (.slice a l.length c) l) (hi : ∀ n ∈ l, I64 n) (hb : l.length ≤ 1000000) (hsz : s.size ≤ 100000000) :
   FnE PP w0 sh 53 [bptr b, .slice a l.length c] [bldA b s] (.tuple #[]) [bldA b (s ++ encT (l.map Tk.n))] := by
 refine zep en53 fn53 rfl rfl rfl ?_
 repeat (first|refine zck ?_|refine zcl ?_|refine zcm ?_|refine zcn ?_)
 first|refine zcp (by kernel_rfl) ?_|refine zcq PP_mixed (by kernel_rfl) (by kernel_rfl) ?_
 repeat' (refine zap rfl ?_; first|refine zan rfl ?_|refine zce rfl ?_)
 all_goals (refine zch ?_; repeat (first|refine zck ?_|refine zcl ?_|refine zcm ?_|refine zcn ?_))
 refine run_loop (S := Nat) (fun i => [(0, bptr b), (6, .slice a l.length c), (7, .int .i64 l.length), (8, .int .i64 i)])
   (fun i Γ => Γ = [bldA b (s ++ encT ((l.take i).map Tk.n))] ∧ i ≤ l.length) (fun i => l.length - i) 0 ⟨rfl, rfl, rfl, rfl, trivial⟩ ⟨by rw [List.take_zero, List.map_nil]; congr 2; apply ByteArray.ext; simp [encT], Nat.zero_le _⟩ ?_
 rintro i Γ junk ⟨rfl, hil⟩
 by_cases he : i = l.length
 · subst he
   repeat (first|refine zck ?_|refine zcl ?_|refine zcm ?_|refine zcn ?_)
   first|refine zcp (by kernel_rfl) ?_|refine zcq PP_mixed (by kernel_rfl) (by kernel_rfl) ?_
   repeat' (refine zap rfl ?_; first|refine zbh rfl rfl (by omega) ?_)
   all_goals (refine zch ?_; repeat (first|refine zck ?_|refine zcl ?_|refine zcm ?_|refine zcn ?_))
   refine zcj rfl ?_
   refine zer rfl rfl ?_
   rw [List.take_length]
   exact run_nil (zek (ends_none rfl ⟨rfl, rfl⟩))
 · obtain ⟨x, hx⟩ : ∃ x, l[i]? = some x := ⟨_, List.getElem?_eq_getElem (by omega)⟩
   obtain ⟨bb, off, cc, T, fr, ea, e2, _, e3⟩ := hl.cells hx
   subst ea
   have hxi := hi x (List.mem_of_getElem? hx)
   have hF := fmt_spec w0 ht sh x hxi
   have hil2 := itoa_len hxi
   have hts : (encT ((l.take i).map Tk.n)).size ≤ 22 * i := by
     have h1 := enc_size (ts := (l.take i).map Tk.n) (fun t ht => by
       obtain ⟨z, hz, rfl⟩ := List.mem_map.1 ht
       exact hi z (List.mem_of_mem_take hz))
     rw [List.length_map, List.length_take, Nat.min_eq_left hil] at h1
     exact h1
   have hsz2 : (s ++ encT ((l.take i).map Tk.n)).size ≤ 130000000 := by rw [ByteArray.size_append]; omega
   have hns : (⟨(Lib.itoa x).toArray⟩ : ByteArray).size = (Lib.itoa x).length := rfl
   have hne : (⟨(Lib.itoa x).toArray⟩ : ByteArray).size ≠ 0 := by
     rw [hns]
     exact fun h => itoa_ne x (List.length_eq_zero_iff.1 h)
   have hW := writeStr w0 sh b (s ++ encT ((l.take i).map Tk.n)) ⟨(Lib.itoa x).toArray⟩ (by omega) hne
   have hB := writeByte w0 sh b (s ++ encT ((l.take i).map Tk.n) ++ ⟨(Lib.itoa x).toArray⟩) 44 (by rw [ByteArray.size_append]; omega)
   have e44 : ((44 : UInt8).toNat : Int) = 44 := rfl
   rw [e44] at hB
   repeat (first|refine zck ?_|refine zcl ?_|refine zcm ?_|refine zcn ?_)
   first|refine zcp (by kernel_rfl) ?_|refine zcq PP_mixed (by kernel_rfl) (by kernel_rfl) ?_
   repeat' (refine zap rfl ?_; first|refine zbg rfl rfl (by omega) ?_)
   all_goals (refine zch ?_; repeat (first|refine zck ?_|refine zcl ?_|refine zcm ?_|refine zcn ?_))
   refine zci rfl ?_
   repeat (first|refine zck ?_|refine zcl ?_|refine zcm ?_|refine zcn ?_|refine zco ?_)
   repeat (first|refine zck ?_|refine zcl ?_|refine zcm ?_|refine zcn ?_)
   first|refine zcp (by kernel_rfl) ?_|refine zcq PP_mixed (by kernel_rfl) (by kernel_rfl) ?_
   repeat' (refine zap rfl ?_; first|refine zas rfl rfl (by omega) ?_|refine zad rfl e2 (e3 0 _ rfl _ (by omega)) ?_|refine zan rfl ?_)
   all_goals (refine zch ?_; repeat (first|refine zck ?_|refine zcl ?_|refine zcm ?_|refine zcn ?_))
   repeat (first|refine zck ?_|refine zcl ?_|refine zcm ?_|refine zcn ?_|refine zco ?_)
   repeat (first|refine zck ?_|refine zcl ?_|refine zcm ?_|refine zcn ?_)
   first|refine zcp (by kernel_rfl) ?_|refine zcq PP_mixed (by kernel_rfl) (by kernel_rfl) ?_
   repeat' (refine zap rfl ?_; first|refine zan rfl ?_|refine zah [] hF rfl rfl rfl (fun _ hp => hp) rfl ?_|refine zah [0] hW rfl rfl rfl (fun _ hp => hp) rfl ?_)
   all_goals (refine zch ?_; repeat (first|refine zck ?_|refine zcl ?_|refine zcm ?_|refine zcn ?_))
   repeat (first|refine zck ?_|refine zcl ?_|refine zcm ?_|refine zcn ?_|refine zco ?_)
   repeat (first|refine zck ?_|refine zcl ?_|refine zcm ?_|refine zcn ?_)
   first|refine zcp (by kernel_rfl) ?_|refine zcq PP_mixed (by kernel_rfl) (by kernel_rfl) ?_
   repeat' (refine zap rfl ?_; first|refine zan rfl ?_|refine zah [0] hB rfl rfl rfl (fun _ hp => hp) rfl ?_)
   all_goals (refine zch ?_; repeat (first|refine zck ?_|refine zcl ?_|refine zcm ?_|refine zcn ?_))
   repeat (first|refine zck ?_|refine zcl ?_|refine zcm ?_|refine zcn ?_|refine zco ?_)
   repeat (first|refine zck ?_|refine zcl ?_|refine zcm ?_|refine zcn ?_)
   first|refine zcp (by kernel_rfl) ?_|refine zcq PP_mixed (by kernel_rfl) (by kernel_rfl) ?_
   repeat' (refine zap rfl ?_; first|refine zan rfl ?_|refine zau rfl rfl (by omega) ?_)
   all_goals (refine zch ?_; repeat (first|refine zck ?_|refine zcl ?_|refine zcm ?_|refine zcn ?_))
   refine zeq ⟨rfl, i + 1, ⟨rfl, rfl, rfl, zes (by omega), trivial⟩, ⟨?_, by omega⟩, by omega⟩
   have e1 : l.take (i + 1) = l.take i ++ [x] := by
     rw [List.take_succ_eq_append_getElem (by omega)]
     congr 2
     exact (List.getElem?_eq_some_iff.1 hx).2
   rw [e1, encT_nums, ← ByteArray.append_assoc, ← ByteArray.append_assoc]
   rfl
end Go.Proofs.YtikackodhiollaaGreatDoor
