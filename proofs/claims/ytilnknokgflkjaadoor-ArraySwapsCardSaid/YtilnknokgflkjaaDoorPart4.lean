import Derived.Test.YtilnknokgflkjaaDoorPart3
import Derived.Test.YtilnknokgflkjaaDoorKit
import Derived.Test.YtilnknokgflkjaaDoorPart1
/- Lemmas and walks for the claims of this seat (own work): Ar13 St0 Pw0 Pw1 Pw2 Pw3 Pw4 Pw5 Pw6. -/
/- The walk of Pop. -/
namespace Go.Proofs.YtilnknokgflkjaaDoor
open Go.Vc Sim
set_option maxHeartbeats 4000000
theorem pop_spec (w0 : World) (hw : PowOk w0) (p : Nat) (A : Ar) (hA : A.Ok) (s : Sp) (hsm : Sm s 24) :
    Vc.Fn PP w0 [] 12 [arrV A, spP p] [SpaceA p s] (pushRV p (A.pop s)) := by
  obtain ⟨_, h1, h2⟩ := id hA
  obtain ⟨T, fr, hw2⟩ := id hw
  generalize hm : A.many s = m
  have hsm2 : Sm m.2.2.2 24 := hm ▸ sm_many hsm
  have hM := many_spec w0 hw p A hA s (hsm.mono (by decide))
  rw [hm] at hM
  have hmo := many_ok (A := A) (s := s)
  rw [hm] at hmo
  refine fn_of_run en12 fn12 rfl rfl rfl ?_
  repeat (first | refine zck ?_ | refine zcl ?_ | refine zcm ?_ | refine zcn ?_)
  first | refine zcp (by kernel_rfl) ?_ | refine zcq PP_mixed (by kernel_rfl) (by kernel_rfl) ?_
  repeat' (refine zap rfl ?_; first | ((with_reducible refine zct ?_); first | refine zaj rfl ?_ | refine zak rfl ?_ | refine zal rfl ?_ | refine zam rfl rfl (fun _ => ?_) (fun _ => ?_)) | ((with_reducible refine zcu ?_); refine zan rfl ?_) | ((with_reducible refine zcv ?_); refine zan rfl ?_) | ((with_reducible refine zcw ?_); first | refine zaa 0 rfl rfl rfl ?_ | refine zaa 1 rfl rfl rfl ?_ | refine zaa 2 rfl rfl rfl ?_ | refine zaa 3 rfl rfl rfl ?_ | refine zaa 4 rfl rfl rfl ?_ | refine zaa 5 rfl rfl rfl ?_ | refine zab 0 rfl rfl rfl ?_ | refine zab 1 rfl rfl rfl ?_ | refine zab 2 rfl rfl rfl ?_ | refine zab 3 rfl rfl rfl ?_ | refine zab 4 rfl rfl rfl ?_ | refine zab 5 rfl rfl rfl ?_) | ((with_reducible refine zcx ?_); refine zce rfl ?_) | ((with_reducible refine zcy ?_); refine zao rfl ?_) | ((with_reducible refine zcz ?_); refine zan rfl ?_) | ((with_reducible refine zda ?_); first | refine zau rfl rfl (by omega) ?_ | refine zav rfl rfl (by omega) ?_ | refine zbo rfl rfl ?_ | refine zbp rfl rfl ?_ | refine zbq rfl rfl ?_ | refine zbs rfl rfl ?_ | refine zay rfl rfl (by omega) ?_ | refine zaz rfl rfl ?_ | refine zbb rfl rfl ?_ | refine zba rfl rfl ?_) | ((with_reducible refine zdb ?_); first | refine zby rfl ?_ | refine zbx rfl ?_) | ((with_reducible refine zdc ?_); first | refine zbu rfl ?_ | refine zbv rfl ?_ | refine zbw rfl rfl rfl ?_) | ((with_reducible refine zdd ?_); first | refine zae 0 rfl rfl rfl rfl rfl rfl rfl ?_ | refine zae 1 rfl rfl rfl rfl rfl rfl rfl ?_ | refine zae 2 rfl rfl rfl rfl rfl rfl rfl ?_ | refine zae 3 rfl rfl rfl rfl rfl rfl rfl ?_ | refine zae 4 rfl rfl rfl rfl rfl rfl rfl ?_ | refine zae 5 rfl rfl rfl rfl rfl rfl rfl ?_) | ((with_reducible refine zdf ?_); first | refine zas rfl rfl (by omega) ?_ | refine zat rfl rfl (by omega) ?_) | ((with_reducible refine zdg ?_); first | refine zaq (cs := [_]) rfl (fun nb => ?_) | refine zaq (cs := [_, _]) rfl (fun nb => ?_) | refine zaq (cs := [_, _, _]) rfl (fun nb => ?_) | refine zaq (cs := [_, _, _, _]) rfl (fun nb => ?_) | refine zaq (cs := [_, _, _, _, _]) rfl (fun nb => ?_) | refine zaq (cs := [_, _, _, _, _, _]) rfl (fun nb => ?_) | refine zaq (cs := [_, _, _, _, _, _, _]) rfl (fun nb => ?_) | refine zaq (cs := [_, _, _, _, _, _, _, _]) rfl (fun nb => ?_)) | ((with_reducible refine zdh ?_); refine zar (fun nb => ?_)) | refine zcd rfl rfl ?_)
  all_goals refine zch ?_
  all_goals repeat (first | refine zck ?_ | refine zcl ?_ | refine zcm ?_ | refine zcn ?_)
  rename_i b2 b3 vb
  revert nb; intro eb
  refine run_share [1] rfl ?_
  refine run_share_keep [1] rfl ?_
  repeat (first | refine zck ?_ | refine zcl ?_ | refine zcm ?_ | refine zcn ?_)
  first | refine zcp (by kernel_rfl) ?_ | refine zcq PP_mixed (by kernel_rfl) (by kernel_rfl) ?_
  repeat' (refine zap rfl ?_; first | ((with_reducible refine zct ?_); first | refine zaj rfl ?_ | refine zak rfl ?_ | refine zal rfl ?_ | refine zam rfl rfl (fun _ => ?_) (fun _ => ?_)) | ((with_reducible refine zcu ?_); refine zan rfl ?_) | ((with_reducible refine zcv ?_); refine zan rfl ?_) | ((with_reducible refine zcw ?_); first | refine zaa 0 rfl rfl rfl ?_ | refine zaa 1 rfl rfl rfl ?_ | refine zaa 2 rfl rfl rfl ?_ | refine zaa 3 rfl rfl rfl ?_ | refine zaa 4 rfl rfl rfl ?_ | refine zaa 5 rfl rfl rfl ?_ | refine zab 0 rfl rfl rfl ?_ | refine zab 1 rfl rfl rfl ?_ | refine zab 2 rfl rfl rfl ?_ | refine zab 3 rfl rfl rfl ?_ | refine zab 4 rfl rfl rfl ?_ | refine zab 5 rfl rfl rfl ?_) | ((with_reducible refine zcx ?_); first | refine zah [0] hM rfl rfl rfl sub_nil rfl ?_ | refine zce rfl ?_) | ((with_reducible refine zcy ?_); refine zao rfl ?_) | ((with_reducible refine zcz ?_); refine zan rfl ?_) | ((with_reducible refine zda ?_); first | refine zau rfl rfl (by omega) ?_ | refine zav rfl rfl (by omega) ?_ | refine zbo rfl rfl ?_ | refine zbp rfl rfl ?_ | refine zbq rfl rfl ?_ | refine zbs rfl rfl ?_ | refine zay rfl rfl (by omega) ?_ | refine zaz rfl rfl ?_ | refine zbb rfl rfl ?_ | refine zba rfl rfl ?_) | ((with_reducible refine zdb ?_); first | refine zby rfl ?_ | refine zbx rfl ?_) | ((with_reducible refine zdc ?_); first | refine zbu rfl ?_ | refine zbv rfl ?_ | refine zbw rfl rfl rfl ?_) | ((with_reducible refine zdd ?_); first | refine zae 0 rfl rfl rfl rfl rfl rfl rfl ?_ | refine zae 1 rfl rfl rfl rfl rfl rfl rfl ?_ | refine zae 2 rfl rfl rfl rfl rfl rfl rfl ?_ | refine zae 3 rfl rfl rfl rfl rfl rfl rfl ?_ | refine zae 4 rfl rfl rfl rfl rfl rfl rfl ?_ | refine zae 5 rfl rfl rfl rfl rfl rfl rfl ?_) | ((with_reducible refine zdf ?_); first | refine zas rfl rfl (by omega) ?_ | refine zat rfl rfl (by omega) ?_) | ((with_reducible refine zdg ?_); first | refine zaq (cs := [_]) rfl (fun nb => ?_) | refine zaq (cs := [_, _]) rfl (fun nb => ?_) | refine zaq (cs := [_, _, _]) rfl (fun nb => ?_) | refine zaq (cs := [_, _, _, _]) rfl (fun nb => ?_) | refine zaq (cs := [_, _, _, _, _]) rfl (fun nb => ?_) | refine zaq (cs := [_, _, _, _, _, _]) rfl (fun nb => ?_) | refine zaq (cs := [_, _, _, _, _, _, _]) rfl (fun nb => ?_) | refine zaq (cs := [_, _, _, _, _, _, _, _]) rfl (fun nb => ?_)) | ((with_reducible refine zdh ?_); refine zar (fun nb => ?_)) | refine zcd rfl rfl ?_)
  all_goals refine zch ?_
  all_goals repeat (first | refine zck ?_ | refine zcl ?_ | refine zcm ?_ | refine zcn ?_)
  repeat (first | refine zck ?_ | refine zcl ?_ | refine zcm ?_ | refine zcn ?_)
  first | refine zcp (by kernel_rfl) ?_ | refine zcq PP_mixed (by kernel_rfl) (by kernel_rfl) ?_
  repeat' (refine zap rfl ?_; first | ((with_reducible refine zct ?_); first | refine zaj rfl ?_ | refine zak rfl ?_ | refine zal rfl ?_ | refine zam rfl rfl (fun _ => ?_) (fun _ => ?_)) | ((with_reducible refine zcu ?_); refine zan rfl ?_) | ((with_reducible refine zcv ?_); refine zan rfl ?_) | ((with_reducible refine zcw ?_); first | refine zaa 0 rfl rfl rfl ?_ | refine zaa 1 rfl rfl rfl ?_ | refine zaa 2 rfl rfl rfl ?_ | refine zaa 3 rfl rfl rfl ?_ | refine zaa 4 rfl rfl rfl ?_ | refine zaa 5 rfl rfl rfl ?_ | refine zab 0 rfl rfl rfl ?_ | refine zab 1 rfl rfl rfl ?_ | refine zab 2 rfl rfl rfl ?_ | refine zab 3 rfl rfl rfl ?_ | refine zab 4 rfl rfl rfl ?_ | refine zab 5 rfl rfl rfl ?_) | ((with_reducible refine zcx ?_); refine zce rfl ?_) | ((with_reducible refine zcy ?_); refine zao rfl ?_) | ((with_reducible refine zcz ?_); refine zan rfl ?_) | ((with_reducible refine zda ?_); first | refine zau rfl rfl (by omega) ?_ | refine zav rfl rfl (by omega) ?_ | refine zbo rfl rfl ?_ | refine zbp rfl rfl ?_ | refine zbq rfl rfl ?_ | refine zbs rfl rfl ?_ | refine zay rfl rfl (by omega) ?_ | refine zaz rfl rfl ?_ | refine zbb rfl rfl ?_ | refine zba rfl rfl ?_) | ((with_reducible refine zdb ?_); first | refine zby rfl ?_ | refine zbx rfl ?_) | ((with_reducible refine zdc ?_); first | refine zbu rfl ?_ | refine zbv rfl ?_ | refine zbw rfl rfl rfl ?_) | ((with_reducible refine zdd ?_); first | refine zae 0 rfl rfl rfl rfl rfl rfl rfl ?_ | refine zae 1 rfl rfl rfl rfl rfl rfl rfl ?_ | refine zae 2 rfl rfl rfl rfl rfl rfl rfl ?_ | refine zae 3 rfl rfl rfl rfl rfl rfl rfl ?_ | refine zae 4 rfl rfl rfl rfl rfl rfl rfl ?_ | refine zae 5 rfl rfl rfl rfl rfl rfl rfl ?_) | ((with_reducible refine zdf ?_); first | refine zas rfl rfl (by omega) ?_ | refine zat rfl rfl (by omega) ?_) | ((with_reducible refine zdg ?_); first | refine zaq (cs := [_]) rfl (fun nb => ?_) | refine zaq (cs := [_, _]) rfl (fun nb => ?_) | refine zaq (cs := [_, _, _]) rfl (fun nb => ?_) | refine zaq (cs := [_, _, _, _]) rfl (fun nb => ?_) | refine zaq (cs := [_, _, _, _, _]) rfl (fun nb => ?_) | refine zaq (cs := [_, _, _, _, _, _]) rfl (fun nb => ?_) | refine zaq (cs := [_, _, _, _, _, _, _]) rfl (fun nb => ?_) | refine zaq (cs := [_, _, _, _, _, _, _, _]) rfl (fun nb => ?_)) | ((with_reducible refine zdh ?_); refine zar (fun nb => ?_)) | refine zcd rfl rfl ?_)
  all_goals refine zch ?_
  all_goals repeat (first | refine zck ?_ | refine zcl ?_ | refine zcm ?_ | refine zcn ?_)
  refine run_slots [(2, ptr b2), (3, ptr b3), (4, ptr vb), (5, ptr eb), (6, .int .i64 m.1), (7, .int .i64 m.2.1), (8, .bool m.2.2.1), (26, .bool (decide (m.1 = 0)))] ⟨rfl, rfl, rfl, rfl, rfl, rfl, rfl, rfl, trivial⟩ (fun junk => ?_)
  refine run_cond rfl (fun hZ => ?_) (fun hZ => ?_)
  · have e : A.pop s = (0, 8, m.2.2.2) := by simp only [Ar.pop, hm]; rw [if_pos hZ]
    repeat' (first | refine zck ?_ | refine zcp (by kernel_rfl) ?_ | refine zcq PP_mixed (by kernel_rfl) (by kernel_rfl) ?_ | refine zcm ?_ | refine zcl ?_ | refine zcn ?_ | refine zco ?_ | refine zcs rfl ?_ | (refine zap rfl ?_; first | ((with_reducible refine zct ?_); first | refine zaj rfl ?_ | refine zak rfl ?_ | refine zal rfl ?_ | refine zam rfl rfl (fun _ => ?_) (fun _ => ?_)) | ((with_reducible refine zcu ?_); refine zan rfl ?_) | ((with_reducible refine zcv ?_); refine zan rfl ?_) | ((with_reducible refine zcw ?_); first | refine zaa 0 rfl rfl rfl ?_ | refine zaa 1 rfl rfl rfl ?_ | refine zaa 2 rfl rfl rfl ?_ | refine zaa 3 rfl rfl rfl ?_ | refine zaa 4 rfl rfl rfl ?_ | refine zaa 5 rfl rfl rfl ?_ | refine zab 0 rfl rfl rfl ?_ | refine zab 1 rfl rfl rfl ?_ | refine zab 2 rfl rfl rfl ?_ | refine zab 3 rfl rfl rfl ?_ | refine zab 4 rfl rfl rfl ?_ | refine zab 5 rfl rfl rfl ?_) | ((with_reducible refine zcx ?_); refine zce rfl ?_) | ((with_reducible refine zcy ?_); refine zao rfl ?_) | ((with_reducible refine zcz ?_); refine zan rfl ?_) | ((with_reducible refine zda ?_); first | refine zau rfl rfl (by omega) ?_ | refine zav rfl rfl (by omega) ?_ | refine zbo rfl rfl ?_ | refine zbp rfl rfl ?_ | refine zbq rfl rfl ?_ | refine zbs rfl rfl ?_ | refine zay rfl rfl (by omega) ?_ | refine zaz rfl rfl ?_ | refine zbb rfl rfl ?_ | refine zba rfl rfl ?_) | ((with_reducible refine zdb ?_); first | refine zby rfl ?_ | refine zbx rfl ?_) | ((with_reducible refine zdc ?_); first | refine zbu rfl ?_ | refine zbv rfl ?_ | refine zbw rfl rfl rfl ?_) | ((with_reducible refine zdd ?_); first | refine zae 0 rfl rfl rfl rfl rfl rfl rfl ?_ | refine zae 1 rfl rfl rfl rfl rfl rfl rfl ?_ | refine zae 2 rfl rfl rfl rfl rfl rfl rfl ?_ | refine zae 3 rfl rfl rfl rfl rfl rfl rfl ?_ | refine zae 4 rfl rfl rfl rfl rfl rfl rfl ?_ | refine zae 5 rfl rfl rfl rfl rfl rfl rfl ?_) | ((with_reducible refine zdf ?_); first | refine zas rfl rfl (by omega) ?_ | refine zat rfl rfl (by omega) ?_) | ((with_reducible refine zdg ?_); first | refine zaq (cs := [_]) rfl (fun nb => ?_) | refine zaq (cs := [_, _]) rfl (fun nb => ?_) | refine zaq (cs := [_, _, _]) rfl (fun nb => ?_) | refine zaq (cs := [_, _, _, _]) rfl (fun nb => ?_) | refine zaq (cs := [_, _, _, _, _]) rfl (fun nb => ?_) | refine zaq (cs := [_, _, _, _, _, _]) rfl (fun nb => ?_) | refine zaq (cs := [_, _, _, _, _, _, _]) rfl (fun nb => ?_) | refine zaq (cs := [_, _, _, _, _, _, _, _]) rfl (fun nb => ?_)) | ((with_reducible refine zdh ?_); refine zar (fun nb => ?_)) | refine zcd rfl rfl ?_) | refine zch ?_ | refine zci rfl ?_ | refine zcj rfl ?_)
    rw [e]
    exact run_ret (leaves_nil (ends_take [0] rfl (ends_two rfl (resOk_pt 1 rfl rfl rfl) (resOk_pt 2 rfl rfl rfl) ⟨rfl, rfl, rfl⟩)))
  repeat (first | refine zck ?_ | refine zcl ?_ | refine zcm ?_ | refine zcn ?_)
  first | refine zcp (by kernel_rfl) ?_ | refine zcq PP_mixed (by kernel_rfl) (by kernel_rfl) ?_
  repeat' (refine zap rfl ?_; first | ((with_reducible refine zct ?_); first | refine zaj rfl ?_ | refine zak rfl ?_ | refine zal rfl ?_ | refine zam rfl rfl (fun _ => ?_) (fun _ => ?_)) | ((with_reducible refine zcu ?_); refine zan rfl ?_) | ((with_reducible refine zcv ?_); refine zan rfl ?_) | ((with_reducible refine zcw ?_); first | refine zaa 0 rfl rfl rfl ?_ | refine zaa 1 rfl rfl rfl ?_ | refine zaa 2 rfl rfl rfl ?_ | refine zaa 3 rfl rfl rfl ?_ | refine zaa 4 rfl rfl rfl ?_ | refine zaa 5 rfl rfl rfl ?_ | refine zab 0 rfl rfl rfl ?_ | refine zab 1 rfl rfl rfl ?_ | refine zab 2 rfl rfl rfl ?_ | refine zab 3 rfl rfl rfl ?_ | refine zab 4 rfl rfl rfl ?_ | refine zab 5 rfl rfl rfl ?_) | ((with_reducible refine zcx ?_); refine zce rfl ?_) | ((with_reducible refine zcy ?_); refine zao rfl ?_) | ((with_reducible refine zcz ?_); refine zan rfl ?_) | ((with_reducible refine zda ?_); first | refine zau rfl rfl (by omega) ?_ | refine zav rfl rfl (by omega) ?_ | refine zbo rfl rfl ?_ | refine zbp rfl rfl ?_ | refine zbq rfl rfl ?_ | refine zbs rfl rfl ?_ | refine zay rfl rfl (by omega) ?_ | refine zaz rfl rfl ?_ | refine zbb rfl rfl ?_ | refine zba rfl rfl ?_) | ((with_reducible refine zdb ?_); first | refine zby rfl ?_ | refine zbx rfl ?_) | ((with_reducible refine zdc ?_); first | refine zbu rfl ?_ | refine zbv rfl ?_ | refine zbw rfl rfl rfl ?_) | ((with_reducible refine zdd ?_); first | refine zae 0 rfl rfl rfl rfl rfl rfl rfl ?_ | refine zae 1 rfl rfl rfl rfl rfl rfl rfl ?_ | refine zae 2 rfl rfl rfl rfl rfl rfl rfl ?_ | refine zae 3 rfl rfl rfl rfl rfl rfl rfl ?_ | refine zae 4 rfl rfl rfl rfl rfl rfl rfl ?_ | refine zae 5 rfl rfl rfl rfl rfl rfl rfl ?_) | ((with_reducible refine zdf ?_); first | refine zas rfl rfl (by omega) ?_ | refine zat rfl rfl (by omega) ?_) | ((with_reducible refine zdg ?_); first | refine zaq (cs := [_]) rfl (fun nb => ?_) | refine zaq (cs := [_, _]) rfl (fun nb => ?_) | refine zaq (cs := [_, _, _]) rfl (fun nb => ?_) | refine zaq (cs := [_, _, _, _]) rfl (fun nb => ?_) | refine zaq (cs := [_, _, _, _, _]) rfl (fun nb => ?_) | refine zaq (cs := [_, _, _, _, _, _]) rfl (fun nb => ?_) | refine zaq (cs := [_, _, _, _, _, _, _]) rfl (fun nb => ?_) | refine zaq (cs := [_, _, _, _, _, _, _, _]) rfl (fun nb => ?_)) | ((with_reducible refine zdh ?_); refine zar (fun nb => ?_)) | refine zcd rfl rfl ?_)
  all_goals refine zch ?_
  all_goals repeat (first | refine zck ?_ | refine zcl ?_ | refine zcm ?_ | refine zcn ?_)
  refine run_slots [(2, ptr b2), (3, ptr b3), (4, ptr vb), (5, ptr eb), (6, .int .i64 m.1), (7, .int .i64 m.2.1), (29, .bool (!m.2.2.1))] ⟨rfl, rfl, rfl, rfl, rfl, rfl, rfl, trivial⟩ (fun junk => ?_)
  refine run_condV rfl (fun hE => ?_) (fun hE => ?_)
  · have hE : m.2.2.1 = false := by simpa using hE
    have e : A.pop s = (0, 24, m.2.2.2) := by simp only [Ar.pop, hm]; rw [if_neg hZ, hE, if_neg (by decide)]
    repeat' (first | refine zck ?_ | refine zcp (by kernel_rfl) ?_ | refine zcq PP_mixed (by kernel_rfl) (by kernel_rfl) ?_ | refine zcm ?_ | refine zcl ?_ | refine zcn ?_ | refine zco ?_ | refine zcs rfl ?_ | (refine zap rfl ?_; first | ((with_reducible refine zct ?_); first | refine zaj rfl ?_ | refine zak rfl ?_ | refine zal rfl ?_ | refine zam rfl rfl (fun _ => ?_) (fun _ => ?_)) | ((with_reducible refine zcu ?_); refine zan rfl ?_) | ((with_reducible refine zcv ?_); refine zan rfl ?_) | ((with_reducible refine zcw ?_); first | refine zaa 0 rfl rfl rfl ?_ | refine zaa 1 rfl rfl rfl ?_ | refine zaa 2 rfl rfl rfl ?_ | refine zaa 3 rfl rfl rfl ?_ | refine zaa 4 rfl rfl rfl ?_ | refine zaa 5 rfl rfl rfl ?_ | refine zab 0 rfl rfl rfl ?_ | refine zab 1 rfl rfl rfl ?_ | refine zab 2 rfl rfl rfl ?_ | refine zab 3 rfl rfl rfl ?_ | refine zab 4 rfl rfl rfl ?_ | refine zab 5 rfl rfl rfl ?_) | ((with_reducible refine zcx ?_); refine zce rfl ?_) | ((with_reducible refine zcy ?_); refine zao rfl ?_) | ((with_reducible refine zcz ?_); refine zan rfl ?_) | ((with_reducible refine zda ?_); first | refine zau rfl rfl (by omega) ?_ | refine zav rfl rfl (by omega) ?_ | refine zbo rfl rfl ?_ | refine zbp rfl rfl ?_ | refine zbq rfl rfl ?_ | refine zbs rfl rfl ?_ | refine zay rfl rfl (by omega) ?_ | refine zaz rfl rfl ?_ | refine zbb rfl rfl ?_ | refine zba rfl rfl ?_) | ((with_reducible refine zdb ?_); first | refine zby rfl ?_ | refine zbx rfl ?_) | ((with_reducible refine zdc ?_); first | refine zbu rfl ?_ | refine zbv rfl ?_ | refine zbw rfl rfl rfl ?_) | ((with_reducible refine zdd ?_); first | refine zae 0 rfl rfl rfl rfl rfl rfl rfl ?_ | refine zae 1 rfl rfl rfl rfl rfl rfl rfl ?_ | refine zae 2 rfl rfl rfl rfl rfl rfl rfl ?_ | refine zae 3 rfl rfl rfl rfl rfl rfl rfl ?_ | refine zae 4 rfl rfl rfl rfl rfl rfl rfl ?_ | refine zae 5 rfl rfl rfl rfl rfl rfl rfl ?_) | ((with_reducible refine zdf ?_); first | refine zas rfl rfl (by omega) ?_ | refine zat rfl rfl (by omega) ?_) | ((with_reducible refine zdg ?_); first | refine zaq (cs := [_]) rfl (fun nb => ?_) | refine zaq (cs := [_, _]) rfl (fun nb => ?_) | refine zaq (cs := [_, _, _]) rfl (fun nb => ?_) | refine zaq (cs := [_, _, _, _]) rfl (fun nb => ?_) | refine zaq (cs := [_, _, _, _, _]) rfl (fun nb => ?_) | refine zaq (cs := [_, _, _, _, _, _]) rfl (fun nb => ?_) | refine zaq (cs := [_, _, _, _, _, _, _]) rfl (fun nb => ?_) | refine zaq (cs := [_, _, _, _, _, _, _, _]) rfl (fun nb => ?_)) | ((with_reducible refine zdh ?_); refine zar (fun nb => ?_)) | refine zcd rfl rfl ?_) | refine zch ?_ | refine zci rfl ?_ | refine zcj rfl ?_)
    rw [e]
    exact run_ret (leaves_nil (ends_take [0] rfl (ends_two rfl (resOk_pt 1 rfl rfl rfl) (resOk_pt 2 rfl rfl rfl) ⟨rfl, rfl, rfl⟩)))
  have hE : m.2.2.1 = true := by simpa using hE
  obtain ⟨_, hn0, hn1, hn2⟩ := hmo hE
  have e : A.pop s = Ar.undoPop m.2.2.2.puts.length (A.popIn m.1 m.2.1.toNat m.2.2.2) := by simp only [Ar.pop, hm]; rw [if_neg hZ, if_pos hE]
  rw [e]
  have hd4 := dep_le m.1
  have hd5 := dep_le (m.1 - 1)
  have hd6 : 0 < dep m.1 := by unfold dep; (repeat' split) <;> omega
  have hd7 : dep (m.1 - 1) ≤ dep m.1 := by unfold dep; (repeat' split) <;> omega
  have hdd : m.2.1.toNat = dep m.1 := by omega
  rw [hdd, hn2]
  generalize hmk : m.2.2.2.puts.length = mk
  generalize dep m.1 = d at *
  generalize hnn : m.1 = n at *
  generalize hss : m.2.2.2 = t at *
  have hMk := mark_spec w0 p t
  rw [hmk] at hMk
  repeat (first | refine zck ?_ | refine zcl ?_ | refine zcm ?_ | refine zcn ?_)
  first | refine zcp (by kernel_rfl) ?_ | refine zcq PP_mixed (by kernel_rfl) (by kernel_rfl) ?_
  repeat' (refine zap rfl ?_; first | ((with_reducible refine zct ?_); first | refine zaj rfl ?_ | refine zak rfl ?_ | refine zal rfl ?_ | refine zam rfl rfl (fun _ => ?_) (fun _ => ?_)) | ((with_reducible refine zcu ?_); refine zan rfl ?_) | ((with_reducible refine zcv ?_); refine zan rfl ?_) | ((with_reducible refine zcw ?_); first | refine zaa 0 rfl rfl rfl ?_ | refine zaa 1 rfl rfl rfl ?_ | refine zaa 2 rfl rfl rfl ?_ | refine zaa 3 rfl rfl rfl ?_ | refine zaa 4 rfl rfl rfl ?_ | refine zaa 5 rfl rfl rfl ?_ | refine zab 0 rfl rfl rfl ?_ | refine zab 1 rfl rfl rfl ?_ | refine zab 2 rfl rfl rfl ?_ | refine zab 3 rfl rfl rfl ?_ | refine zab 4 rfl rfl rfl ?_ | refine zab 5 rfl rfl rfl ?_) | ((with_reducible refine zcx ?_); first | refine zah [0] hMk rfl rfl rfl sub_nil rfl ?_ | refine zce rfl ?_) | ((with_reducible refine zcy ?_); refine zao rfl ?_) | ((with_reducible refine zcz ?_); refine zan rfl ?_) | ((with_reducible refine zda ?_); first | refine zau rfl rfl (by omega) ?_ | refine zav rfl rfl (by omega) ?_ | refine zbo rfl rfl ?_ | refine zbp rfl rfl ?_ | refine zbq rfl rfl ?_ | refine zbs rfl rfl ?_ | refine zay rfl rfl (by omega) ?_ | refine zaz rfl rfl ?_ | refine zbb rfl rfl ?_ | refine zba rfl rfl ?_) | ((with_reducible refine zdb ?_); first | refine zby rfl ?_ | refine zbx rfl ?_) | ((with_reducible refine zdc ?_); first | refine zbu rfl ?_ | refine zbv rfl ?_ | refine zbw rfl rfl rfl ?_) | ((with_reducible refine zdd ?_); first | refine zae 0 rfl rfl rfl rfl rfl rfl rfl ?_ | refine zae 1 rfl rfl rfl rfl rfl rfl rfl ?_ | refine zae 2 rfl rfl rfl rfl rfl rfl rfl ?_ | refine zae 3 rfl rfl rfl rfl rfl rfl rfl ?_ | refine zae 4 rfl rfl rfl rfl rfl rfl rfl ?_ | refine zae 5 rfl rfl rfl rfl rfl rfl rfl ?_) | ((with_reducible refine zdf ?_); first | refine zas rfl rfl (by omega) ?_ | refine zat rfl rfl (by omega) ?_) | ((with_reducible refine zdg ?_); first | refine zaq (cs := [_]) rfl (fun nb => ?_) | refine zaq (cs := [_, _]) rfl (fun nb => ?_) | refine zaq (cs := [_, _, _]) rfl (fun nb => ?_) | refine zaq (cs := [_, _, _, _]) rfl (fun nb => ?_) | refine zaq (cs := [_, _, _, _, _]) rfl (fun nb => ?_) | refine zaq (cs := [_, _, _, _, _, _]) rfl (fun nb => ?_) | refine zaq (cs := [_, _, _, _, _, _, _]) rfl (fun nb => ?_) | refine zaq (cs := [_, _, _, _, _, _, _, _]) rfl (fun nb => ?_)) | ((with_reducible refine zdh ?_); refine zar (fun nb => ?_)) | refine zcd rfl rfl ?_)
  all_goals refine zch ?_
  all_goals repeat (first | refine zck ?_ | refine zcl ?_ | refine zcm ?_ | refine zcn ?_)
  have fin := pop_fin w0 p b3 nb eb vb mk (A.popIn n d t)
  repeat (first | refine zck ?_ | refine zcl ?_ | refine zcm ?_ | refine zcn ?_)
  first | refine zcp (by kernel_rfl) ?_ | refine zcq PP_mixed (by kernel_rfl) (by kernel_rfl) ?_
  repeat' (refine zap rfl ?_; first | refine zcd rfl rfl ?_ | refine zan rfl ?_ | ((with_reducible refine zct ?_); first | refine zaj rfl ?_ | refine zak rfl ?_ | refine zal rfl ?_ | refine zam rfl rfl (fun _ => ?_) (fun _ => ?_)) | ((with_reducible refine zcu ?_); refine zan rfl ?_) | ((with_reducible refine zcv ?_); refine zan rfl ?_) | ((with_reducible refine zcw ?_); first | refine zaa 0 rfl rfl rfl ?_ | refine zaa 1 rfl rfl rfl ?_ | refine zaa 2 rfl rfl rfl ?_ | refine zaa 3 rfl rfl rfl ?_ | refine zaa 4 rfl rfl rfl ?_ | refine zaa 5 rfl rfl rfl ?_ | refine zab 0 rfl rfl rfl ?_ | refine zab 1 rfl rfl rfl ?_ | refine zab 2 rfl rfl rfl ?_ | refine zab 3 rfl rfl rfl ?_ | refine zab 4 rfl rfl rfl ?_ | refine zab 5 rfl rfl rfl ?_) | ((with_reducible refine zcx ?_); refine zce rfl ?_) | ((with_reducible refine zcy ?_); refine zao rfl ?_) | ((with_reducible refine zcz ?_); refine zan rfl ?_) | ((with_reducible refine zda ?_); first | refine zau rfl rfl (by omega) ?_ | refine zav rfl rfl (by omega) ?_ | refine zbo rfl rfl ?_ | refine zbp rfl rfl ?_ | refine zbq rfl rfl ?_ | refine zbs rfl rfl ?_ | refine zay rfl rfl (by omega) ?_ | refine zaz rfl rfl ?_ | refine zbb rfl rfl ?_ | refine zba rfl rfl ?_) | ((with_reducible refine zdb ?_); first | refine zby rfl ?_ | refine zbx rfl ?_) | ((with_reducible refine zdc ?_); first | refine zbu rfl ?_ | refine zbv rfl ?_ | refine zbw rfl rfl rfl ?_) | ((with_reducible refine zdd ?_); first | refine zae 0 rfl rfl rfl rfl rfl rfl rfl ?_ | refine zae 1 rfl rfl rfl rfl rfl rfl rfl ?_ | refine zae 2 rfl rfl rfl rfl rfl rfl rfl ?_ | refine zae 3 rfl rfl rfl rfl rfl rfl rfl ?_ | refine zae 4 rfl rfl rfl rfl rfl rfl rfl ?_ | refine zae 5 rfl rfl rfl rfl rfl rfl rfl ?_) | ((with_reducible refine zdf ?_); first | refine zas rfl rfl (by omega) ?_ | refine zat rfl rfl (by omega) ?_) | ((with_reducible refine zdg ?_); first | refine zaq (cs := [_]) rfl (fun nb => ?_) | refine zaq (cs := [_, _]) rfl (fun nb => ?_) | refine zaq (cs := [_, _, _]) rfl (fun nb => ?_) | refine zaq (cs := [_, _, _, _]) rfl (fun nb => ?_) | refine zaq (cs := [_, _, _, _, _]) rfl (fun nb => ?_) | refine zaq (cs := [_, _, _, _, _, _]) rfl (fun nb => ?_) | refine zaq (cs := [_, _, _, _, _, _, _]) rfl (fun nb => ?_) | refine zaq (cs := [_, _, _, _, _, _, _, _]) rfl (fun nb => ?_)) | ((with_reducible refine zdh ?_); refine zar (fun nb => ?_)) | refine zcd rfl rfl ?_)
  all_goals refine zch ?_
  all_goals repeat (first | refine zck ?_ | refine zcl ?_ | refine zcm ?_ | refine zcn ?_)
  refine run_slots [(2, ptr b2), (3, ptr b3), (4, ptr vb), (5, ptr eb), (6, .int .i64 n), (7, .int .i64 (d : Int))] ⟨rfl, rfl, rfl, rfl, rfl, rfl, trivial⟩ (fun junk => ?_)
  show Run PP w0 _ _ _ _ _ [popD b3 nb eb vb] [SpaceA p t, vV vb 0, eV eb 0, mV nb mk]
  have hWs := way_spec w0 hw p A hA (n - 1) (by omega) d hd4 (d : Int) rfl t (hsm2.mono (by decide))
  have hWl := way_len A (n - 1) d A.root t []
  have hsm4 : Sm (A.way (n - 1) d A.root t []).2 24 := sm_way hsm2
  have hr : A.popIn n d t = A.popIn n d t := rfl
  conv at hr => rhs; unfold Ar.popIn
  generalize hW : A.way (n - 1) d A.root t [] = W at hr hWs hWl hsm4
  obtain ⟨o, t2⟩ := W
  cases o with
  | none =>
    have hWn : FnE PP w0 [] 34 [arrV A, spP p, .int .i64 (n - 1), .int .i64 d] [SpaceA p t] (.tuple #[.slice none 0 0, .bool false]) [SpaceA p t2] := hWs
    repeat' (first | refine zck ?_ | refine zcp (by kernel_rfl) ?_ | refine zcq PP_mixed (by kernel_rfl) (by kernel_rfl) ?_ | refine zcm ?_ | refine zcl ?_ | refine zcn ?_ | refine zco ?_ | refine zcs rfl ?_ | (refine zap rfl ?_; first | ((with_reducible refine zct ?_); first | refine zaj rfl ?_ | refine zak rfl ?_ | refine zal rfl ?_ | refine zam rfl rfl (fun _ => ?_) (fun _ => ?_)) | ((with_reducible refine zcu ?_); refine zan rfl ?_) | ((with_reducible refine zcv ?_); refine zan rfl ?_) | ((with_reducible refine zcw ?_); first | refine zaa 0 rfl rfl rfl ?_ | refine zaa 1 rfl rfl rfl ?_ | refine zaa 2 rfl rfl rfl ?_ | refine zaa 3 rfl rfl rfl ?_ | refine zaa 4 rfl rfl rfl ?_ | refine zaa 5 rfl rfl rfl ?_ | refine zab 0 rfl rfl rfl ?_ | refine zab 1 rfl rfl rfl ?_ | refine zab 2 rfl rfl rfl ?_ | refine zab 3 rfl rfl rfl ?_ | refine zab 4 rfl rfl rfl ?_ | refine zab 5 rfl rfl rfl ?_) | ((with_reducible refine zcx ?_); first | refine zah [0] hWn rfl rfl rfl sub_nil rfl ?_ | refine zce rfl ?_) | ((with_reducible refine zcy ?_); refine zao rfl ?_) | ((with_reducible refine zcz ?_); refine zan rfl ?_) | ((with_reducible refine zda ?_); first | refine zau rfl rfl (by omega) ?_ | refine zav rfl rfl (by omega) ?_ | refine zbo rfl rfl ?_ | refine zbp rfl rfl ?_ | refine zbq rfl rfl ?_ | refine zbs rfl rfl ?_ | refine zay rfl rfl (by omega) ?_ | refine zaz rfl rfl ?_ | refine zbb rfl rfl ?_ | refine zba rfl rfl ?_) | ((with_reducible refine zdb ?_); first | refine zby rfl ?_ | refine zbx rfl ?_) | ((with_reducible refine zdc ?_); first | refine zbu rfl ?_ | refine zbv rfl ?_ | refine zbw rfl rfl rfl ?_) | ((with_reducible refine zdd ?_); first | refine zae 0 rfl rfl rfl rfl rfl rfl rfl ?_ | refine zae 1 rfl rfl rfl rfl rfl rfl rfl ?_ | refine zae 2 rfl rfl rfl rfl rfl rfl rfl ?_ | refine zae 3 rfl rfl rfl rfl rfl rfl rfl ?_ | refine zae 4 rfl rfl rfl rfl rfl rfl rfl ?_ | refine zae 5 rfl rfl rfl rfl rfl rfl rfl ?_) | ((with_reducible refine zdf ?_); first | refine zas rfl rfl (by omega) ?_ | refine zat rfl rfl (by omega) ?_) | ((with_reducible refine zdg ?_); first | refine zaq (cs := [_]) rfl (fun nb => ?_) | refine zaq (cs := [_, _]) rfl (fun nb => ?_) | refine zaq (cs := [_, _, _]) rfl (fun nb => ?_) | refine zaq (cs := [_, _, _, _]) rfl (fun nb => ?_) | refine zaq (cs := [_, _, _, _, _]) rfl (fun nb => ?_) | refine zaq (cs := [_, _, _, _, _, _]) rfl (fun nb => ?_) | refine zaq (cs := [_, _, _, _, _, _, _]) rfl (fun nb => ?_) | refine zaq (cs := [_, _, _, _, _, _, _, _]) rfl (fun nb => ?_)) | ((with_reducible refine zdh ?_); refine zar (fun nb => ?_)) | refine zcd rfl rfl ?_) | refine zch ?_ | refine zci rfl ?_ | refine zcj rfl ?_)
    exact run_ret (fin _ _ _ _ rfl rfl hr)
  | some l =>
    have hl : l.length = d := by have := (hWl l rfl).1; simpa using this
    have hlb : ∀ x ∈ l, 0 ≤ x ∧ x ≤ 4096 := (hWl l rfl).2 (by simp)
    have hgD : ∀ k, k < d → l[k]? = some (l.getD k 0) ∧ 0 ≤ l.getD k 0 ∧ l.getD k 0 ≤ 4096 := fun k hk => by
      have h1 : l[k]? = some l[k] := List.getElem?_eq_getElem (by omega)
      have h2 : l.getD k 0 = l[k] := by simp [List.getD, h1]
      rw [h2]; exact ⟨h1, hlb _ (List.getElem_mem _)⟩
    dsimp only at hr hsm4
    repeat (first | refine zck ?_ | refine zcl ?_ | refine zcm ?_ | refine zcn ?_)
    first | refine zcp (by kernel_rfl) ?_ | refine zcq PP_mixed (by kernel_rfl) (by kernel_rfl) ?_
    repeat' (refine zap rfl ?_; first | (refine zai [0] hWs rfl rfl rfl sub_nil ?_; rintro v Γ' ⟨a, cap, rfl, rfl⟩) | ((with_reducible refine zct ?_); first | refine zaj rfl ?_ | refine zak rfl ?_ | refine zal rfl ?_ | refine zam rfl rfl (fun _ => ?_) (fun _ => ?_)) | ((with_reducible refine zcu ?_); refine zan rfl ?_) | ((with_reducible refine zcv ?_); refine zan rfl ?_) | ((with_reducible refine zcw ?_); first | refine zaa 0 rfl rfl rfl ?_ | refine zaa 1 rfl rfl rfl ?_ | refine zaa 2 rfl rfl rfl ?_ | refine zaa 3 rfl rfl rfl ?_ | refine zaa 4 rfl rfl rfl ?_ | refine zaa 5 rfl rfl rfl ?_ | refine zab 0 rfl rfl rfl ?_ | refine zab 1 rfl rfl rfl ?_ | refine zab 2 rfl rfl rfl ?_ | refine zab 3 rfl rfl rfl ?_ | refine zab 4 rfl rfl rfl ?_ | refine zab 5 rfl rfl rfl ?_) | ((with_reducible refine zcx ?_); refine zce rfl ?_) | ((with_reducible refine zcy ?_); refine zao rfl ?_) | ((with_reducible refine zcz ?_); refine zan rfl ?_) | ((with_reducible refine zda ?_); first | refine zau rfl rfl (by omega) ?_ | refine zav rfl rfl (by omega) ?_ | refine zbo rfl rfl ?_ | refine zbp rfl rfl ?_ | refine zbq rfl rfl ?_ | refine zbs rfl rfl ?_ | refine zay rfl rfl (by omega) ?_ | refine zaz rfl rfl ?_ | refine zbb rfl rfl ?_ | refine zba rfl rfl ?_) | ((with_reducible refine zdb ?_); first | refine zby rfl ?_ | refine zbx rfl ?_) | ((with_reducible refine zdc ?_); first | refine zbu rfl ?_ | refine zbv rfl ?_ | refine zbw rfl rfl rfl ?_) | ((with_reducible refine zdd ?_); first | refine zae 0 rfl rfl rfl rfl rfl rfl rfl ?_ | refine zae 1 rfl rfl rfl rfl rfl rfl rfl ?_ | refine zae 2 rfl rfl rfl rfl rfl rfl rfl ?_ | refine zae 3 rfl rfl rfl rfl rfl rfl rfl ?_ | refine zae 4 rfl rfl rfl rfl rfl rfl rfl ?_ | refine zae 5 rfl rfl rfl rfl rfl rfl rfl ?_) | ((with_reducible refine zdf ?_); first | refine zas rfl rfl (by omega) ?_ | refine zat rfl rfl (by omega) ?_) | ((with_reducible refine zdg ?_); first | refine zaq (cs := [_]) rfl (fun nb => ?_) | refine zaq (cs := [_, _]) rfl (fun nb => ?_) | refine zaq (cs := [_, _, _]) rfl (fun nb => ?_) | refine zaq (cs := [_, _, _, _]) rfl (fun nb => ?_) | refine zaq (cs := [_, _, _, _, _]) rfl (fun nb => ?_) | refine zaq (cs := [_, _, _, _, _, _]) rfl (fun nb => ?_) | refine zaq (cs := [_, _, _, _, _, _, _]) rfl (fun nb => ?_) | refine zaq (cs := [_, _, _, _, _, _, _, _]) rfl (fun nb => ?_)) | ((with_reducible refine zdh ?_); refine zar (fun nb => ?_)) | refine zcd rfl rfl ?_)
    all_goals refine zch ?_
    all_goals repeat (first | refine zck ?_ | refine zcl ?_ | refine zcm ?_ | refine zcn ?_)
    repeat (first | refine zck ?_ | refine zcl ?_ | refine zcm ?_ | refine zcn ?_)
    first | refine zcp (by kernel_rfl) ?_ | refine zcq PP_mixed (by kernel_rfl) (by kernel_rfl) ?_
    repeat' (refine zap rfl ?_; first | ((with_reducible refine zct ?_); first | refine zaj rfl ?_ | refine zak rfl ?_ | refine zal rfl ?_ | refine zam rfl rfl (fun _ => ?_) (fun _ => ?_)) | ((with_reducible refine zcu ?_); refine zan rfl ?_) | ((with_reducible refine zcv ?_); refine zan rfl ?_) | ((with_reducible refine zcw ?_); first | refine zaa 0 rfl rfl rfl ?_ | refine zaa 1 rfl rfl rfl ?_ | refine zaa 2 rfl rfl rfl ?_ | refine zaa 3 rfl rfl rfl ?_ | refine zaa 4 rfl rfl rfl ?_ | refine zaa 5 rfl rfl rfl ?_ | refine zab 0 rfl rfl rfl ?_ | refine zab 1 rfl rfl rfl ?_ | refine zab 2 rfl rfl rfl ?_ | refine zab 3 rfl rfl rfl ?_ | refine zab 4 rfl rfl rfl ?_ | refine zab 5 rfl rfl rfl ?_) | ((with_reducible refine zcx ?_); refine zce rfl ?_) | ((with_reducible refine zcy ?_); refine zao rfl ?_) | ((with_reducible refine zcz ?_); refine zan rfl ?_) | ((with_reducible refine zda ?_); first | refine zau rfl rfl (by omega) ?_ | refine zav rfl rfl (by omega) ?_ | refine zbo rfl rfl ?_ | refine zbp rfl rfl ?_ | refine zbq rfl rfl ?_ | refine zbs rfl rfl ?_ | refine zay rfl rfl (by omega) ?_ | refine zaz rfl rfl ?_ | refine zbb rfl rfl ?_ | refine zba rfl rfl ?_) | ((with_reducible refine zdb ?_); first | refine zby rfl ?_ | refine zbx rfl ?_) | ((with_reducible refine zdc ?_); first | refine zbu rfl ?_ | refine zbv rfl ?_ | refine zbw rfl rfl rfl ?_) | ((with_reducible refine zdd ?_); first | refine zae 0 rfl rfl rfl rfl rfl rfl rfl ?_ | refine zae 1 rfl rfl rfl rfl rfl rfl rfl ?_ | refine zae 2 rfl rfl rfl rfl rfl rfl rfl ?_ | refine zae 3 rfl rfl rfl rfl rfl rfl rfl ?_ | refine zae 4 rfl rfl rfl rfl rfl rfl rfl ?_ | refine zae 5 rfl rfl rfl rfl rfl rfl rfl ?_) | ((with_reducible refine zdf ?_); first | refine zas rfl rfl (by omega) ?_ | refine zat rfl rfl (by omega) ?_) | ((with_reducible refine zdg ?_); first | refine zaq (cs := [_]) rfl (fun nb => ?_) | refine zaq (cs := [_, _]) rfl (fun nb => ?_) | refine zaq (cs := [_, _, _]) rfl (fun nb => ?_) | refine zaq (cs := [_, _, _, _]) rfl (fun nb => ?_) | refine zaq (cs := [_, _, _, _, _]) rfl (fun nb => ?_) | refine zaq (cs := [_, _, _, _, _, _]) rfl (fun nb => ?_) | refine zaq (cs := [_, _, _, _, _, _, _]) rfl (fun nb => ?_) | refine zaq (cs := [_, _, _, _, _, _, _, _]) rfl (fun nb => ?_)) | ((with_reducible refine zdh ?_); refine zar (fun nb => ?_)) | refine zcd rfl rfl ?_)
    all_goals refine zch ?_
    all_goals repeat (first | refine zck ?_ | refine zcl ?_ | refine zcm ?_ | refine zcn ?_)
    refine zcj rfl ?_
    refine run_sl_cases 1 rfl (fun _ hz _ _ => absurd hz (by omega)) ?_
    intro lb e1 e2 e3
    subst e1
    refine run_share_sl [1] rfl (fun spare => ?_)
    have hrd : ∀ k, k < d → ∀ o, o = k → rd false 1 (intL l ++ spare) o = some (.int .i64 (l.getD k 0)) := by
      intro k hk o ho; subst ho; exact rd_append (intL_get _ _ _ (hgD _ hk).1) (by intro h; cases h)
    refine run_slots [(2, ptr b2), (3, ptr b3), (4, ptr vb), (5, ptr eb), (6, .int .i64 n), (7, .int .i64 (d : Int)), (10, .slice (some ⟨lb, 0, none⟩) l.length cap)] ⟨rfl, rfl, rfl, rfl, rfl, rfl, rfl, trivial⟩ (fun junk => ?_)
    have hdg := dig_bd (n - 1) 1
    have hld := hgD (d - 1) (by omega)
    have hl0 := hgD 0 (by omega)
    have hG := getS w0 p t2 (l.getD (d - 1) 0 + dig (n - 1) 1) (hsm4.mono (by decide))
    have hsm5 : Sm (t2.get (l.getD (d - 1) 0 + dig (n - 1) 1)).2 24 := sm_get hsm4
    generalize t2.get (l.getD (d - 1) 0 + dig (n - 1) 1) = g at hr hG hsm5
    repeat (first | refine zck ?_ | refine zcl ?_ | refine zcm ?_ | refine zcn ?_ | refine zco ?_)
    repeat (first | refine zck ?_ | refine zcl ?_ | refine zcm ?_ | refine zcn ?_)
    first | refine zcp (by kernel_rfl) ?_ | refine zcq PP_mixed (by kernel_rfl) (by kernel_rfl) ?_
    repeat' (refine zap rfl ?_; first | refine zaa 0 rfl rfl (hrd (d - 1) (by omega) _ (by omega)) ?_ | ((with_reducible refine zct ?_); first | refine zaj rfl ?_ | refine zak rfl ?_ | refine zal rfl ?_ | refine zam rfl rfl (fun _ => ?_) (fun _ => ?_)) | ((with_reducible refine zcu ?_); refine zan rfl ?_) | ((with_reducible refine zcv ?_); refine zan rfl ?_) | ((with_reducible refine zcw ?_); first | refine zaa 0 rfl rfl rfl ?_ | refine zaa 1 rfl rfl rfl ?_ | refine zaa 2 rfl rfl rfl ?_ | refine zaa 3 rfl rfl rfl ?_ | refine zaa 4 rfl rfl rfl ?_ | refine zaa 5 rfl rfl rfl ?_ | refine zab 0 rfl rfl rfl ?_ | refine zab 1 rfl rfl rfl ?_ | refine zab 2 rfl rfl rfl ?_ | refine zab 3 rfl rfl rfl ?_ | refine zab 4 rfl rfl rfl ?_ | refine zab 5 rfl rfl rfl ?_) | ((with_reducible refine zcx ?_); first | refine zah [] (digit_spec w0 hw (n - 1) 1 (by omega) (by omega) _ rfl) rfl rfl rfl sub_nil rfl ?_ | refine zah [0] hG rfl rfl rfl sub_nil rfl ?_ | refine zce rfl ?_) | ((with_reducible refine zcy ?_); refine zao rfl ?_) | ((with_reducible refine zcz ?_); refine zan rfl ?_) | ((with_reducible refine zda ?_); first | refine zau rfl rfl (by omega) ?_ | refine zav rfl rfl (by omega) ?_ | refine zbo rfl rfl ?_ | refine zbp rfl rfl ?_ | refine zbq rfl rfl ?_ | refine zbs rfl rfl ?_ | refine zay rfl rfl (by omega) ?_ | refine zaz rfl rfl ?_ | refine zbb rfl rfl ?_ | refine zba rfl rfl ?_) | ((with_reducible refine zdb ?_); first | refine zby rfl ?_ | refine zbx rfl ?_) | ((with_reducible refine zdc ?_); first | refine zbu rfl ?_ | refine zbv rfl ?_ | refine zbw rfl rfl rfl ?_) | ((with_reducible refine zdd ?_); first | refine zae 0 rfl rfl rfl rfl rfl rfl rfl ?_ | refine zae 1 rfl rfl rfl rfl rfl rfl rfl ?_ | refine zae 2 rfl rfl rfl rfl rfl rfl rfl ?_ | refine zae 3 rfl rfl rfl rfl rfl rfl rfl ?_ | refine zae 4 rfl rfl rfl rfl rfl rfl rfl ?_ | refine zae 5 rfl rfl rfl rfl rfl rfl rfl ?_) | ((with_reducible refine zdf ?_); first | refine zas rfl rfl (by omega) ?_ | refine zat rfl rfl (by omega) ?_) | ((with_reducible refine zdg ?_); first | refine zaq (cs := [_]) rfl (fun nb => ?_) | refine zaq (cs := [_, _]) rfl (fun nb => ?_) | refine zaq (cs := [_, _, _]) rfl (fun nb => ?_) | refine zaq (cs := [_, _, _, _]) rfl (fun nb => ?_) | refine zaq (cs := [_, _, _, _, _]) rfl (fun nb => ?_) | refine zaq (cs := [_, _, _, _, _, _]) rfl (fun nb => ?_) | refine zaq (cs := [_, _, _, _, _, _, _]) rfl (fun nb => ?_) | refine zaq (cs := [_, _, _, _, _, _, _, _]) rfl (fun nb => ?_)) | ((with_reducible refine zdh ?_); refine zar (fun nb => ?_)) | refine zcd rfl rfl ?_)
    all_goals refine zch ?_
    all_goals repeat (first | refine zck ?_ | refine zcl ?_ | refine zcm ?_ | refine zcn ?_)
    repeat (first | refine zck ?_ | refine zcl ?_ | refine zcm ?_ | refine zcn ?_)
    first | refine zcp (by kernel_rfl) ?_ | refine zcq PP_mixed (by kernel_rfl) (by kernel_rfl) ?_
    repeat' (refine zap rfl ?_; first | ((with_reducible refine zct ?_); first | refine zaj rfl ?_ | refine zak rfl ?_ | refine zal rfl ?_ | refine zam rfl rfl (fun _ => ?_) (fun _ => ?_)) | ((with_reducible refine zcu ?_); refine zan rfl ?_) | ((with_reducible refine zcv ?_); refine zan rfl ?_) | ((with_reducible refine zcw ?_); first | refine zaa 0 rfl rfl rfl ?_ | refine zaa 1 rfl rfl rfl ?_ | refine zaa 2 rfl rfl rfl ?_ | refine zaa 3 rfl rfl rfl ?_ | refine zaa 4 rfl rfl rfl ?_ | refine zaa 5 rfl rfl rfl ?_ | refine zab 0 rfl rfl rfl ?_ | refine zab 1 rfl rfl rfl ?_ | refine zab 2 rfl rfl rfl ?_ | refine zab 3 rfl rfl rfl ?_ | refine zab 4 rfl rfl rfl ?_ | refine zab 5 rfl rfl rfl ?_) | ((with_reducible refine zcx ?_); first | refine zah [] (depth_spec w0 hw _) rfl rfl rfl sub_nil rfl ?_ | refine zce rfl ?_) | ((with_reducible refine zcy ?_); refine zao rfl ?_) | ((with_reducible refine zcz ?_); refine zan rfl ?_) | ((with_reducible refine zda ?_); first | refine zau rfl rfl (by omega) ?_ | refine zav rfl rfl (by omega) ?_ | refine zbo rfl rfl ?_ | refine zbp rfl rfl ?_ | refine zbq rfl rfl ?_ | refine zbs rfl rfl ?_ | refine zay rfl rfl (by omega) ?_ | refine zaz rfl rfl ?_ | refine zbb rfl rfl ?_ | refine zba rfl rfl ?_) | ((with_reducible refine zdb ?_); first | refine zby rfl ?_ | refine zbx rfl ?_) | ((with_reducible refine zdc ?_); first | refine zbu rfl ?_ | refine zbv rfl ?_ | refine zbw rfl rfl rfl ?_) | ((with_reducible refine zdd ?_); first | refine zae 0 rfl rfl rfl rfl rfl rfl rfl ?_ | refine zae 1 rfl rfl rfl rfl rfl rfl rfl ?_ | refine zae 2 rfl rfl rfl rfl rfl rfl rfl ?_ | refine zae 3 rfl rfl rfl rfl rfl rfl rfl ?_ | refine zae 4 rfl rfl rfl rfl rfl rfl rfl ?_ | refine zae 5 rfl rfl rfl rfl rfl rfl rfl ?_) | ((with_reducible refine zdf ?_); first | refine zas rfl rfl (by omega) ?_ | refine zat rfl rfl (by omega) ?_) | ((with_reducible refine zdg ?_); first | refine zaq (cs := [_]) rfl (fun nb => ?_) | refine zaq (cs := [_, _]) rfl (fun nb => ?_) | refine zaq (cs := [_, _, _]) rfl (fun nb => ?_) | refine zaq (cs := [_, _, _, _]) rfl (fun nb => ?_) | refine zaq (cs := [_, _, _, _, _]) rfl (fun nb => ?_) | refine zaq (cs := [_, _, _, _, _, _]) rfl (fun nb => ?_) | refine zaq (cs := [_, _, _, _, _, _, _]) rfl (fun nb => ?_) | refine zaq (cs := [_, _, _, _, _, _, _, _]) rfl (fun nb => ?_)) | ((with_reducible refine zdh ?_); refine zar (fun nb => ?_)) | refine zcd rfl rfl ?_)
    all_goals refine zch ?_
    all_goals repeat (first | refine zck ?_ | refine zcl ?_ | refine zcm ?_ | refine zcn ?_)
    repeat (first | refine zck ?_ | refine zcl ?_ | refine zcm ?_ | refine zcn ?_)
    first | refine zcp (by kernel_rfl) ?_ | refine zcq PP_mixed (by kernel_rfl) (by kernel_rfl) ?_
    repeat' (refine zap rfl ?_; first | ((with_reducible refine zct ?_); first | refine zaj rfl ?_ | refine zak rfl ?_ | refine zal rfl ?_ | refine zam rfl rfl (fun _ => ?_) (fun _ => ?_)) | ((with_reducible refine zcu ?_); refine zan rfl ?_) | ((with_reducible refine zcv ?_); refine zan rfl ?_) | ((with_reducible refine zcw ?_); first | refine zaa 0 rfl rfl rfl ?_ | refine zaa 1 rfl rfl rfl ?_ | refine zaa 2 rfl rfl rfl ?_ | refine zaa 3 rfl rfl rfl ?_ | refine zaa 4 rfl rfl rfl ?_ | refine zaa 5 rfl rfl rfl ?_ | refine zab 0 rfl rfl rfl ?_ | refine zab 1 rfl rfl rfl ?_ | refine zab 2 rfl rfl rfl ?_ | refine zab 3 rfl rfl rfl ?_ | refine zab 4 rfl rfl rfl ?_ | refine zab 5 rfl rfl rfl ?_) | ((with_reducible refine zcx ?_); refine zce rfl ?_) | ((with_reducible refine zcy ?_); refine zao rfl ?_) | ((with_reducible refine zcz ?_); refine zan rfl ?_) | ((with_reducible refine zda ?_); first | refine zau rfl rfl (by omega) ?_ | refine zav rfl rfl (by omega) ?_ | refine zbo rfl rfl ?_ | refine zbp rfl rfl ?_ | refine zbq rfl rfl ?_ | refine zbs rfl rfl ?_ | refine zay rfl rfl (by omega) ?_ | refine zaz rfl rfl ?_ | refine zbb rfl rfl ?_ | refine zba rfl rfl ?_) | ((with_reducible refine zdb ?_); first | refine zby rfl ?_ | refine zbx rfl ?_) | ((with_reducible refine zdc ?_); first | refine zbu rfl ?_ | refine zbv rfl ?_ | refine zbw rfl rfl rfl ?_) | ((with_reducible refine zdd ?_); first | refine zae 0 rfl rfl rfl rfl rfl rfl rfl ?_ | refine zae 1 rfl rfl rfl rfl rfl rfl rfl ?_ | refine zae 2 rfl rfl rfl rfl rfl rfl rfl ?_ | refine zae 3 rfl rfl rfl rfl rfl rfl rfl ?_ | refine zae 4 rfl rfl rfl rfl rfl rfl rfl ?_ | refine zae 5 rfl rfl rfl rfl rfl rfl rfl ?_) | ((with_reducible refine zdf ?_); first | refine zas rfl rfl (by omega) ?_ | refine zat rfl rfl (by omega) ?_) | ((with_reducible refine zdg ?_); first | refine zaq (cs := [_]) rfl (fun nb => ?_) | refine zaq (cs := [_, _]) rfl (fun nb => ?_) | refine zaq (cs := [_, _, _]) rfl (fun nb => ?_) | refine zaq (cs := [_, _, _, _]) rfl (fun nb => ?_) | refine zaq (cs := [_, _, _, _, _]) rfl (fun nb => ?_) | refine zaq (cs := [_, _, _, _, _, _]) rfl (fun nb => ?_) | refine zaq (cs := [_, _, _, _, _, _, _]) rfl (fun nb => ?_) | refine zaq (cs := [_, _, _, _, _, _, _, _]) rfl (fun nb => ?_)) | ((with_reducible refine zdh ?_); refine zar (fun nb => ?_)) | refine zcd rfl rfl ?_)
    all_goals refine zch ?_
    all_goals repeat (first | refine zck ?_ | refine zcl ?_ | refine zcm ?_ | refine zcn ?_)
    repeat (first | refine zck ?_ | refine zcl ?_ | refine zcm ?_ | refine zcn ?_)
    first | refine zcp (by kernel_rfl) ?_ | refine zcq PP_mixed (by kernel_rfl) (by kernel_rfl) ?_
    repeat' (refine zap rfl ?_; first | ((with_reducible refine zct ?_); first | refine zaj rfl ?_ | refine zak rfl ?_ | refine zal rfl ?_ | refine zam rfl rfl (fun _ => ?_) (fun _ => ?_)) | ((with_reducible refine zcu ?_); refine zan rfl ?_) | ((with_reducible refine zcv ?_); refine zan rfl ?_) | ((with_reducible refine zcw ?_); first | refine zaa 0 rfl rfl rfl ?_ | refine zaa 1 rfl rfl rfl ?_ | refine zaa 2 rfl rfl rfl ?_ | refine zaa 3 rfl rfl rfl ?_ | refine zaa 4 rfl rfl rfl ?_ | refine zaa 5 rfl rfl rfl ?_ | refine zab 0 rfl rfl rfl ?_ | refine zab 1 rfl rfl rfl ?_ | refine zab 2 rfl rfl rfl ?_ | refine zab 3 rfl rfl rfl ?_ | refine zab 4 rfl rfl rfl ?_ | refine zab 5 rfl rfl rfl ?_) | ((with_reducible refine zcx ?_); refine zce rfl ?_) | ((with_reducible refine zcy ?_); refine zao rfl ?_) | ((with_reducible refine zcz ?_); refine zan rfl ?_) | ((with_reducible refine zda ?_); first | refine zau rfl rfl (by omega) ?_ | refine zav rfl rfl (by omega) ?_ | refine zbo rfl rfl ?_ | refine zbp rfl rfl ?_ | refine zbq rfl rfl ?_ | refine zbs rfl rfl ?_ | refine zay rfl rfl (by omega) ?_ | refine zaz rfl rfl ?_ | refine zbb rfl rfl ?_ | refine zba rfl rfl ?_) | ((with_reducible refine zdb ?_); first | refine zby rfl ?_ | refine zbx rfl ?_) | ((with_reducible refine zdc ?_); first | refine zbu rfl ?_ | refine zbv rfl ?_ | refine zbw rfl rfl rfl ?_) | ((with_reducible refine zdd ?_); first | refine zae 0 rfl rfl rfl rfl rfl rfl rfl ?_ | refine zae 1 rfl rfl rfl rfl rfl rfl rfl ?_ | refine zae 2 rfl rfl rfl rfl rfl rfl rfl ?_ | refine zae 3 rfl rfl rfl rfl rfl rfl rfl ?_ | refine zae 4 rfl rfl rfl rfl rfl rfl rfl ?_ | refine zae 5 rfl rfl rfl rfl rfl rfl rfl ?_) | ((with_reducible refine zdf ?_); first | refine zas rfl rfl (by omega) ?_ | refine zat rfl rfl (by omega) ?_) | ((with_reducible refine zdg ?_); first | refine zaq (cs := [_]) rfl (fun nb => ?_) | refine zaq (cs := [_, _]) rfl (fun nb => ?_) | refine zaq (cs := [_, _, _]) rfl (fun nb => ?_) | refine zaq (cs := [_, _, _, _]) rfl (fun nb => ?_) | refine zaq (cs := [_, _, _, _, _]) rfl (fun nb => ?_) | refine zaq (cs := [_, _, _, _, _, _]) rfl (fun nb => ?_) | refine zaq (cs := [_, _, _, _, _, _, _]) rfl (fun nb => ?_) | refine zaq (cs := [_, _, _, _, _, _, _, _]) rfl (fun nb => ?_)) | ((with_reducible refine zdh ?_); refine zar (fun nb => ?_)) | refine zcd rfl rfl ?_)
    all_goals refine zch ?_
    all_goals repeat (first | refine zck ?_ | refine zcl ?_ | refine zcm ?_ | refine zcn ?_)
    generalize hnow : dep (n - 1) = now at *
    refine run_slots [(2, ptr b2), (3, ptr b3), (4, ptr vb), (5, ptr eb), (6, .int .i64 n), (7, .int .i64 (d : Int)), (10, .slice (some ⟨lb, 0, none⟩) l.length cap), (11, .int .i64 now), (12, .int .i64 0), (61, .bool (decide (0 < now)))] ⟨rfl, rfl, rfl, rfl, rfl, rfl, rfl, rfl, rfl, bool_eq (dec_eq (by omega)), trivial⟩ (fun junk => ?_)
    refine run_join (S := Int) (fun top => [(2, ptr b2), (3, ptr b3), (4, ptr vb), (5, ptr eb), (6, .int .i64 n), (7, .int .i64 (d : Int)), (10, .slice (some ⟨lb, 0, none⟩) l.length cap), (11, .int .i64 now), (12, .int .i64 top)])
      (fun top Γ => Γ = [SpaceA p g.2, vV vb g.1, eV eb 0, mV nb mk] ∧ top = if 0 < now then l.getD 0 0 else 0) ?_ ?_
    · by_cases h0 : 0 < now
      · refine zci (bool_eq (decide_eq_true h0)) ?_
        repeat' (first | refine zck ?_ | refine zcp (by kernel_rfl) ?_ | refine zcq PP_mixed (by kernel_rfl) (by kernel_rfl) ?_ | refine zcm ?_ | refine zcl ?_ | refine zcn ?_ | refine zco ?_ | refine zcs rfl ?_ | (refine zap rfl ?_; first | refine zaa 0 rfl rfl (hrd 0 (by omega) _ (by omega)) ?_ | ((with_reducible refine zct ?_); first | refine zaj rfl ?_ | refine zak rfl ?_ | refine zal rfl ?_ | refine zam rfl rfl (fun _ => ?_) (fun _ => ?_)) | ((with_reducible refine zcu ?_); refine zan rfl ?_) | ((with_reducible refine zcv ?_); refine zan rfl ?_) | ((with_reducible refine zcw ?_); first | refine zaa 0 rfl rfl rfl ?_ | refine zaa 1 rfl rfl rfl ?_ | refine zaa 2 rfl rfl rfl ?_ | refine zaa 3 rfl rfl rfl ?_ | refine zaa 4 rfl rfl rfl ?_ | refine zaa 5 rfl rfl rfl ?_ | refine zab 0 rfl rfl rfl ?_ | refine zab 1 rfl rfl rfl ?_ | refine zab 2 rfl rfl rfl ?_ | refine zab 3 rfl rfl rfl ?_ | refine zab 4 rfl rfl rfl ?_ | refine zab 5 rfl rfl rfl ?_) | ((with_reducible refine zcx ?_); refine zce rfl ?_) | ((with_reducible refine zcy ?_); refine zao rfl ?_) | ((with_reducible refine zcz ?_); refine zan rfl ?_) | ((with_reducible refine zda ?_); first | refine zau rfl rfl (by omega) ?_ | refine zav rfl rfl (by omega) ?_ | refine zbo rfl rfl ?_ | refine zbp rfl rfl ?_ | refine zbq rfl rfl ?_ | refine zbs rfl rfl ?_ | refine zay rfl rfl (by omega) ?_ | refine zaz rfl rfl ?_ | refine zbb rfl rfl ?_ | refine zba rfl rfl ?_) | ((with_reducible refine zdb ?_); first | refine zby rfl ?_ | refine zbx rfl ?_) | ((with_reducible refine zdc ?_); first | refine zbu rfl ?_ | refine zbv rfl ?_ | refine zbw rfl rfl rfl ?_) | ((with_reducible refine zdd ?_); first | refine zae 0 rfl rfl rfl rfl rfl rfl rfl ?_ | refine zae 1 rfl rfl rfl rfl rfl rfl rfl ?_ | refine zae 2 rfl rfl rfl rfl rfl rfl rfl ?_ | refine zae 3 rfl rfl rfl rfl rfl rfl rfl ?_ | refine zae 4 rfl rfl rfl rfl rfl rfl rfl ?_ | refine zae 5 rfl rfl rfl rfl rfl rfl rfl ?_) | ((with_reducible refine zdf ?_); first | refine zas rfl rfl (by omega) ?_ | refine zat rfl rfl (by omega) ?_) | ((with_reducible refine zdg ?_); first | refine zaq (cs := [_]) rfl (fun nb => ?_) | refine zaq (cs := [_, _]) rfl (fun nb => ?_) | refine zaq (cs := [_, _, _]) rfl (fun nb => ?_) | refine zaq (cs := [_, _, _, _]) rfl (fun nb => ?_) | refine zaq (cs := [_, _, _, _, _]) rfl (fun nb => ?_) | refine zaq (cs := [_, _, _, _, _, _]) rfl (fun nb => ?_) | refine zaq (cs := [_, _, _, _, _, _, _]) rfl (fun nb => ?_) | refine zaq (cs := [_, _, _, _, _, _, _, _]) rfl (fun nb => ?_)) | ((with_reducible refine zdh ?_); refine zar (fun nb => ?_)) | refine zcd rfl rfl ?_) | refine zch ?_ | refine zci rfl ?_ | refine zcj rfl ?_)
        exact cut_end ⟨rfl, _, ⟨rfl, rfl, rfl, rfl, rfl, rfl, rfl, rfl, rfl, trivial⟩, ⟨rfl, by rw [if_pos h0]⟩⟩
      · refine zcj (bool_eq (decide_eq_false h0)) ?_
        repeat (first | refine zck ?_ | refine zcl ?_ | refine zcm ?_ | refine zcn ?_ | refine zco ?_)
        exact cut_end ⟨rfl, _, ⟨rfl, rfl, rfl, rfl, rfl, rfl, rfl, rfl, rfl, trivial⟩, ⟨rfl, by rw [if_neg h0]⟩⟩
    rintro top Γ' junk ⟨rfl, htop⟩
    repeat (first | refine zck ?_ | refine zcl ?_ | refine zcm ?_ | refine zcn ?_ | refine zco ?_)
    refine run_join (S := Unit) (fun _ => [(2, ptr b2), (3, ptr b3), (4, ptr vb), (5, ptr eb), (6, .int .i64 n), (7, .int .i64 (d : Int)), (10, .slice (some ⟨lb, 0, none⟩) l.length cap), (11, .int .i64 now), (12, .int .i64 top), (71, .bool (decide (0 < now ∧ now < d)))])
      (fun _ Γ => Γ = [SpaceA p g.2, vV vb g.1, eV eb 0, mV nb mk]) ?_ ?_
    · by_cases h0 : 0 < now
      · by_cases h1 : now < d
        · have d0 : decide ((0 : Int) < (now : Int)) = true := decide_eq_true (by omega)
          have d1 : decide ((now : Int) < (d : Int)) = true := decide_eq_true (by omega)
          repeat' (first | refine zck ?_ | refine zcp (by kernel_rfl) ?_ | refine zcq PP_mixed (by kernel_rfl) (by kernel_rfl) ?_ | refine zcm ?_ | refine zcl ?_ | refine zcn ?_ | refine zco ?_ | refine zcs rfl ?_ | (refine zap rfl ?_; first | (refine zbs rfl rfl ?_; rw [d0]) | (refine zbq rfl rfl ?_; rw [d1]) | ((with_reducible refine zct ?_); first | refine zaj rfl ?_ | refine zak rfl ?_ | refine zal rfl ?_ | refine zam rfl rfl (fun _ => ?_) (fun _ => ?_)) | ((with_reducible refine zcu ?_); refine zan rfl ?_) | ((with_reducible refine zcv ?_); refine zan rfl ?_) | ((with_reducible refine zcw ?_); first | refine zaa 0 rfl rfl rfl ?_ | refine zaa 1 rfl rfl rfl ?_ | refine zaa 2 rfl rfl rfl ?_ | refine zaa 3 rfl rfl rfl ?_ | refine zaa 4 rfl rfl rfl ?_ | refine zaa 5 rfl rfl rfl ?_ | refine zab 0 rfl rfl rfl ?_ | refine zab 1 rfl rfl rfl ?_ | refine zab 2 rfl rfl rfl ?_ | refine zab 3 rfl rfl rfl ?_ | refine zab 4 rfl rfl rfl ?_ | refine zab 5 rfl rfl rfl ?_) | ((with_reducible refine zcx ?_); refine zce rfl ?_) | ((with_reducible refine zcy ?_); refine zao rfl ?_) | ((with_reducible refine zcz ?_); refine zan rfl ?_) | ((with_reducible refine zda ?_); first | refine zau rfl rfl (by omega) ?_ | refine zav rfl rfl (by omega) ?_ | refine zbo rfl rfl ?_ | refine zbp rfl rfl ?_ | refine zbq rfl rfl ?_ | refine zbs rfl rfl ?_ | refine zay rfl rfl (by omega) ?_ | refine zaz rfl rfl ?_ | refine zbb rfl rfl ?_ | refine zba rfl rfl ?_) | ((with_reducible refine zdb ?_); first | refine zby rfl ?_ | refine zbx rfl ?_) | ((with_reducible refine zdc ?_); first | refine zbu rfl ?_ | refine zbv rfl ?_ | refine zbw rfl rfl rfl ?_) | ((with_reducible refine zdd ?_); first | refine zae 0 rfl rfl rfl rfl rfl rfl rfl ?_ | refine zae 1 rfl rfl rfl rfl rfl rfl rfl ?_ | refine zae 2 rfl rfl rfl rfl rfl rfl rfl ?_ | refine zae 3 rfl rfl rfl rfl rfl rfl rfl ?_ | refine zae 4 rfl rfl rfl rfl rfl rfl rfl ?_ | refine zae 5 rfl rfl rfl rfl rfl rfl rfl ?_) | ((with_reducible refine zdf ?_); first | refine zas rfl rfl (by omega) ?_ | refine zat rfl rfl (by omega) ?_) | ((with_reducible refine zdg ?_); first | refine zaq (cs := [_]) rfl (fun nb => ?_) | refine zaq (cs := [_, _]) rfl (fun nb => ?_) | refine zaq (cs := [_, _, _]) rfl (fun nb => ?_) | refine zaq (cs := [_, _, _, _]) rfl (fun nb => ?_) | refine zaq (cs := [_, _, _, _, _]) rfl (fun nb => ?_) | refine zaq (cs := [_, _, _, _, _, _]) rfl (fun nb => ?_) | refine zaq (cs := [_, _, _, _, _, _, _]) rfl (fun nb => ?_) | refine zaq (cs := [_, _, _, _, _, _, _, _]) rfl (fun nb => ?_)) | ((with_reducible refine zdh ?_); refine zar (fun nb => ?_)) | refine zcd rfl rfl ?_) | refine zch ?_ | refine zci rfl ?_ | refine zcj rfl ?_)
          exact cut_end ⟨rfl, (), ⟨rfl, rfl, rfl, rfl, rfl, rfl, rfl, rfl, rfl, bool_eq (by simp [h0, h1]), trivial⟩, rfl⟩
        · have d0 : decide ((0 : Int) < (now : Int)) = true := decide_eq_true (by omega)
          have d1 : decide ((now : Int) < (d : Int)) = false := decide_eq_false (by omega)
          repeat' (first | refine zck ?_ | refine zcp (by kernel_rfl) ?_ | refine zcq PP_mixed (by kernel_rfl) (by kernel_rfl) ?_ | refine zcm ?_ | refine zcl ?_ | refine zcn ?_ | refine zco ?_ | refine zcs rfl ?_ | (refine zap rfl ?_; first | (refine zbs rfl rfl ?_; rw [d0]) | (refine zbq rfl rfl ?_; rw [d1]) | ((with_reducible refine zct ?_); first | refine zaj rfl ?_ | refine zak rfl ?_ | refine zal rfl ?_ | refine zam rfl rfl (fun _ => ?_) (fun _ => ?_)) | ((with_reducible refine zcu ?_); refine zan rfl ?_) | ((with_reducible refine zcv ?_); refine zan rfl ?_) | ((with_reducible refine zcw ?_); first | refine zaa 0 rfl rfl rfl ?_ | refine zaa 1 rfl rfl rfl ?_ | refine zaa 2 rfl rfl rfl ?_ | refine zaa 3 rfl rfl rfl ?_ | refine zaa 4 rfl rfl rfl ?_ | refine zaa 5 rfl rfl rfl ?_ | refine zab 0 rfl rfl rfl ?_ | refine zab 1 rfl rfl rfl ?_ | refine zab 2 rfl rfl rfl ?_ | refine zab 3 rfl rfl rfl ?_ | refine zab 4 rfl rfl rfl ?_ | refine zab 5 rfl rfl rfl ?_) | ((with_reducible refine zcx ?_); refine zce rfl ?_) | ((with_reducible refine zcy ?_); refine zao rfl ?_) | ((with_reducible refine zcz ?_); refine zan rfl ?_) | ((with_reducible refine zda ?_); first | refine zau rfl rfl (by omega) ?_ | refine zav rfl rfl (by omega) ?_ | refine zbo rfl rfl ?_ | refine zbp rfl rfl ?_ | refine zbq rfl rfl ?_ | refine zbs rfl rfl ?_ | refine zay rfl rfl (by omega) ?_ | refine zaz rfl rfl ?_ | refine zbb rfl rfl ?_ | refine zba rfl rfl ?_) | ((with_reducible refine zdb ?_); first | refine zby rfl ?_ | refine zbx rfl ?_) | ((with_reducible refine zdc ?_); first | refine zbu rfl ?_ | refine zbv rfl ?_ | refine zbw rfl rfl rfl ?_) | ((with_reducible refine zdd ?_); first | refine zae 0 rfl rfl rfl rfl rfl rfl rfl ?_ | refine zae 1 rfl rfl rfl rfl rfl rfl rfl ?_ | refine zae 2 rfl rfl rfl rfl rfl rfl rfl ?_ | refine zae 3 rfl rfl rfl rfl rfl rfl rfl ?_ | refine zae 4 rfl rfl rfl rfl rfl rfl rfl ?_ | refine zae 5 rfl rfl rfl rfl rfl rfl rfl ?_) | ((with_reducible refine zdf ?_); first | refine zas rfl rfl (by omega) ?_ | refine zat rfl rfl (by omega) ?_) | ((with_reducible refine zdg ?_); first | refine zaq (cs := [_]) rfl (fun nb => ?_) | refine zaq (cs := [_, _]) rfl (fun nb => ?_) | refine zaq (cs := [_, _, _]) rfl (fun nb => ?_) | refine zaq (cs := [_, _, _, _]) rfl (fun nb => ?_) | refine zaq (cs := [_, _, _, _, _]) rfl (fun nb => ?_) | refine zaq (cs := [_, _, _, _, _, _]) rfl (fun nb => ?_) | refine zaq (cs := [_, _, _, _, _, _, _]) rfl (fun nb => ?_) | refine zaq (cs := [_, _, _, _, _, _, _, _]) rfl (fun nb => ?_)) | ((with_reducible refine zdh ?_); refine zar (fun nb => ?_)) | refine zcd rfl rfl ?_) | refine zch ?_ | refine zci rfl ?_ | refine zcj rfl ?_)
          exact cut_end ⟨rfl, (), ⟨rfl, rfl, rfl, rfl, rfl, rfl, rfl, rfl, rfl, bool_eq (by simp [h1]), trivial⟩, rfl⟩
      · have d0 : decide ((0 : Int) < (now : Int)) = false := decide_eq_false (by omega)
        repeat' (first | refine zck ?_ | refine zcp (by kernel_rfl) ?_ | refine zcq PP_mixed (by kernel_rfl) (by kernel_rfl) ?_ | refine zcm ?_ | refine zcl ?_ | refine zcn ?_ | refine zco ?_ | refine zcs rfl ?_ | (refine zap rfl ?_; first | (refine zbs rfl rfl ?_; rw [d0]) | ((with_reducible refine zct ?_); first | refine zaj rfl ?_ | refine zak rfl ?_ | refine zal rfl ?_ | refine zam rfl rfl (fun _ => ?_) (fun _ => ?_)) | ((with_reducible refine zcu ?_); refine zan rfl ?_) | ((with_reducible refine zcv ?_); refine zan rfl ?_) | ((with_reducible refine zcw ?_); first | refine zaa 0 rfl rfl rfl ?_ | refine zaa 1 rfl rfl rfl ?_ | refine zaa 2 rfl rfl rfl ?_ | refine zaa 3 rfl rfl rfl ?_ | refine zaa 4 rfl rfl rfl ?_ | refine zaa 5 rfl rfl rfl ?_ | refine zab 0 rfl rfl rfl ?_ | refine zab 1 rfl rfl rfl ?_ | refine zab 2 rfl rfl rfl ?_ | refine zab 3 rfl rfl rfl ?_ | refine zab 4 rfl rfl rfl ?_ | refine zab 5 rfl rfl rfl ?_) | ((with_reducible refine zcx ?_); refine zce rfl ?_) | ((with_reducible refine zcy ?_); refine zao rfl ?_) | ((with_reducible refine zcz ?_); refine zan rfl ?_) | ((with_reducible refine zda ?_); first | refine zau rfl rfl (by omega) ?_ | refine zav rfl rfl (by omega) ?_ | refine zbo rfl rfl ?_ | refine zbp rfl rfl ?_ | refine zbq rfl rfl ?_ | refine zbs rfl rfl ?_ | refine zay rfl rfl (by omega) ?_ | refine zaz rfl rfl ?_ | refine zbb rfl rfl ?_ | refine zba rfl rfl ?_) | ((with_reducible refine zdb ?_); first | refine zby rfl ?_ | refine zbx rfl ?_) | ((with_reducible refine zdc ?_); first | refine zbu rfl ?_ | refine zbv rfl ?_ | refine zbw rfl rfl rfl ?_) | ((with_reducible refine zdd ?_); first | refine zae 0 rfl rfl rfl rfl rfl rfl rfl ?_ | refine zae 1 rfl rfl rfl rfl rfl rfl rfl ?_ | refine zae 2 rfl rfl rfl rfl rfl rfl rfl ?_ | refine zae 3 rfl rfl rfl rfl rfl rfl rfl ?_ | refine zae 4 rfl rfl rfl rfl rfl rfl rfl ?_ | refine zae 5 rfl rfl rfl rfl rfl rfl rfl ?_) | ((with_reducible refine zdf ?_); first | refine zas rfl rfl (by omega) ?_ | refine zat rfl rfl (by omega) ?_) | ((with_reducible refine zdg ?_); first | refine zaq (cs := [_]) rfl (fun nb => ?_) | refine zaq (cs := [_, _]) rfl (fun nb => ?_) | refine zaq (cs := [_, _, _]) rfl (fun nb => ?_) | refine zaq (cs := [_, _, _, _]) rfl (fun nb => ?_) | refine zaq (cs := [_, _, _, _, _]) rfl (fun nb => ?_) | refine zaq (cs := [_, _, _, _, _, _]) rfl (fun nb => ?_) | refine zaq (cs := [_, _, _, _, _, _, _]) rfl (fun nb => ?_) | refine zaq (cs := [_, _, _, _, _, _, _, _]) rfl (fun nb => ?_)) | ((with_reducible refine zdh ?_); refine zar (fun nb => ?_)) | refine zcd rfl rfl ?_) | refine zch ?_ | refine zci rfl ?_ | refine zcj rfl ?_)
        exact cut_end ⟨rfl, (), ⟨rfl, rfl, rfl, rfl, rfl, rfl, rfl, rfl, rfl, bool_eq (by simp [h0]), trivial⟩, rfl⟩
    rintro _ Γ' junk rfl
    repeat (first | refine zck ?_ | refine zcl ?_ | refine zcm ?_ | refine zcn ?_ | refine zco ?_)
    refine run_join (S := Int × Sp) (fun st => [(2, ptr b2), (3, ptr b3), (4, ptr vb), (5, ptr eb), (6, .int .i64 n), (7, .int .i64 (d : Int)), (10, .slice (some ⟨lb, 0, none⟩) l.length cap), (11, .int .i64 now), (12, .int .i64 st.1)])
      (fun st Γ => Γ = [SpaceA p st.2, vV vb g.1, eV eb 0, mV nb mk] ∧ Sm st.2 24 ∧ A.popIn n d t = A.popOn n d now l g.1 st.1 st.2) ?_ ?_
    · by_cases hc : 0 < now ∧ now < d
      · refine zci (bool_eq (decide_eq_true hc)) ?_
        rw [if_pos hc] at hr
        have hN := anode_spec w0 p A hA g.2 (l.getD 0 0) (hsm5.mono (by decide))
        have hsm6 : Sm (A.node g.2 (l.getD 0 0)).2.2 24 := sm_node hsm5
        generalize A.node g.2 (l.getD 0 0) = x at hr hN hsm6
        repeat (first | refine zck ?_ | refine zcl ?_ | refine zcm ?_ | refine zcn ?_)
        first | refine zcp (by kernel_rfl) ?_ | refine zcq PP_mixed (by kernel_rfl) (by kernel_rfl) ?_
        repeat' (refine zap rfl ?_; first | refine zaa 0 rfl rfl (hrd 0 (by omega) _ (by omega)) ?_ | ((with_reducible refine zct ?_); first | refine zaj rfl ?_ | refine zak rfl ?_ | refine zal rfl ?_ | refine zam rfl rfl (fun _ => ?_) (fun _ => ?_)) | ((with_reducible refine zcu ?_); refine zan rfl ?_) | ((with_reducible refine zcv ?_); refine zan rfl ?_) | ((with_reducible refine zcw ?_); first | refine zaa 0 rfl rfl rfl ?_ | refine zaa 1 rfl rfl rfl ?_ | refine zaa 2 rfl rfl rfl ?_ | refine zaa 3 rfl rfl rfl ?_ | refine zaa 4 rfl rfl rfl ?_ | refine zaa 5 rfl rfl rfl ?_ | refine zab 0 rfl rfl rfl ?_ | refine zab 1 rfl rfl rfl ?_ | refine zab 2 rfl rfl rfl ?_ | refine zab 3 rfl rfl rfl ?_ | refine zab 4 rfl rfl rfl ?_ | refine zab 5 rfl rfl rfl ?_) | ((with_reducible refine zcx ?_); first | refine zah [0] hN rfl rfl rfl sub_nil rfl ?_ | refine zce rfl ?_) | ((with_reducible refine zcy ?_); refine zao rfl ?_) | ((with_reducible refine zcz ?_); refine zan rfl ?_) | ((with_reducible refine zda ?_); first | refine zau rfl rfl (by omega) ?_ | refine zav rfl rfl (by omega) ?_ | refine zbo rfl rfl ?_ | refine zbp rfl rfl ?_ | refine zbq rfl rfl ?_ | refine zbs rfl rfl ?_ | refine zay rfl rfl (by omega) ?_ | refine zaz rfl rfl ?_ | refine zbb rfl rfl ?_ | refine zba rfl rfl ?_) | ((with_reducible refine zdb ?_); first | refine zby rfl ?_ | refine zbx rfl ?_) | ((with_reducible refine zdc ?_); first | refine zbu rfl ?_ | refine zbv rfl ?_ | refine zbw rfl rfl rfl ?_) | ((with_reducible refine zdd ?_); first | refine zae 0 rfl rfl rfl rfl rfl rfl rfl ?_ | refine zae 1 rfl rfl rfl rfl rfl rfl rfl ?_ | refine zae 2 rfl rfl rfl rfl rfl rfl rfl ?_ | refine zae 3 rfl rfl rfl rfl rfl rfl rfl ?_ | refine zae 4 rfl rfl rfl rfl rfl rfl rfl ?_ | refine zae 5 rfl rfl rfl rfl rfl rfl rfl ?_) | ((with_reducible refine zdf ?_); first | refine zas rfl rfl (by omega) ?_ | refine zat rfl rfl (by omega) ?_) | ((with_reducible refine zdg ?_); first | refine zaq (cs := [_]) rfl (fun nb => ?_) | refine zaq (cs := [_, _]) rfl (fun nb => ?_) | refine zaq (cs := [_, _, _]) rfl (fun nb => ?_) | refine zaq (cs := [_, _, _, _]) rfl (fun nb => ?_) | refine zaq (cs := [_, _, _, _, _]) rfl (fun nb => ?_) | refine zaq (cs := [_, _, _, _, _, _]) rfl (fun nb => ?_) | refine zaq (cs := [_, _, _, _, _, _, _]) rfl (fun nb => ?_) | refine zaq (cs := [_, _, _, _, _, _, _, _]) rfl (fun nb => ?_)) | ((with_reducible refine zdh ?_); refine zar (fun nb => ?_)) | refine zcd rfl rfl ?_)
        all_goals refine zch ?_
        all_goals repeat (first | refine zck ?_ | refine zcl ?_ | refine zcm ?_ | refine zcn ?_)
        repeat (first | refine zck ?_ | refine zcl ?_ | refine zcm ?_ | refine zcn ?_)
        first | refine zcp (by kernel_rfl) ?_ | refine zcq PP_mixed (by kernel_rfl) (by kernel_rfl) ?_
        repeat' (refine zap rfl ?_; first | ((with_reducible refine zct ?_); first | refine zaj rfl ?_ | refine zak rfl ?_ | refine zal rfl ?_ | refine zam rfl rfl (fun _ => ?_) (fun _ => ?_)) | ((with_reducible refine zcu ?_); refine zan rfl ?_) | ((with_reducible refine zcv ?_); refine zan rfl ?_) | ((with_reducible refine zcw ?_); first | refine zaa 0 rfl rfl rfl ?_ | refine zaa 1 rfl rfl rfl ?_ | refine zaa 2 rfl rfl rfl ?_ | refine zaa 3 rfl rfl rfl ?_ | refine zaa 4 rfl rfl rfl ?_ | refine zaa 5 rfl rfl rfl ?_ | refine zab 0 rfl rfl rfl ?_ | refine zab 1 rfl rfl rfl ?_ | refine zab 2 rfl rfl rfl ?_ | refine zab 3 rfl rfl rfl ?_ | refine zab 4 rfl rfl rfl ?_ | refine zab 5 rfl rfl rfl ?_) | ((with_reducible refine zcx ?_); refine zce rfl ?_) | ((with_reducible refine zcy ?_); refine zao rfl ?_) | ((with_reducible refine zcz ?_); refine zan rfl ?_) | ((with_reducible refine zda ?_); first | refine zau rfl rfl (by omega) ?_ | refine zav rfl rfl (by omega) ?_ | refine zbo rfl rfl ?_ | refine zbp rfl rfl ?_ | refine zbq rfl rfl ?_ | refine zbs rfl rfl ?_ | refine zay rfl rfl (by omega) ?_ | refine zaz rfl rfl ?_ | refine zbb rfl rfl ?_ | refine zba rfl rfl ?_) | ((with_reducible refine zdb ?_); first | refine zby rfl ?_ | refine zbx rfl ?_) | ((with_reducible refine zdc ?_); first | refine zbu rfl ?_ | refine zbv rfl ?_ | refine zbw rfl rfl rfl ?_) | ((with_reducible refine zdd ?_); first | refine zae 0 rfl rfl rfl rfl rfl rfl rfl ?_ | refine zae 1 rfl rfl rfl rfl rfl rfl rfl ?_ | refine zae 2 rfl rfl rfl rfl rfl rfl rfl ?_ | refine zae 3 rfl rfl rfl rfl rfl rfl rfl ?_ | refine zae 4 rfl rfl rfl rfl rfl rfl rfl ?_ | refine zae 5 rfl rfl rfl rfl rfl rfl rfl ?_) | ((with_reducible refine zdf ?_); first | refine zas rfl rfl (by omega) ?_ | refine zat rfl rfl (by omega) ?_) | ((with_reducible refine zdg ?_); first | refine zaq (cs := [_]) rfl (fun nb => ?_) | refine zaq (cs := [_, _]) rfl (fun nb => ?_) | refine zaq (cs := [_, _, _]) rfl (fun nb => ?_) | refine zaq (cs := [_, _, _, _]) rfl (fun nb => ?_) | refine zaq (cs := [_, _, _, _, _]) rfl (fun nb => ?_) | refine zaq (cs := [_, _, _, _, _, _]) rfl (fun nb => ?_) | refine zaq (cs := [_, _, _, _, _, _, _]) rfl (fun nb => ?_) | refine zaq (cs := [_, _, _, _, _, _, _, _]) rfl (fun nb => ?_)) | ((with_reducible refine zdh ?_); refine zar (fun nb => ?_)) | refine zcd rfl rfl ?_)
        all_goals refine zch ?_
        all_goals repeat (first | refine zck ?_ | refine zcl ?_ | refine zcm ?_ | refine zcn ?_)
        refine run_condV rfl (fun hE => ?_) (fun hE => ?_)
        · have hE : x.2.1 = false := by simpa using hE
          rw [hE, if_neg (by decide)] at hr
          repeat' (first | refine zck ?_ | refine zcp (by kernel_rfl) ?_ | refine zcq PP_mixed (by kernel_rfl) (by kernel_rfl) ?_ | refine zcm ?_ | refine zcl ?_ | refine zcn ?_ | refine zco ?_ | refine zcs rfl ?_ | (refine zap rfl ?_; first | ((with_reducible refine zct ?_); first | refine zaj rfl ?_ | refine zak rfl ?_ | refine zal rfl ?_ | refine zam rfl rfl (fun _ => ?_) (fun _ => ?_)) | ((with_reducible refine zcu ?_); refine zan rfl ?_) | ((with_reducible refine zcv ?_); refine zan rfl ?_) | ((with_reducible refine zcw ?_); first | refine zaa 0 rfl rfl rfl ?_ | refine zaa 1 rfl rfl rfl ?_ | refine zaa 2 rfl rfl rfl ?_ | refine zaa 3 rfl rfl rfl ?_ | refine zaa 4 rfl rfl rfl ?_ | refine zaa 5 rfl rfl rfl ?_ | refine zab 0 rfl rfl rfl ?_ | refine zab 1 rfl rfl rfl ?_ | refine zab 2 rfl rfl rfl ?_ | refine zab 3 rfl rfl rfl ?_ | refine zab 4 rfl rfl rfl ?_ | refine zab 5 rfl rfl rfl ?_) | ((with_reducible refine zcx ?_); refine zce rfl ?_) | ((with_reducible refine zcy ?_); refine zao rfl ?_) | ((with_reducible refine zcz ?_); refine zan rfl ?_) | ((with_reducible refine zda ?_); first | refine zau rfl rfl (by omega) ?_ | refine zav rfl rfl (by omega) ?_ | refine zbo rfl rfl ?_ | refine zbp rfl rfl ?_ | refine zbq rfl rfl ?_ | refine zbs rfl rfl ?_ | refine zay rfl rfl (by omega) ?_ | refine zaz rfl rfl ?_ | refine zbb rfl rfl ?_ | refine zba rfl rfl ?_) | ((with_reducible refine zdb ?_); first | refine zby rfl ?_ | refine zbx rfl ?_) | ((with_reducible refine zdc ?_); first | refine zbu rfl ?_ | refine zbv rfl ?_ | refine zbw rfl rfl rfl ?_) | ((with_reducible refine zdd ?_); first | refine zae 0 rfl rfl rfl rfl rfl rfl rfl ?_ | refine zae 1 rfl rfl rfl rfl rfl rfl rfl ?_ | refine zae 2 rfl rfl rfl rfl rfl rfl rfl ?_ | refine zae 3 rfl rfl rfl rfl rfl rfl rfl ?_ | refine zae 4 rfl rfl rfl rfl rfl rfl rfl ?_ | refine zae 5 rfl rfl rfl rfl rfl rfl rfl ?_) | ((with_reducible refine zdf ?_); first | refine zas rfl rfl (by omega) ?_ | refine zat rfl rfl (by omega) ?_) | ((with_reducible refine zdg ?_); first | refine zaq (cs := [_]) rfl (fun nb => ?_) | refine zaq (cs := [_, _]) rfl (fun nb => ?_) | refine zaq (cs := [_, _, _]) rfl (fun nb => ?_) | refine zaq (cs := [_, _, _, _]) rfl (fun nb => ?_) | refine zaq (cs := [_, _, _, _, _]) rfl (fun nb => ?_) | refine zaq (cs := [_, _, _, _, _, _]) rfl (fun nb => ?_) | refine zaq (cs := [_, _, _, _, _, _, _]) rfl (fun nb => ?_) | refine zaq (cs := [_, _, _, _, _, _, _, _]) rfl (fun nb => ?_)) | ((with_reducible refine zdh ?_); refine zar (fun nb => ?_)) | refine zcd rfl rfl ?_) | refine zch ?_ | refine zci rfl ?_ | refine zcj rfl ?_)
          exact run_ret (fin _ _ _ _ rfl rfl hr)
        · have hE : x.2.1 = true := by simpa using hE
          rw [if_pos hE] at hr
          repeat' (first | refine zck ?_ | refine zcp (by kernel_rfl) ?_ | refine zcq PP_mixed (by kernel_rfl) (by kernel_rfl) ?_ | refine zcm ?_ | refine zcl ?_ | refine zcn ?_ | refine zco ?_ | refine zcs rfl ?_ | (refine zap rfl ?_; first | ((with_reducible refine zct ?_); first | refine zaj rfl ?_ | refine zak rfl ?_ | refine zal rfl ?_ | refine zam rfl rfl (fun _ => ?_) (fun _ => ?_)) | ((with_reducible refine zcu ?_); refine zan rfl ?_) | ((with_reducible refine zcv ?_); refine zan rfl ?_) | ((with_reducible refine zcw ?_); first | refine zaa 0 rfl rfl rfl ?_ | refine zaa 1 rfl rfl rfl ?_ | refine zaa 2 rfl rfl rfl ?_ | refine zaa 3 rfl rfl rfl ?_ | refine zaa 4 rfl rfl rfl ?_ | refine zaa 5 rfl rfl rfl ?_ | refine zab 0 rfl rfl rfl ?_ | refine zab 1 rfl rfl rfl ?_ | refine zab 2 rfl rfl rfl ?_ | refine zab 3 rfl rfl rfl ?_ | refine zab 4 rfl rfl rfl ?_ | refine zab 5 rfl rfl rfl ?_) | ((with_reducible refine zcx ?_); refine zce rfl ?_) | ((with_reducible refine zcy ?_); refine zao rfl ?_) | ((with_reducible refine zcz ?_); refine zan rfl ?_) | ((with_reducible refine zda ?_); first | refine zau rfl rfl (by omega) ?_ | refine zav rfl rfl (by omega) ?_ | refine zbo rfl rfl ?_ | refine zbp rfl rfl ?_ | refine zbq rfl rfl ?_ | refine zbs rfl rfl ?_ | refine zay rfl rfl (by omega) ?_ | refine zaz rfl rfl ?_ | refine zbb rfl rfl ?_ | refine zba rfl rfl ?_) | ((with_reducible refine zdb ?_); first | refine zby rfl ?_ | refine zbx rfl ?_) | ((with_reducible refine zdc ?_); first | refine zbu rfl ?_ | refine zbv rfl ?_ | refine zbw rfl rfl rfl ?_) | ((with_reducible refine zdd ?_); first | refine zae 0 rfl rfl rfl rfl rfl rfl rfl ?_ | refine zae 1 rfl rfl rfl rfl rfl rfl rfl ?_ | refine zae 2 rfl rfl rfl rfl rfl rfl rfl ?_ | refine zae 3 rfl rfl rfl rfl rfl rfl rfl ?_ | refine zae 4 rfl rfl rfl rfl rfl rfl rfl ?_ | refine zae 5 rfl rfl rfl rfl rfl rfl rfl ?_) | ((with_reducible refine zdf ?_); first | refine zas rfl rfl (by omega) ?_ | refine zat rfl rfl (by omega) ?_) | ((with_reducible refine zdg ?_); first | refine zaq (cs := [_]) rfl (fun nb => ?_) | refine zaq (cs := [_, _]) rfl (fun nb => ?_) | refine zaq (cs := [_, _, _]) rfl (fun nb => ?_) | refine zaq (cs := [_, _, _, _]) rfl (fun nb => ?_) | refine zaq (cs := [_, _, _, _, _]) rfl (fun nb => ?_) | refine zaq (cs := [_, _, _, _, _, _]) rfl (fun nb => ?_) | refine zaq (cs := [_, _, _, _, _, _, _]) rfl (fun nb => ?_) | refine zaq (cs := [_, _, _, _, _, _, _, _]) rfl (fun nb => ?_)) | ((with_reducible refine zdh ?_); refine zar (fun nb => ?_)) | refine zcd rfl rfl ?_) | refine zch ?_ | refine zci rfl ?_ | refine zcj rfl ?_)
          exact cut_end ⟨rfl, (x.1, x.2.2), ⟨rfl, rfl, rfl, rfl, rfl, rfl, rfl, rfl, rfl, trivial⟩, ⟨rfl, hsm6, hr⟩⟩
      · refine zcj (bool_eq (decide_eq_false hc)) ?_
        rw [if_neg hc, ← htop] at hr
        repeat (first | refine zck ?_ | refine zcl ?_ | refine zcm ?_ | refine zcn ?_ | refine zco ?_)
        exact cut_end ⟨rfl, (top, g.2), ⟨rfl, rfl, rfl, rfl, rfl, rfl, rfl, rfl, rfl, trivial⟩, ⟨rfl, hsm5, hr⟩⟩
    rintro ⟨top, s3⟩ Γ' junk ⟨rfl, hsm6, hr2⟩
    dsimp only at hsm6 hr2 ⊢
    have hr3 : A.popIn n d t = (if (A.gives n d now l 0 0 s3).1 = 0 then (g.1, 0, A.fell n d now top (A.gives n d now l 0 0 s3).2.1 (A.gives n d now l 0 0 s3).2.2) else (0, (A.gives n d now l 0 0 s3).1, (A.gives n d now l 0 0 s3).2.2)) := hr2
    repeat (first | refine zck ?_ | refine zcl ?_ | refine zcm ?_ | refine zcn ?_ | refine zco ?_)
    repeat (first | refine zck ?_ | refine zcl ?_ | refine zcm ?_ | refine zcn ?_)
    first | refine zcp (by kernel_rfl) ?_ | refine zcq PP_mixed (by kernel_rfl) (by kernel_rfl) ?_
    repeat' (refine zap rfl ?_; first | ((with_reducible refine zct ?_); first | refine zaj rfl ?_ | refine zak rfl ?_ | refine zal rfl ?_ | refine zam rfl rfl (fun _ => ?_) (fun _ => ?_)) | ((with_reducible refine zcu ?_); refine zan rfl ?_) | ((with_reducible refine zcv ?_); refine zan rfl ?_) | ((with_reducible refine zcw ?_); first | refine zaa 0 rfl rfl rfl ?_ | refine zaa 1 rfl rfl rfl ?_ | refine zaa 2 rfl rfl rfl ?_ | refine zaa 3 rfl rfl rfl ?_ | refine zaa 4 rfl rfl rfl ?_ | refine zaa 5 rfl rfl rfl ?_ | refine zab 0 rfl rfl rfl ?_ | refine zab 1 rfl rfl rfl ?_ | refine zab 2 rfl rfl rfl ?_ | refine zab 3 rfl rfl rfl ?_ | refine zab 4 rfl rfl rfl ?_ | refine zab 5 rfl rfl rfl ?_) | ((with_reducible refine zcx ?_); refine zce rfl ?_) | ((with_reducible refine zcy ?_); refine zao rfl ?_) | ((with_reducible refine zcz ?_); refine zan rfl ?_) | ((with_reducible refine zda ?_); first | refine zau rfl rfl (by omega) ?_ | refine zav rfl rfl (by omega) ?_ | refine zbo rfl rfl ?_ | refine zbp rfl rfl ?_ | refine zbq rfl rfl ?_ | refine zbs rfl rfl ?_ | refine zay rfl rfl (by omega) ?_ | refine zaz rfl rfl ?_ | refine zbb rfl rfl ?_ | refine zba rfl rfl ?_) | ((with_reducible refine zdb ?_); first | refine zby rfl ?_ | refine zbx rfl ?_) | ((with_reducible refine zdc ?_); first | refine zbu rfl ?_ | refine zbv rfl ?_ | refine zbw rfl rfl rfl ?_) | ((with_reducible refine zdd ?_); first | refine zae 0 rfl rfl rfl rfl rfl rfl rfl ?_ | refine zae 1 rfl rfl rfl rfl rfl rfl rfl ?_ | refine zae 2 rfl rfl rfl rfl rfl rfl rfl ?_ | refine zae 3 rfl rfl rfl rfl rfl rfl rfl ?_ | refine zae 4 rfl rfl rfl rfl rfl rfl rfl ?_ | refine zae 5 rfl rfl rfl rfl rfl rfl rfl ?_) | ((with_reducible refine zdf ?_); first | refine zas rfl rfl (by omega) ?_ | refine zat rfl rfl (by omega) ?_) | ((with_reducible refine zdg ?_); first | refine zaq (cs := [_]) rfl (fun nb => ?_) | refine zaq (cs := [_, _]) rfl (fun nb => ?_) | refine zaq (cs := [_, _, _]) rfl (fun nb => ?_) | refine zaq (cs := [_, _, _, _]) rfl (fun nb => ?_) | refine zaq (cs := [_, _, _, _, _]) rfl (fun nb => ?_) | refine zaq (cs := [_, _, _, _, _, _]) rfl (fun nb => ?_) | refine zaq (cs := [_, _, _, _, _, _, _]) rfl (fun nb => ?_) | refine zaq (cs := [_, _, _, _, _, _, _, _]) rfl (fun nb => ?_)) | ((with_reducible refine zdh ?_); refine zar (fun nb => ?_)) | refine zcd rfl rfl ?_)
    all_goals refine zch ?_
    all_goals repeat (first | refine zck ?_ | refine zcl ?_ | refine zcm ?_ | refine zcn ?_)
    repeat (first | refine zck ?_ | refine zcl ?_ | refine zcm ?_ | refine zcn ?_)
    first | refine zcp (by kernel_rfl) ?_ | refine zcq PP_mixed (by kernel_rfl) (by kernel_rfl) ?_
    repeat' (refine zap rfl ?_; first | ((with_reducible refine zct ?_); first | refine zaj rfl ?_ | refine zak rfl ?_ | refine zal rfl ?_ | refine zam rfl rfl (fun _ => ?_) (fun _ => ?_)) | ((with_reducible refine zcu ?_); refine zan rfl ?_) | ((with_reducible refine zcv ?_); refine zan rfl ?_) | ((with_reducible refine zcw ?_); first | refine zaa 0 rfl rfl rfl ?_ | refine zaa 1 rfl rfl rfl ?_ | refine zaa 2 rfl rfl rfl ?_ | refine zaa 3 rfl rfl rfl ?_ | refine zaa 4 rfl rfl rfl ?_ | refine zaa 5 rfl rfl rfl ?_ | refine zab 0 rfl rfl rfl ?_ | refine zab 1 rfl rfl rfl ?_ | refine zab 2 rfl rfl rfl ?_ | refine zab 3 rfl rfl rfl ?_ | refine zab 4 rfl rfl rfl ?_ | refine zab 5 rfl rfl rfl ?_) | ((with_reducible refine zcx ?_); refine zce rfl ?_) | ((with_reducible refine zcy ?_); refine zao rfl ?_) | ((with_reducible refine zcz ?_); refine zan rfl ?_) | ((with_reducible refine zda ?_); first | refine zau rfl rfl (by omega) ?_ | refine zav rfl rfl (by omega) ?_ | refine zbo rfl rfl ?_ | refine zbp rfl rfl ?_ | refine zbq rfl rfl ?_ | refine zbs rfl rfl ?_ | refine zay rfl rfl (by omega) ?_ | refine zaz rfl rfl ?_ | refine zbb rfl rfl ?_ | refine zba rfl rfl ?_) | ((with_reducible refine zdb ?_); first | refine zby rfl ?_ | refine zbx rfl ?_) | ((with_reducible refine zdc ?_); first | refine zbu rfl ?_ | refine zbv rfl ?_ | refine zbw rfl rfl rfl ?_) | ((with_reducible refine zdd ?_); first | refine zae 0 rfl rfl rfl rfl rfl rfl rfl ?_ | refine zae 1 rfl rfl rfl rfl rfl rfl rfl ?_ | refine zae 2 rfl rfl rfl rfl rfl rfl rfl ?_ | refine zae 3 rfl rfl rfl rfl rfl rfl rfl ?_ | refine zae 4 rfl rfl rfl rfl rfl rfl rfl ?_ | refine zae 5 rfl rfl rfl rfl rfl rfl rfl ?_) | ((with_reducible refine zdf ?_); first | refine zas rfl rfl (by omega) ?_ | refine zat rfl rfl (by omega) ?_) | ((with_reducible refine zdg ?_); first | refine zaq (cs := [_]) rfl (fun nb => ?_) | refine zaq (cs := [_, _]) rfl (fun nb => ?_) | refine zaq (cs := [_, _, _]) rfl (fun nb => ?_) | refine zaq (cs := [_, _, _, _]) rfl (fun nb => ?_) | refine zaq (cs := [_, _, _, _, _]) rfl (fun nb => ?_) | refine zaq (cs := [_, _, _, _, _, _]) rfl (fun nb => ?_) | refine zaq (cs := [_, _, _, _, _, _, _]) rfl (fun nb => ?_) | refine zaq (cs := [_, _, _, _, _, _, _, _]) rfl (fun nb => ?_)) | ((with_reducible refine zdh ?_); refine zar (fun nb => ?_)) | refine zcd rfl rfl ?_)
    all_goals refine zch ?_
    all_goals repeat (first | refine zck ?_ | refine zcl ?_ | refine zcm ?_ | refine zcn ?_)
    refine run_loop (S := Nat × Int × Sp) (fun st => [(2, ptr b2), (3, ptr b3), (4, ptr vb), (5, ptr eb), (6, .int .i64 n), (7, .int .i64 (d : Int)), (11, .int .i64 now), (12, .int .i64 top), (15, .int .i64 st.2.1), (84, .slice (some ⟨lb, 0, none⟩) l.length cap), (85, .int .i64 l.length), (86, .int .i64 (st.1 : Int))])
      (fun st Γ => Γ = [SpaceA p st.2.2, vV vb g.1, eV eb 0, mV nb mk] ∧ st.1 ≤ d ∧ Sm st.2.2 (4 + 3 * (d - st.1)) ∧ (0 ≤ st.2.1 ∧ st.2.1 ≤ st.1) ∧ A.gives n d now l 0 0 s3 = A.gives n d now (l.drop st.1) st.1 st.2.1 st.2.2)
      (fun st => d - st.1) (0, 0, s3) ⟨rfl, rfl, rfl, rfl, rfl, rfl, rfl, rfl, rfl, rfl, rfl, rfl, trivial⟩ ⟨rfl, Nat.zero_le _, hsm6.mono (by dsimp only; omega), ⟨Int.le_refl _, Int.le_refl _⟩, rfl⟩ ?_
    rintro ⟨i, gone, s4⟩ Γ' junk ⟨rfl, hid, hsm7, hgb, hgv⟩
    dsimp only at hid hsm7 hgb hgv ⊢
    rw [hgv] at hr3
    by_cases hi : i < d
    rotate_left
    · have hid2 : i = d := by omega
      subst hid2
      rw [show l.drop i = [] from by rw [List.drop_eq_nil_iff]; omega] at hr3
      have hg0 : A.gives n i now [] i gone s4 = (0, gone, s4) := rfl
      rw [hg0] at hr3
      dsimp only at hr3
      rw [if_pos rfl] at hr3
      repeat (first | refine zck ?_ | refine zcl ?_ | refine zcm ?_ | refine zcn ?_)
      first | refine zcp (by kernel_rfl) ?_ | refine zcq PP_mixed (by kernel_rfl) (by kernel_rfl) ?_
      repeat' (refine zap rfl ?_; first | ((with_reducible refine zct ?_); first | refine zaj rfl ?_ | refine zak rfl ?_ | refine zal rfl ?_ | refine zam rfl rfl (fun _ => ?_) (fun _ => ?_)) | ((with_reducible refine zcu ?_); refine zan rfl ?_) | ((with_reducible refine zcv ?_); refine zan rfl ?_) | ((with_reducible refine zcw ?_); first | refine zaa 0 rfl rfl rfl ?_ | refine zaa 1 rfl rfl rfl ?_ | refine zaa 2 rfl rfl rfl ?_ | refine zaa 3 rfl rfl rfl ?_ | refine zaa 4 rfl rfl rfl ?_ | refine zaa 5 rfl rfl rfl ?_ | refine zab 0 rfl rfl rfl ?_ | refine zab 1 rfl rfl rfl ?_ | refine zab 2 rfl rfl rfl ?_ | refine zab 3 rfl rfl rfl ?_ | refine zab 4 rfl rfl rfl ?_ | refine zab 5 rfl rfl rfl ?_) | ((with_reducible refine zcx ?_); refine zce rfl ?_) | ((with_reducible refine zcy ?_); refine zao rfl ?_) | ((with_reducible refine zcz ?_); refine zan rfl ?_) | ((with_reducible refine zda ?_); first | refine zau rfl rfl (by omega) ?_ | refine zav rfl rfl (by omega) ?_ | refine zbo rfl rfl ?_ | refine zbp rfl rfl ?_ | refine zbq rfl rfl ?_ | refine zbs rfl rfl ?_ | refine zay rfl rfl (by omega) ?_ | refine zaz rfl rfl ?_ | refine zbb rfl rfl ?_ | refine zba rfl rfl ?_) | ((with_reducible refine zdb ?_); first | refine zby rfl ?_ | refine zbx rfl ?_) | ((with_reducible refine zdc ?_); first | refine zbu rfl ?_ | refine zbv rfl ?_ | refine zbw rfl rfl rfl ?_) | ((with_reducible refine zdd ?_); first | refine zae 0 rfl rfl rfl rfl rfl rfl rfl ?_ | refine zae 1 rfl rfl rfl rfl rfl rfl rfl ?_ | refine zae 2 rfl rfl rfl rfl rfl rfl rfl ?_ | refine zae 3 rfl rfl rfl rfl rfl rfl rfl ?_ | refine zae 4 rfl rfl rfl rfl rfl rfl rfl ?_ | refine zae 5 rfl rfl rfl rfl rfl rfl rfl ?_) | ((with_reducible refine zdf ?_); first | refine zas rfl rfl (by omega) ?_ | refine zat rfl rfl (by omega) ?_) | ((with_reducible refine zdg ?_); first | refine zaq (cs := [_]) rfl (fun nb => ?_) | refine zaq (cs := [_, _]) rfl (fun nb => ?_) | refine zaq (cs := [_, _, _]) rfl (fun nb => ?_) | refine zaq (cs := [_, _, _, _]) rfl (fun nb => ?_) | refine zaq (cs := [_, _, _, _, _]) rfl (fun nb => ?_) | refine zaq (cs := [_, _, _, _, _, _]) rfl (fun nb => ?_) | refine zaq (cs := [_, _, _, _, _, _, _]) rfl (fun nb => ?_) | refine zaq (cs := [_, _, _, _, _, _, _, _]) rfl (fun nb => ?_)) | ((with_reducible refine zdh ?_); refine zar (fun nb => ?_)) | refine zcd rfl rfl ?_)
      all_goals refine zch ?_
      all_goals repeat (first | refine zck ?_ | refine zcl ?_ | refine zcm ?_ | refine zcn ?_)
      refine zcj (bool_eq (decide_eq_false (by omega))) ?_
      repeat (first | refine zck ?_ | refine zcl ?_ | refine zcm ?_ | refine zcn ?_ | refine zco ?_)
      refine cut_exit rfl rfl ?_
      have hsm8 : Sm s4 4 := hsm7.mono (by omega)
      unfold Ar.fell at hr3
      dsimp only at hr3
      repeat (first | refine zck ?_ | refine zcl ?_ | refine zcm ?_ | refine zcn ?_ | refine zco ?_)
      repeat (first | refine zck ?_ | refine zcl ?_ | refine zcm ?_ | refine zcn ?_)
      first | refine zcp (by kernel_rfl) ?_ | refine zcq PP_mixed (by kernel_rfl) (by kernel_rfl) ?_
      repeat' (refine zap rfl ?_; first | ((with_reducible refine zct ?_); first | refine zaj rfl ?_ | refine zak rfl ?_ | refine zal rfl ?_ | refine zam rfl rfl (fun _ => ?_) (fun _ => ?_)) | ((with_reducible refine zcu ?_); refine zan rfl ?_) | ((with_reducible refine zcv ?_); refine zan rfl ?_) | ((with_reducible refine zcw ?_); first | refine zaa 0 rfl rfl rfl ?_ | refine zaa 1 rfl rfl rfl ?_ | refine zaa 2 rfl rfl rfl ?_ | refine zaa 3 rfl rfl rfl ?_ | refine zaa 4 rfl rfl rfl ?_ | refine zaa 5 rfl rfl rfl ?_ | refine zab 0 rfl rfl rfl ?_ | refine zab 1 rfl rfl rfl ?_ | refine zab 2 rfl rfl rfl ?_ | refine zab 3 rfl rfl rfl ?_ | refine zab 4 rfl rfl rfl ?_ | refine zab 5 rfl rfl rfl ?_) | ((with_reducible refine zcx ?_); refine zce rfl ?_) | ((with_reducible refine zcy ?_); refine zao rfl ?_) | ((with_reducible refine zcz ?_); refine zan rfl ?_) | ((with_reducible refine zda ?_); first | refine zau rfl rfl (by omega) ?_ | refine zav rfl rfl (by omega) ?_ | refine zbo rfl rfl ?_ | refine zbp rfl rfl ?_ | refine zbq rfl rfl ?_ | refine zbs rfl rfl ?_ | refine zay rfl rfl (by omega) ?_ | refine zaz rfl rfl ?_ | refine zbb rfl rfl ?_ | refine zba rfl rfl ?_) | ((with_reducible refine zdb ?_); first | refine zby rfl ?_ | refine zbx rfl ?_) | ((with_reducible refine zdc ?_); first | refine zbu rfl ?_ | refine zbv rfl ?_ | refine zbw rfl rfl rfl ?_) | ((with_reducible refine zdd ?_); first | refine zae 0 rfl rfl rfl rfl rfl rfl rfl ?_ | refine zae 1 rfl rfl rfl rfl rfl rfl rfl ?_ | refine zae 2 rfl rfl rfl rfl rfl rfl rfl ?_ | refine zae 3 rfl rfl rfl rfl rfl rfl rfl ?_ | refine zae 4 rfl rfl rfl rfl rfl rfl rfl ?_ | refine zae 5 rfl rfl rfl rfl rfl rfl rfl ?_) | ((with_reducible refine zdf ?_); first | refine zas rfl rfl (by omega) ?_ | refine zat rfl rfl (by omega) ?_) | ((with_reducible refine zdg ?_); first | refine zaq (cs := [_]) rfl (fun nb => ?_) | refine zaq (cs := [_, _]) rfl (fun nb => ?_) | refine zaq (cs := [_, _, _]) rfl (fun nb => ?_) | refine zaq (cs := [_, _, _, _]) rfl (fun nb => ?_) | refine zaq (cs := [_, _, _, _, _]) rfl (fun nb => ?_) | refine zaq (cs := [_, _, _, _, _, _]) rfl (fun nb => ?_) | refine zaq (cs := [_, _, _, _, _, _, _]) rfl (fun nb => ?_) | refine zaq (cs := [_, _, _, _, _, _, _, _]) rfl (fun nb => ?_)) | ((with_reducible refine zdh ?_); refine zar (fun nb => ?_)) | refine zcd rfl rfl ?_)
      all_goals refine zch ?_
      all_goals repeat (first | refine zck ?_ | refine zcl ?_ | refine zcm ?_ | refine zcn ?_)
      refine run_join (S := Sp) (fun _ => [(2, ptr b2), (3, ptr b3), (4, ptr vb), (5, ptr eb), (6, .int .i64 n), (7, .int .i64 (i : Int)), (11, .int .i64 now), (12, .int .i64 top)])
        (fun st Γ => Γ = [SpaceA p st, vV vb g.1, eV eb 0, mV nb mk] ∧ Sm st 3 ∧ (if 0 < gone then (s4.get (A.root + 7)).2.put (A.root + 7) (w64 ((s4.get (A.root + 7)).1 - gone)) else s4) = st) ?_ ?_
      · by_cases hz : 0 < gone
        · refine zci (bool_eq (decide_eq_true hz)) ?_
          have hsm := hsm8
          repeat' (first | refine zck ?_ | refine zcp (by kernel_rfl) ?_ | refine zcq PP_mixed (by kernel_rfl) (by kernel_rfl) ?_ | refine zcm ?_ | refine zcl ?_ | refine zcn ?_ | refine zco ?_ | refine zcs rfl ?_ | (refine zap rfl ?_; first | refine reg_sub (t := 2) rfl rfl ?_ | ((with_reducible refine zct ?_); first | refine zaj rfl ?_ | refine zak rfl ?_ | refine zal rfl ?_ | refine zam rfl rfl (fun _ => ?_) (fun _ => ?_)) | ((with_reducible refine zcu ?_); refine zan rfl ?_) | ((with_reducible refine zcv ?_); refine zan rfl ?_) | ((with_reducible refine zcw ?_); first | refine zaa 0 rfl rfl rfl ?_ | refine zaa 1 rfl rfl rfl ?_ | refine zaa 2 rfl rfl rfl ?_ | refine zaa 3 rfl rfl rfl ?_ | refine zaa 4 rfl rfl rfl ?_ | refine zaa 5 rfl rfl rfl ?_ | refine zab 0 rfl rfl rfl ?_ | refine zab 1 rfl rfl rfl ?_ | refine zab 2 rfl rfl rfl ?_ | refine zab 3 rfl rfl rfl ?_ | refine zab 4 rfl rfl rfl ?_ | refine zab 5 rfl rfl rfl ?_) | ((with_reducible refine zcx ?_); first | refine zah [0] (getS w0 p _ _ (by first | exact hsm.mono (by decide) | (repeat (first | refine sm_get ?_ | refine sm_put ?_ | refine sm_node ?_ | refine sm_take ?_ | refine sm_many ?_ | refine sm_way ?_ | refine sm_poolTake ?_ | refine sm_give ?_ | refine sm_place ?_)); exact hsm.mono (by decide))) rfl rfl rfl sub_nil rfl ?_ | refine zah [0] (putS w0 p _ _ _ (by first | exact hsm.mono (by decide) | (repeat (first | refine sm_get ?_ | refine sm_put ?_ | refine sm_node ?_ | refine sm_take ?_ | refine sm_many ?_ | refine sm_way ?_ | refine sm_poolTake ?_ | refine sm_give ?_ | refine sm_place ?_)); exact hsm.mono (by decide))) rfl rfl rfl sub_nil rfl ?_ | refine zce rfl ?_) | ((with_reducible refine zcy ?_); refine zao rfl ?_) | ((with_reducible refine zcz ?_); refine zan rfl ?_) | ((with_reducible refine zda ?_); first | refine zau rfl rfl (by omega) ?_ | refine zav rfl rfl (by omega) ?_ | refine zbo rfl rfl ?_ | refine zbp rfl rfl ?_ | refine zbq rfl rfl ?_ | refine zbs rfl rfl ?_ | refine zay rfl rfl (by omega) ?_ | refine zaz rfl rfl ?_ | refine zbb rfl rfl ?_ | refine zba rfl rfl ?_) | ((with_reducible refine zdb ?_); first | refine zby rfl ?_ | refine zbx rfl ?_) | ((with_reducible refine zdc ?_); first | refine zbu rfl ?_ | refine zbv rfl ?_ | refine zbw rfl rfl rfl ?_) | ((with_reducible refine zdd ?_); first | refine zae 0 rfl rfl rfl rfl rfl rfl rfl ?_ | refine zae 1 rfl rfl rfl rfl rfl rfl rfl ?_ | refine zae 2 rfl rfl rfl rfl rfl rfl rfl ?_ | refine zae 3 rfl rfl rfl rfl rfl rfl rfl ?_ | refine zae 4 rfl rfl rfl rfl rfl rfl rfl ?_ | refine zae 5 rfl rfl rfl rfl rfl rfl rfl ?_) | ((with_reducible refine zdf ?_); first | refine zas rfl rfl (by omega) ?_ | refine zat rfl rfl (by omega) ?_) | ((with_reducible refine zdg ?_); first | refine zaq (cs := [_]) rfl (fun nb => ?_) | refine zaq (cs := [_, _]) rfl (fun nb => ?_) | refine zaq (cs := [_, _, _]) rfl (fun nb => ?_) | refine zaq (cs := [_, _, _, _]) rfl (fun nb => ?_) | refine zaq (cs := [_, _, _, _, _]) rfl (fun nb => ?_) | refine zaq (cs := [_, _, _, _, _, _]) rfl (fun nb => ?_) | refine zaq (cs := [_, _, _, _, _, _, _]) rfl (fun nb => ?_) | refine zaq (cs := [_, _, _, _, _, _, _, _]) rfl (fun nb => ?_)) | ((with_reducible refine zdh ?_); refine zar (fun nb => ?_)) | refine zcd rfl rfl ?_) | refine zch ?_ | refine zci rfl ?_ | refine zcj rfl ?_)
          exact cut_end ⟨rfl, _, ⟨rfl, rfl, rfl, rfl, rfl, rfl, rfl, rfl, trivial⟩, ⟨rfl, sm_put (sm_get hsm8), by rw [if_pos hz]; rfl⟩⟩
        · refine zcj (bool_eq (decide_eq_false hz)) ?_
          repeat (first | refine zck ?_ | refine zcl ?_ | refine zcm ?_ | refine zcn ?_ | refine zco ?_)
          exact cut_end ⟨rfl, _, ⟨rfl, rfl, rfl, rfl, rfl, rfl, rfl, rfl, trivial⟩, ⟨rfl, hsm8.mono (by decide), by rw [if_neg hz]⟩⟩
      rintro s5 Γ' junk ⟨rfl, hsm9, he5⟩
      rw [he5] at hr3
      repeat (first | refine zck ?_ | refine zcl ?_ | refine zcm ?_ | refine zcn ?_ | refine zco ?_)
      repeat (first | refine zck ?_ | refine zcl ?_ | refine zcm ?_ | refine zcn ?_)
      first | refine zcp (by kernel_rfl) ?_ | refine zcq PP_mixed (by kernel_rfl) (by kernel_rfl) ?_
      repeat' (refine zap rfl ?_; first | ((with_reducible refine zct ?_); first | refine zaj rfl ?_ | refine zak rfl ?_ | refine zal rfl ?_ | refine zam rfl rfl (fun _ => ?_) (fun _ => ?_)) | ((with_reducible refine zcu ?_); refine zan rfl ?_) | ((with_reducible refine zcv ?_); refine zan rfl ?_) | ((with_reducible refine zcw ?_); first | refine zaa 0 rfl rfl rfl ?_ | refine zaa 1 rfl rfl rfl ?_ | refine zaa 2 rfl rfl rfl ?_ | refine zaa 3 rfl rfl rfl ?_ | refine zaa 4 rfl rfl rfl ?_ | refine zaa 5 rfl rfl rfl ?_ | refine zab 0 rfl rfl rfl ?_ | refine zab 1 rfl rfl rfl ?_ | refine zab 2 rfl rfl rfl ?_ | refine zab 3 rfl rfl rfl ?_ | refine zab 4 rfl rfl rfl ?_ | refine zab 5 rfl rfl rfl ?_) | ((with_reducible refine zcx ?_); refine zce rfl ?_) | ((with_reducible refine zcy ?_); refine zao rfl ?_) | ((with_reducible refine zcz ?_); refine zan rfl ?_) | ((with_reducible refine zda ?_); first | refine zau rfl rfl (by omega) ?_ | refine zav rfl rfl (by omega) ?_ | refine zbo rfl rfl ?_ | refine zbp rfl rfl ?_ | refine zbq rfl rfl ?_ | refine zbs rfl rfl ?_ | refine zay rfl rfl (by omega) ?_ | refine zaz rfl rfl ?_ | refine zbb rfl rfl ?_ | refine zba rfl rfl ?_) | ((with_reducible refine zdb ?_); first | refine zby rfl ?_ | refine zbx rfl ?_) | ((with_reducible refine zdc ?_); first | refine zbu rfl ?_ | refine zbv rfl ?_ | refine zbw rfl rfl rfl ?_) | ((with_reducible refine zdd ?_); first | refine zae 0 rfl rfl rfl rfl rfl rfl rfl ?_ | refine zae 1 rfl rfl rfl rfl rfl rfl rfl ?_ | refine zae 2 rfl rfl rfl rfl rfl rfl rfl ?_ | refine zae 3 rfl rfl rfl rfl rfl rfl rfl ?_ | refine zae 4 rfl rfl rfl rfl rfl rfl rfl ?_ | refine zae 5 rfl rfl rfl rfl rfl rfl rfl ?_) | ((with_reducible refine zdf ?_); first | refine zas rfl rfl (by omega) ?_ | refine zat rfl rfl (by omega) ?_) | ((with_reducible refine zdg ?_); first | refine zaq (cs := [_]) rfl (fun nb => ?_) | refine zaq (cs := [_, _]) rfl (fun nb => ?_) | refine zaq (cs := [_, _, _]) rfl (fun nb => ?_) | refine zaq (cs := [_, _, _, _]) rfl (fun nb => ?_) | refine zaq (cs := [_, _, _, _, _]) rfl (fun nb => ?_) | refine zaq (cs := [_, _, _, _, _, _]) rfl (fun nb => ?_) | refine zaq (cs := [_, _, _, _, _, _, _]) rfl (fun nb => ?_) | refine zaq (cs := [_, _, _, _, _, _, _, _]) rfl (fun nb => ?_)) | ((with_reducible refine zdh ?_); refine zar (fun nb => ?_)) | refine zcd rfl rfl ?_)
      all_goals refine zch ?_
      all_goals repeat (first | refine zck ?_ | refine zcl ?_ | refine zcm ?_ | refine zcn ?_)
      refine run_join (S := Sp) (fun _ => [(2, ptr b2), (3, ptr b3), (4, ptr vb), (5, ptr eb), (6, .int .i64 n)])
        (fun st Γ => Γ = [SpaceA p st, vV vb g.1, eV eb 0, mV nb mk] ∧ Sm st 1 ∧ (if now < i then (s5.put A.root top).put (A.root + 2) now else s5) = st) ?_ ?_
      · by_cases hz : now < i
        · refine zci (bool_eq (decide_eq_true (by omega))) ?_
          have hsm := hsm9
          repeat' (first | refine zck ?_ | refine zcp (by kernel_rfl) ?_ | refine zcq PP_mixed (by kernel_rfl) (by kernel_rfl) ?_ | refine zcm ?_ | refine zcl ?_ | refine zcn ?_ | refine zco ?_ | refine zcs rfl ?_ | (refine zap rfl ?_; first | (refine zau rfl rfl (by omega) ?_; rw [Int.add_zero]) | ((with_reducible refine zct ?_); first | refine zaj rfl ?_ | refine zak rfl ?_ | refine zal rfl ?_ | refine zam rfl rfl (fun _ => ?_) (fun _ => ?_)) | ((with_reducible refine zcu ?_); refine zan rfl ?_) | ((with_reducible refine zcv ?_); refine zan rfl ?_) | ((with_reducible refine zcw ?_); first | refine zaa 0 rfl rfl rfl ?_ | refine zaa 1 rfl rfl rfl ?_ | refine zaa 2 rfl rfl rfl ?_ | refine zaa 3 rfl rfl rfl ?_ | refine zaa 4 rfl rfl rfl ?_ | refine zaa 5 rfl rfl rfl ?_ | refine zab 0 rfl rfl rfl ?_ | refine zab 1 rfl rfl rfl ?_ | refine zab 2 rfl rfl rfl ?_ | refine zab 3 rfl rfl rfl ?_ | refine zab 4 rfl rfl rfl ?_ | refine zab 5 rfl rfl rfl ?_) | ((with_reducible refine zcx ?_); first | refine zah [0] (putS w0 p _ _ _ (by first | exact hsm.mono (by decide) | (repeat (first | refine sm_get ?_ | refine sm_put ?_ | refine sm_node ?_ | refine sm_take ?_ | refine sm_many ?_ | refine sm_way ?_ | refine sm_poolTake ?_ | refine sm_give ?_ | refine sm_place ?_)); exact hsm.mono (by decide))) rfl rfl rfl sub_nil rfl ?_ | refine zce rfl ?_) | ((with_reducible refine zcy ?_); refine zao rfl ?_) | ((with_reducible refine zcz ?_); refine zan rfl ?_) | ((with_reducible refine zda ?_); first | refine zau rfl rfl (by omega) ?_ | refine zav rfl rfl (by omega) ?_ | refine zbo rfl rfl ?_ | refine zbp rfl rfl ?_ | refine zbq rfl rfl ?_ | refine zbs rfl rfl ?_ | refine zay rfl rfl (by omega) ?_ | refine zaz rfl rfl ?_ | refine zbb rfl rfl ?_ | refine zba rfl rfl ?_) | ((with_reducible refine zdb ?_); first | refine zby rfl ?_ | refine zbx rfl ?_) | ((with_reducible refine zdc ?_); first | refine zbu rfl ?_ | refine zbv rfl ?_ | refine zbw rfl rfl rfl ?_) | ((with_reducible refine zdd ?_); first | refine zae 0 rfl rfl rfl rfl rfl rfl rfl ?_ | refine zae 1 rfl rfl rfl rfl rfl rfl rfl ?_ | refine zae 2 rfl rfl rfl rfl rfl rfl rfl ?_ | refine zae 3 rfl rfl rfl rfl rfl rfl rfl ?_ | refine zae 4 rfl rfl rfl rfl rfl rfl rfl ?_ | refine zae 5 rfl rfl rfl rfl rfl rfl rfl ?_) | ((with_reducible refine zdf ?_); first | refine zas rfl rfl (by omega) ?_ | refine zat rfl rfl (by omega) ?_) | ((with_reducible refine zdg ?_); first | refine zaq (cs := [_]) rfl (fun nb => ?_) | refine zaq (cs := [_, _]) rfl (fun nb => ?_) | refine zaq (cs := [_, _, _]) rfl (fun nb => ?_) | refine zaq (cs := [_, _, _, _]) rfl (fun nb => ?_) | refine zaq (cs := [_, _, _, _, _]) rfl (fun nb => ?_) | refine zaq (cs := [_, _, _, _, _, _]) rfl (fun nb => ?_) | refine zaq (cs := [_, _, _, _, _, _, _]) rfl (fun nb => ?_) | refine zaq (cs := [_, _, _, _, _, _, _, _]) rfl (fun nb => ?_)) | ((with_reducible refine zdh ?_); refine zar (fun nb => ?_)) | refine zcd rfl rfl ?_) | refine zch ?_ | refine zci rfl ?_ | refine zcj rfl ?_)
          exact cut_end ⟨rfl, _, ⟨rfl, rfl, rfl, rfl, rfl, trivial⟩, ⟨rfl, sm_put (sm_put hsm9), by rw [if_pos hz]⟩⟩
        · refine zcj (bool_eq (decide_eq_false (by omega))) ?_
          repeat (first | refine zck ?_ | refine zcl ?_ | refine zcm ?_ | refine zcn ?_ | refine zco ?_)
          exact cut_end ⟨rfl, _, ⟨rfl, rfl, rfl, rfl, rfl, trivial⟩, ⟨rfl, hsm9.mono (by decide), by rw [if_neg hz]⟩⟩
      rintro s6 Γ' junk ⟨rfl, hsm10, he6⟩
      rw [he6] at hr3
      have hsm := hsm10
      repeat' (first | refine zck ?_ | refine zcp (by kernel_rfl) ?_ | refine zcq PP_mixed (by kernel_rfl) (by kernel_rfl) ?_ | refine zcm ?_ | refine zcl ?_ | refine zcn ?_ | refine zco ?_ | refine zcs rfl ?_ | (refine zap rfl ?_; first | ((with_reducible refine zct ?_); first | refine zaj rfl ?_ | refine zak rfl ?_ | refine zal rfl ?_ | refine zam rfl rfl (fun _ => ?_) (fun _ => ?_)) | ((with_reducible refine zcu ?_); refine zan rfl ?_) | ((with_reducible refine zcv ?_); refine zan rfl ?_) | ((with_reducible refine zcw ?_); first | refine zaa 0 rfl rfl rfl ?_ | refine zaa 1 rfl rfl rfl ?_ | refine zaa 2 rfl rfl rfl ?_ | refine zaa 3 rfl rfl rfl ?_ | refine zaa 4 rfl rfl rfl ?_ | refine zaa 5 rfl rfl rfl ?_ | refine zab 0 rfl rfl rfl ?_ | refine zab 1 rfl rfl rfl ?_ | refine zab 2 rfl rfl rfl ?_ | refine zab 3 rfl rfl rfl ?_ | refine zab 4 rfl rfl rfl ?_ | refine zab 5 rfl rfl rfl ?_) | ((with_reducible refine zcx ?_); first | refine zah [0] (putS w0 p _ _ _ (by first | exact hsm.mono (by decide) | (repeat (first | refine sm_get ?_ | refine sm_put ?_ | refine sm_node ?_ | refine sm_take ?_ | refine sm_many ?_ | refine sm_way ?_ | refine sm_poolTake ?_ | refine sm_give ?_ | refine sm_place ?_)); exact hsm.mono (by decide))) rfl rfl rfl sub_nil rfl ?_ | refine zce rfl ?_) | ((with_reducible refine zcy ?_); refine zao rfl ?_) | ((with_reducible refine zcz ?_); refine zan rfl ?_) | ((with_reducible refine zda ?_); first | refine zau rfl rfl (by omega) ?_ | refine zav rfl rfl (by omega) ?_ | refine zbo rfl rfl ?_ | refine zbp rfl rfl ?_ | refine zbq rfl rfl ?_ | refine zbs rfl rfl ?_ | refine zay rfl rfl (by omega) ?_ | refine zaz rfl rfl ?_ | refine zbb rfl rfl ?_ | refine zba rfl rfl ?_) | ((with_reducible refine zdb ?_); first | refine zby rfl ?_ | refine zbx rfl ?_) | ((with_reducible refine zdc ?_); first | refine zbu rfl ?_ | refine zbv rfl ?_ | refine zbw rfl rfl rfl ?_) | ((with_reducible refine zdd ?_); first | refine zae 0 rfl rfl rfl rfl rfl rfl rfl ?_ | refine zae 1 rfl rfl rfl rfl rfl rfl rfl ?_ | refine zae 2 rfl rfl rfl rfl rfl rfl rfl ?_ | refine zae 3 rfl rfl rfl rfl rfl rfl rfl ?_ | refine zae 4 rfl rfl rfl rfl rfl rfl rfl ?_ | refine zae 5 rfl rfl rfl rfl rfl rfl rfl ?_) | ((with_reducible refine zdf ?_); first | refine zas rfl rfl (by omega) ?_ | refine zat rfl rfl (by omega) ?_) | ((with_reducible refine zdg ?_); first | refine zaq (cs := [_]) rfl (fun nb => ?_) | refine zaq (cs := [_, _]) rfl (fun nb => ?_) | refine zaq (cs := [_, _, _]) rfl (fun nb => ?_) | refine zaq (cs := [_, _, _, _]) rfl (fun nb => ?_) | refine zaq (cs := [_, _, _, _, _]) rfl (fun nb => ?_) | refine zaq (cs := [_, _, _, _, _, _]) rfl (fun nb => ?_) | refine zaq (cs := [_, _, _, _, _, _, _]) rfl (fun nb => ?_) | refine zaq (cs := [_, _, _, _, _, _, _, _]) rfl (fun nb => ?_)) | ((with_reducible refine zdh ?_); refine zar (fun nb => ?_)) | refine zcd rfl rfl ?_) | refine zch ?_ | refine zci rfl ?_ | refine zcj rfl ?_)
      exact run_ret (fin _ _ _ _ rfl rfl hr3)
    · obtain ⟨hli, hlb1, hlb2⟩ := hgD i hi
      have hdrop : l.drop i = l.getD i 0 :: l.drop (i + 1) := by
        rw [List.drop_eq_getElem_cons (by omega)]
        congr 1
        have := hli; rw [List.getElem?_eq_getElem (by omega)] at this; exact Option.some.inj this
      rw [hdrop] at hr3 hgv
      have hgu : A.gives n d now (l.getD i 0 :: l.drop (i + 1)) i gone s4 = A.gives n d now (l.getD i 0 :: l.drop (i + 1)) i gone s4 := rfl
      conv at hgu => rhs; unfold Ar.gives
      rw [hgu] at hr3 hgv
      have hsm8 : Sm s4 (4 + 3 * (d - (i + 1)) + 3) := hsm7.mono (by omega)
      have hp := pw_pos (d - i)
      repeat (first | refine zck ?_ | refine zcl ?_ | refine zcm ?_ | refine zcn ?_)
      first | refine zcp (by kernel_rfl) ?_ | refine zcq PP_mixed (by kernel_rfl) (by kernel_rfl) ?_
      repeat' (refine zap rfl ?_; first | ((with_reducible refine zct ?_); first | refine zaj rfl ?_ | refine zak rfl ?_ | refine zal rfl ?_ | refine zam rfl rfl (fun _ => ?_) (fun _ => ?_)) | ((with_reducible refine zcu ?_); refine zan rfl ?_) | ((with_reducible refine zcv ?_); refine zan rfl ?_) | ((with_reducible refine zcw ?_); first | refine zaa 0 rfl rfl rfl ?_ | refine zaa 1 rfl rfl rfl ?_ | refine zaa 2 rfl rfl rfl ?_ | refine zaa 3 rfl rfl rfl ?_ | refine zaa 4 rfl rfl rfl ?_ | refine zaa 5 rfl rfl rfl ?_ | refine zab 0 rfl rfl rfl ?_ | refine zab 1 rfl rfl rfl ?_ | refine zab 2 rfl rfl rfl ?_ | refine zab 3 rfl rfl rfl ?_ | refine zab 4 rfl rfl rfl ?_ | refine zab 5 rfl rfl rfl ?_) | ((with_reducible refine zcx ?_); refine zce rfl ?_) | ((with_reducible refine zcy ?_); refine zao rfl ?_) | ((with_reducible refine zcz ?_); refine zan rfl ?_) | ((with_reducible refine zda ?_); first | refine zau rfl rfl (by omega) ?_ | refine zav rfl rfl (by omega) ?_ | refine zbo rfl rfl ?_ | refine zbp rfl rfl ?_ | refine zbq rfl rfl ?_ | refine zbs rfl rfl ?_ | refine zay rfl rfl (by omega) ?_ | refine zaz rfl rfl ?_ | refine zbb rfl rfl ?_ | refine zba rfl rfl ?_) | ((with_reducible refine zdb ?_); first | refine zby rfl ?_ | refine zbx rfl ?_) | ((with_reducible refine zdc ?_); first | refine zbu rfl ?_ | refine zbv rfl ?_ | refine zbw rfl rfl rfl ?_) | ((with_reducible refine zdd ?_); first | refine zae 0 rfl rfl rfl rfl rfl rfl rfl ?_ | refine zae 1 rfl rfl rfl rfl rfl rfl rfl ?_ | refine zae 2 rfl rfl rfl rfl rfl rfl rfl ?_ | refine zae 3 rfl rfl rfl rfl rfl rfl rfl ?_ | refine zae 4 rfl rfl rfl rfl rfl rfl rfl ?_ | refine zae 5 rfl rfl rfl rfl rfl rfl rfl ?_) | ((with_reducible refine zdf ?_); first | refine zas rfl rfl (by omega) ?_ | refine zat rfl rfl (by omega) ?_) | ((with_reducible refine zdg ?_); first | refine zaq (cs := [_]) rfl (fun nb => ?_) | refine zaq (cs := [_, _]) rfl (fun nb => ?_) | refine zaq (cs := [_, _, _]) rfl (fun nb => ?_) | refine zaq (cs := [_, _, _, _]) rfl (fun nb => ?_) | refine zaq (cs := [_, _, _, _, _]) rfl (fun nb => ?_) | refine zaq (cs := [_, _, _, _, _, _]) rfl (fun nb => ?_) | refine zaq (cs := [_, _, _, _, _, _, _]) rfl (fun nb => ?_) | refine zaq (cs := [_, _, _, _, _, _, _, _]) rfl (fun nb => ?_)) | ((with_reducible refine zdh ?_); refine zar (fun nb => ?_)) | refine zcd rfl rfl ?_)
      all_goals refine zch ?_
      all_goals repeat (first | refine zck ?_ | refine zcl ?_ | refine zcm ?_ | refine zcn ?_)
      refine zci (bool_eq (decide_eq_true (by omega))) ?_
      repeat (first | refine zck ?_ | refine zcl ?_ | refine zcm ?_ | refine zcn ?_ | refine zco ?_)
      repeat (first | refine zck ?_ | refine zcl ?_ | refine zcm ?_ | refine zcn ?_)
      first | refine zcp (by kernel_rfl) ?_ | refine zcq PP_mixed (by kernel_rfl) (by kernel_rfl) ?_
      repeat' (refine zap rfl ?_; first | refine zaa 0 rfl rfl (hrd i hi _ (by omega)) ?_ | ((with_reducible refine zct ?_); first | refine zaj rfl ?_ | refine zak rfl ?_ | refine zal rfl ?_ | refine zam rfl rfl (fun _ => ?_) (fun _ => ?_)) | ((with_reducible refine zcu ?_); refine zan rfl ?_) | ((with_reducible refine zcv ?_); refine zan rfl ?_) | ((with_reducible refine zcw ?_); first | refine zaa 0 rfl rfl rfl ?_ | refine zaa 1 rfl rfl rfl ?_ | refine zaa 2 rfl rfl rfl ?_ | refine zaa 3 rfl rfl rfl ?_ | refine zaa 4 rfl rfl rfl ?_ | refine zaa 5 rfl rfl rfl ?_ | refine zab 0 rfl rfl rfl ?_ | refine zab 1 rfl rfl rfl ?_ | refine zab 2 rfl rfl rfl ?_ | refine zab 3 rfl rfl rfl ?_ | refine zab 4 rfl rfl rfl ?_ | refine zab 5 rfl rfl rfl ?_) | ((with_reducible refine zcx ?_); refine zce rfl ?_) | ((with_reducible refine zcy ?_); refine zao rfl ?_) | ((with_reducible refine zcz ?_); refine zan rfl ?_) | ((with_reducible refine zda ?_); first | refine zau rfl rfl (by omega) ?_ | refine zav rfl rfl (by omega) ?_ | refine zbo rfl rfl ?_ | refine zbp rfl rfl ?_ | refine zbq rfl rfl ?_ | refine zbs rfl rfl ?_ | refine zay rfl rfl (by omega) ?_ | refine zaz rfl rfl ?_ | refine zbb rfl rfl ?_ | refine zba rfl rfl ?_) | ((with_reducible refine zdb ?_); first | refine zby rfl ?_ | refine zbx rfl ?_) | ((with_reducible refine zdc ?_); first | refine zbu rfl ?_ | refine zbv rfl ?_ | refine zbw rfl rfl rfl ?_) | ((with_reducible refine zdd ?_); first | refine zae 0 rfl rfl rfl rfl rfl rfl rfl ?_ | refine zae 1 rfl rfl rfl rfl rfl rfl rfl ?_ | refine zae 2 rfl rfl rfl rfl rfl rfl rfl ?_ | refine zae 3 rfl rfl rfl rfl rfl rfl rfl ?_ | refine zae 4 rfl rfl rfl rfl rfl rfl rfl ?_ | refine zae 5 rfl rfl rfl rfl rfl rfl rfl ?_) | ((with_reducible refine zdf ?_); first | refine zas rfl rfl (by omega) ?_ | refine zat rfl rfl (by omega) ?_) | ((with_reducible refine zdg ?_); first | refine zaq (cs := [_]) rfl (fun nb => ?_) | refine zaq (cs := [_, _]) rfl (fun nb => ?_) | refine zaq (cs := [_, _, _]) rfl (fun nb => ?_) | refine zaq (cs := [_, _, _, _]) rfl (fun nb => ?_) | refine zaq (cs := [_, _, _, _, _]) rfl (fun nb => ?_) | refine zaq (cs := [_, _, _, _, _, _]) rfl (fun nb => ?_) | refine zaq (cs := [_, _, _, _, _, _, _]) rfl (fun nb => ?_) | refine zaq (cs := [_, _, _, _, _, _, _, _]) rfl (fun nb => ?_)) | ((with_reducible refine zdh ?_); refine zar (fun nb => ?_)) | refine zcd rfl rfl ?_)
      all_goals refine zch ?_
      all_goals repeat (first | refine zck ?_ | refine zcl ?_ | refine zcm ?_ | refine zcn ?_)
      refine run_join (S := Unit) (fun _ => [(2, ptr b2), (3, ptr b3), (4, ptr vb), (5, ptr eb), (6, .int .i64 n), (7, .int .i64 (d : Int)), (11, .int .i64 now), (12, .int .i64 top), (15, .int .i64 gone), (84, .slice (some ⟨lb, 0, none⟩) l.length cap), (85, .int .i64 l.length), (86, .int .i64 (i : Int)), (17, .int .i64 (l.getD i 0)), (108, .bool (decide ((n - 1) % pw (d - i) ≠ 0 ∧ (0 < i ∨ now = d))))])
        (fun _ Γ => Γ = [SpaceA p s4, vV vb g.1, eV eb 0, mV nb mk]) ?_ ?_
      · by_cases hc1 : (n - 1) % pw (d - i) ≠ 0
        · have d1 : decide ((n - 1) % pw (d - i) ≠ 0) = true := decide_eq_true hc1
          by_cases hc2 : 0 < i
          · have d2 : decide ((0 : Int) < (i : Int)) = true := decide_eq_true (by omega)
            repeat' (first | refine zck ?_ | refine zcp (by kernel_rfl) ?_ | refine zcq PP_mixed (by kernel_rfl) (by kernel_rfl) ?_ | refine zcm ?_ | refine zcl ?_ | refine zcn ?_ | refine zco ?_ | refine zcs rfl ?_ | (refine zap rfl ?_; first | refine zac rfl hw2 (powL_rd (d - i) (by omega) _ (by omega)) ?_ | (refine zbp rfl rfl ?_; rw [d1]) | (refine zbs rfl rfl ?_; rw [d2]) | ((with_reducible refine zct ?_); first | refine zaj rfl ?_ | refine zak rfl ?_ | refine zal rfl ?_ | refine zam rfl rfl (fun _ => ?_) (fun _ => ?_)) | ((with_reducible refine zcu ?_); refine zan rfl ?_) | ((with_reducible refine zcv ?_); refine zan rfl ?_) | ((with_reducible refine zcw ?_); first | refine zaa 0 rfl rfl rfl ?_ | refine zaa 1 rfl rfl rfl ?_ | refine zaa 2 rfl rfl rfl ?_ | refine zaa 3 rfl rfl rfl ?_ | refine zaa 4 rfl rfl rfl ?_ | refine zaa 5 rfl rfl rfl ?_ | refine zab 0 rfl rfl rfl ?_ | refine zab 1 rfl rfl rfl ?_ | refine zab 2 rfl rfl rfl ?_ | refine zab 3 rfl rfl rfl ?_ | refine zab 4 rfl rfl rfl ?_ | refine zab 5 rfl rfl rfl ?_) | ((with_reducible refine zcx ?_); refine zce rfl ?_) | ((with_reducible refine zcy ?_); refine zao rfl ?_) | ((with_reducible refine zcz ?_); refine zan rfl ?_) | ((with_reducible refine zda ?_); first | refine zau rfl rfl (by omega) ?_ | refine zav rfl rfl (by omega) ?_ | refine zbo rfl rfl ?_ | refine zbp rfl rfl ?_ | refine zbq rfl rfl ?_ | refine zbs rfl rfl ?_ | refine zay rfl rfl (by omega) ?_ | refine zaz rfl rfl ?_ | refine zbb rfl rfl ?_ | refine zba rfl rfl ?_) | ((with_reducible refine zdb ?_); first | refine zby rfl ?_ | refine zbx rfl ?_) | ((with_reducible refine zdc ?_); first | refine zbu rfl ?_ | refine zbv rfl ?_ | refine zbw rfl rfl rfl ?_) | ((with_reducible refine zdd ?_); first | refine zae 0 rfl rfl rfl rfl rfl rfl rfl ?_ | refine zae 1 rfl rfl rfl rfl rfl rfl rfl ?_ | refine zae 2 rfl rfl rfl rfl rfl rfl rfl ?_ | refine zae 3 rfl rfl rfl rfl rfl rfl rfl ?_ | refine zae 4 rfl rfl rfl rfl rfl rfl rfl ?_ | refine zae 5 rfl rfl rfl rfl rfl rfl rfl ?_) | ((with_reducible refine zdf ?_); first | refine zas rfl rfl (by omega) ?_ | refine zat rfl rfl (by omega) ?_) | ((with_reducible refine zdg ?_); first | refine zaq (cs := [_]) rfl (fun nb => ?_) | refine zaq (cs := [_, _]) rfl (fun nb => ?_) | refine zaq (cs := [_, _, _]) rfl (fun nb => ?_) | refine zaq (cs := [_, _, _, _]) rfl (fun nb => ?_) | refine zaq (cs := [_, _, _, _, _]) rfl (fun nb => ?_) | refine zaq (cs := [_, _, _, _, _, _]) rfl (fun nb => ?_) | refine zaq (cs := [_, _, _, _, _, _, _]) rfl (fun nb => ?_) | refine zaq (cs := [_, _, _, _, _, _, _, _]) rfl (fun nb => ?_)) | ((with_reducible refine zdh ?_); refine zar (fun nb => ?_)) | refine zcd rfl rfl ?_) | refine zch ?_ | refine zci rfl ?_ | refine zcj rfl ?_)
            exact cut_end ⟨rfl, (), ⟨rfl, rfl, rfl, rfl, rfl, rfl, rfl, rfl, rfl, rfl, rfl, rfl, rfl, bool_eq (by simp [hc1, hc2]), trivial⟩, rfl⟩
          · have d2 : decide ((0 : Int) < (i : Int)) = false := decide_eq_false (by omega)
            by_cases hc3 : now = d
            · have d3 : decide ((now : Int) = (d : Int)) = true := decide_eq_true (by omega)
              repeat' (first | refine zck ?_ | refine zcp (by kernel_rfl) ?_ | refine zcq PP_mixed (by kernel_rfl) (by kernel_rfl) ?_ | refine zcm ?_ | refine zcl ?_ | refine zcn ?_ | refine zco ?_ | refine zcs rfl ?_ | (refine zap rfl ?_; first | refine zac rfl hw2 (powL_rd (d - i) (by omega) _ (by omega)) ?_ | (refine zbp rfl rfl ?_; rw [d1]) | (refine zbs rfl rfl ?_; rw [d2]) | (refine zbo rfl rfl ?_; rw [d3]) | ((with_reducible refine zct ?_); first | refine zaj rfl ?_ | refine zak rfl ?_ | refine zal rfl ?_ | refine zam rfl rfl (fun _ => ?_) (fun _ => ?_)) | ((with_reducible refine zcu ?_); refine zan rfl ?_) | ((with_reducible refine zcv ?_); refine zan rfl ?_) | ((with_reducible refine zcw ?_); first | refine zaa 0 rfl rfl rfl ?_ | refine zaa 1 rfl rfl rfl ?_ | refine zaa 2 rfl rfl rfl ?_ | refine zaa 3 rfl rfl rfl ?_ | refine zaa 4 rfl rfl rfl ?_ | refine zaa 5 rfl rfl rfl ?_ | refine zab 0 rfl rfl rfl ?_ | refine zab 1 rfl rfl rfl ?_ | refine zab 2 rfl rfl rfl ?_ | refine zab 3 rfl rfl rfl ?_ | refine zab 4 rfl rfl rfl ?_ | refine zab 5 rfl rfl rfl ?_) | ((with_reducible refine zcx ?_); refine zce rfl ?_) | ((with_reducible refine zcy ?_); refine zao rfl ?_) | ((with_reducible refine zcz ?_); refine zan rfl ?_) | ((with_reducible refine zda ?_); first | refine zau rfl rfl (by omega) ?_ | refine zav rfl rfl (by omega) ?_ | refine zbo rfl rfl ?_ | refine zbp rfl rfl ?_ | refine zbq rfl rfl ?_ | refine zbs rfl rfl ?_ | refine zay rfl rfl (by omega) ?_ | refine zaz rfl rfl ?_ | refine zbb rfl rfl ?_ | refine zba rfl rfl ?_) | ((with_reducible refine zdb ?_); first | refine zby rfl ?_ | refine zbx rfl ?_) | ((with_reducible refine zdc ?_); first | refine zbu rfl ?_ | refine zbv rfl ?_ | refine zbw rfl rfl rfl ?_) | ((with_reducible refine zdd ?_); first | refine zae 0 rfl rfl rfl rfl rfl rfl rfl ?_ | refine zae 1 rfl rfl rfl rfl rfl rfl rfl ?_ | refine zae 2 rfl rfl rfl rfl rfl rfl rfl ?_ | refine zae 3 rfl rfl rfl rfl rfl rfl rfl ?_ | refine zae 4 rfl rfl rfl rfl rfl rfl rfl ?_ | refine zae 5 rfl rfl rfl rfl rfl rfl rfl ?_) | ((with_reducible refine zdf ?_); first | refine zas rfl rfl (by omega) ?_ | refine zat rfl rfl (by omega) ?_) | ((with_reducible refine zdg ?_); first | refine zaq (cs := [_]) rfl (fun nb => ?_) | refine zaq (cs := [_, _]) rfl (fun nb => ?_) | refine zaq (cs := [_, _, _]) rfl (fun nb => ?_) | refine zaq (cs := [_, _, _, _]) rfl (fun nb => ?_) | refine zaq (cs := [_, _, _, _, _]) rfl (fun nb => ?_) | refine zaq (cs := [_, _, _, _, _, _]) rfl (fun nb => ?_) | refine zaq (cs := [_, _, _, _, _, _, _]) rfl (fun nb => ?_) | refine zaq (cs := [_, _, _, _, _, _, _, _]) rfl (fun nb => ?_)) | ((with_reducible refine zdh ?_); refine zar (fun nb => ?_)) | refine zcd rfl rfl ?_) | refine zch ?_ | refine zci rfl ?_ | refine zcj rfl ?_)
              exact cut_end ⟨rfl, (), ⟨rfl, rfl, rfl, rfl, rfl, rfl, rfl, rfl, rfl, rfl, rfl, rfl, rfl, bool_eq (by simp [hc1, hc3]), trivial⟩, rfl⟩
            · have d3 : decide ((now : Int) = (d : Int)) = false := decide_eq_false (by omega)
              repeat' (first | refine zck ?_ | refine zcp (by kernel_rfl) ?_ | refine zcq PP_mixed (by kernel_rfl) (by kernel_rfl) ?_ | refine zcm ?_ | refine zcl ?_ | refine zcn ?_ | refine zco ?_ | refine zcs rfl ?_ | (refine zap rfl ?_; first | refine zac rfl hw2 (powL_rd (d - i) (by omega) _ (by omega)) ?_ | (refine zbp rfl rfl ?_; rw [d1]) | (refine zbs rfl rfl ?_; rw [d2]) | (refine zbo rfl rfl ?_; rw [d3]) | ((with_reducible refine zct ?_); first | refine zaj rfl ?_ | refine zak rfl ?_ | refine zal rfl ?_ | refine zam rfl rfl (fun _ => ?_) (fun _ => ?_)) | ((with_reducible refine zcu ?_); refine zan rfl ?_) | ((with_reducible refine zcv ?_); refine zan rfl ?_) | ((with_reducible refine zcw ?_); first | refine zaa 0 rfl rfl rfl ?_ | refine zaa 1 rfl rfl rfl ?_ | refine zaa 2 rfl rfl rfl ?_ | refine zaa 3 rfl rfl rfl ?_ | refine zaa 4 rfl rfl rfl ?_ | refine zaa 5 rfl rfl rfl ?_ | refine zab 0 rfl rfl rfl ?_ | refine zab 1 rfl rfl rfl ?_ | refine zab 2 rfl rfl rfl ?_ | refine zab 3 rfl rfl rfl ?_ | refine zab 4 rfl rfl rfl ?_ | refine zab 5 rfl rfl rfl ?_) | ((with_reducible refine zcx ?_); refine zce rfl ?_) | ((with_reducible refine zcy ?_); refine zao rfl ?_) | ((with_reducible refine zcz ?_); refine zan rfl ?_) | ((with_reducible refine zda ?_); first | refine zau rfl rfl (by omega) ?_ | refine zav rfl rfl (by omega) ?_ | refine zbo rfl rfl ?_ | refine zbp rfl rfl ?_ | refine zbq rfl rfl ?_ | refine zbs rfl rfl ?_ | refine zay rfl rfl (by omega) ?_ | refine zaz rfl rfl ?_ | refine zbb rfl rfl ?_ | refine zba rfl rfl ?_) | ((with_reducible refine zdb ?_); first | refine zby rfl ?_ | refine zbx rfl ?_) | ((with_reducible refine zdc ?_); first | refine zbu rfl ?_ | refine zbv rfl ?_ | refine zbw rfl rfl rfl ?_) | ((with_reducible refine zdd ?_); first | refine zae 0 rfl rfl rfl rfl rfl rfl rfl ?_ | refine zae 1 rfl rfl rfl rfl rfl rfl rfl ?_ | refine zae 2 rfl rfl rfl rfl rfl rfl rfl ?_ | refine zae 3 rfl rfl rfl rfl rfl rfl rfl ?_ | refine zae 4 rfl rfl rfl rfl rfl rfl rfl ?_ | refine zae 5 rfl rfl rfl rfl rfl rfl rfl ?_) | ((with_reducible refine zdf ?_); first | refine zas rfl rfl (by omega) ?_ | refine zat rfl rfl (by omega) ?_) | ((with_reducible refine zdg ?_); first | refine zaq (cs := [_]) rfl (fun nb => ?_) | refine zaq (cs := [_, _]) rfl (fun nb => ?_) | refine zaq (cs := [_, _, _]) rfl (fun nb => ?_) | refine zaq (cs := [_, _, _, _]) rfl (fun nb => ?_) | refine zaq (cs := [_, _, _, _, _]) rfl (fun nb => ?_) | refine zaq (cs := [_, _, _, _, _, _]) rfl (fun nb => ?_) | refine zaq (cs := [_, _, _, _, _, _, _]) rfl (fun nb => ?_) | refine zaq (cs := [_, _, _, _, _, _, _, _]) rfl (fun nb => ?_)) | ((with_reducible refine zdh ?_); refine zar (fun nb => ?_)) | refine zcd rfl rfl ?_) | refine zch ?_ | refine zci rfl ?_ | refine zcj rfl ?_)
              exact cut_end ⟨rfl, (), ⟨rfl, rfl, rfl, rfl, rfl, rfl, rfl, rfl, rfl, rfl, rfl, rfl, rfl, bool_eq (by simp [hc2, hc3]), trivial⟩, rfl⟩
        · have d1 : decide ((n - 1) % pw (d - i) ≠ 0) = false := decide_eq_false hc1
          repeat' (first | refine zck ?_ | refine zcp (by kernel_rfl) ?_ | refine zcq PP_mixed (by kernel_rfl) (by kernel_rfl) ?_ | refine zcm ?_ | refine zcl ?_ | refine zcn ?_ | refine zco ?_ | refine zcs rfl ?_ | (refine zap rfl ?_; first | refine zac rfl hw2 (powL_rd (d - i) (by omega) _ (by omega)) ?_ | (refine zbp rfl rfl ?_; rw [d1]) | ((with_reducible refine zct ?_); first | refine zaj rfl ?_ | refine zak rfl ?_ | refine zal rfl ?_ | refine zam rfl rfl (fun _ => ?_) (fun _ => ?_)) | ((with_reducible refine zcu ?_); refine zan rfl ?_) | ((with_reducible refine zcv ?_); refine zan rfl ?_) | ((with_reducible refine zcw ?_); first | refine zaa 0 rfl rfl rfl ?_ | refine zaa 1 rfl rfl rfl ?_ | refine zaa 2 rfl rfl rfl ?_ | refine zaa 3 rfl rfl rfl ?_ | refine zaa 4 rfl rfl rfl ?_ | refine zaa 5 rfl rfl rfl ?_ | refine zab 0 rfl rfl rfl ?_ | refine zab 1 rfl rfl rfl ?_ | refine zab 2 rfl rfl rfl ?_ | refine zab 3 rfl rfl rfl ?_ | refine zab 4 rfl rfl rfl ?_ | refine zab 5 rfl rfl rfl ?_) | ((with_reducible refine zcx ?_); refine zce rfl ?_) | ((with_reducible refine zcy ?_); refine zao rfl ?_) | ((with_reducible refine zcz ?_); refine zan rfl ?_) | ((with_reducible refine zda ?_); first | refine zau rfl rfl (by omega) ?_ | refine zav rfl rfl (by omega) ?_ | refine zbo rfl rfl ?_ | refine zbp rfl rfl ?_ | refine zbq rfl rfl ?_ | refine zbs rfl rfl ?_ | refine zay rfl rfl (by omega) ?_ | refine zaz rfl rfl ?_ | refine zbb rfl rfl ?_ | refine zba rfl rfl ?_) | ((with_reducible refine zdb ?_); first | refine zby rfl ?_ | refine zbx rfl ?_) | ((with_reducible refine zdc ?_); first | refine zbu rfl ?_ | refine zbv rfl ?_ | refine zbw rfl rfl rfl ?_) | ((with_reducible refine zdd ?_); first | refine zae 0 rfl rfl rfl rfl rfl rfl rfl ?_ | refine zae 1 rfl rfl rfl rfl rfl rfl rfl ?_ | refine zae 2 rfl rfl rfl rfl rfl rfl rfl ?_ | refine zae 3 rfl rfl rfl rfl rfl rfl rfl ?_ | refine zae 4 rfl rfl rfl rfl rfl rfl rfl ?_ | refine zae 5 rfl rfl rfl rfl rfl rfl rfl ?_) | ((with_reducible refine zdf ?_); first | refine zas rfl rfl (by omega) ?_ | refine zat rfl rfl (by omega) ?_) | ((with_reducible refine zdg ?_); first | refine zaq (cs := [_]) rfl (fun nb => ?_) | refine zaq (cs := [_, _]) rfl (fun nb => ?_) | refine zaq (cs := [_, _, _]) rfl (fun nb => ?_) | refine zaq (cs := [_, _, _, _]) rfl (fun nb => ?_) | refine zaq (cs := [_, _, _, _, _]) rfl (fun nb => ?_) | refine zaq (cs := [_, _, _, _, _, _]) rfl (fun nb => ?_) | refine zaq (cs := [_, _, _, _, _, _, _]) rfl (fun nb => ?_) | refine zaq (cs := [_, _, _, _, _, _, _, _]) rfl (fun nb => ?_)) | ((with_reducible refine zdh ?_); refine zar (fun nb => ?_)) | refine zcd rfl rfl ?_) | refine zch ?_ | refine zci rfl ?_ | refine zcj rfl ?_)
          exact cut_end ⟨rfl, (), ⟨rfl, rfl, rfl, rfl, rfl, rfl, rfl, rfl, rfl, rfl, rfl, rfl, rfl, bool_eq (by simp [hc1]), trivial⟩, rfl⟩
      rintro _ Γ' junk rfl
      repeat (first | refine zck ?_ | refine zcl ?_ | refine zcm ?_ | refine zcn ?_ | refine zco ?_)
      by_cases hc : (n - 1) % pw (d - i) ≠ 0 ∧ (0 < i ∨ now = d)
      · refine zci (bool_eq (decide_eq_true hc)) ?_
        rw [if_pos hc] at hgv
        repeat' (first | refine zck ?_ | refine zcp (by kernel_rfl) ?_ | refine zcq PP_mixed (by kernel_rfl) (by kernel_rfl) ?_ | refine zcm ?_ | refine zcl ?_ | refine zcn ?_ | refine zco ?_ | refine zcs rfl ?_ | (refine zap rfl ?_; first | ((with_reducible refine zct ?_); first | refine zaj rfl ?_ | refine zak rfl ?_ | refine zal rfl ?_ | refine zam rfl rfl (fun _ => ?_) (fun _ => ?_)) | ((with_reducible refine zcu ?_); refine zan rfl ?_) | ((with_reducible refine zcv ?_); refine zan rfl ?_) | ((with_reducible refine zcw ?_); first | refine zaa 0 rfl rfl rfl ?_ | refine zaa 1 rfl rfl rfl ?_ | refine zaa 2 rfl rfl rfl ?_ | refine zaa 3 rfl rfl rfl ?_ | refine zaa 4 rfl rfl rfl ?_ | refine zaa 5 rfl rfl rfl ?_ | refine zab 0 rfl rfl rfl ?_ | refine zab 1 rfl rfl rfl ?_ | refine zab 2 rfl rfl rfl ?_ | refine zab 3 rfl rfl rfl ?_ | refine zab 4 rfl rfl rfl ?_ | refine zab 5 rfl rfl rfl ?_) | ((with_reducible refine zcx ?_); refine zce rfl ?_) | ((with_reducible refine zcy ?_); refine zao rfl ?_) | ((with_reducible refine zcz ?_); refine zan rfl ?_) | ((with_reducible refine zda ?_); first | refine zau rfl rfl (by omega) ?_ | refine zav rfl rfl (by omega) ?_ | refine zbo rfl rfl ?_ | refine zbp rfl rfl ?_ | refine zbq rfl rfl ?_ | refine zbs rfl rfl ?_ | refine zay rfl rfl (by omega) ?_ | refine zaz rfl rfl ?_ | refine zbb rfl rfl ?_ | refine zba rfl rfl ?_) | ((with_reducible refine zdb ?_); first | refine zby rfl ?_ | refine zbx rfl ?_) | ((with_reducible refine zdc ?_); first | refine zbu rfl ?_ | refine zbv rfl ?_ | refine zbw rfl rfl rfl ?_) | ((with_reducible refine zdd ?_); first | refine zae 0 rfl rfl rfl rfl rfl rfl rfl ?_ | refine zae 1 rfl rfl rfl rfl rfl rfl rfl ?_ | refine zae 2 rfl rfl rfl rfl rfl rfl rfl ?_ | refine zae 3 rfl rfl rfl rfl rfl rfl rfl ?_ | refine zae 4 rfl rfl rfl rfl rfl rfl rfl ?_ | refine zae 5 rfl rfl rfl rfl rfl rfl rfl ?_) | ((with_reducible refine zdf ?_); first | refine zas rfl rfl (by omega) ?_ | refine zat rfl rfl (by omega) ?_) | ((with_reducible refine zdg ?_); first | refine zaq (cs := [_]) rfl (fun nb => ?_) | refine zaq (cs := [_, _]) rfl (fun nb => ?_) | refine zaq (cs := [_, _, _]) rfl (fun nb => ?_) | refine zaq (cs := [_, _, _, _]) rfl (fun nb => ?_) | refine zaq (cs := [_, _, _, _, _]) rfl (fun nb => ?_) | refine zaq (cs := [_, _, _, _, _, _]) rfl (fun nb => ?_) | refine zaq (cs := [_, _, _, _, _, _, _]) rfl (fun nb => ?_) | refine zaq (cs := [_, _, _, _, _, _, _, _]) rfl (fun nb => ?_)) | ((with_reducible refine zdh ?_); refine zar (fun nb => ?_)) | refine zcd rfl rfl ?_) | refine zch ?_ | refine zci rfl ?_ | refine zcj rfl ?_)
        exact cut_end ⟨rfl, (i + 1, gone, s4), ⟨rfl, rfl, rfl, rfl, rfl, rfl, rfl, rfl, rfl, rfl, rfl, int_eq (by dsimp only; omega), trivial⟩, ⟨rfl, hi, hsm8.mono (by dsimp only; omega), ⟨hgb.1, by dsimp only; omega⟩, hgv⟩, by dsimp only; omega⟩
      · refine zcj (bool_eq (decide_eq_false hc)) ?_
        rw [if_neg hc] at hgv hr3
        have hGv := give_spec w0 p A.pool hA.1 s4 (l.getD i 0) (hsm8.mono (by omega))
        have hsm9 : Sm (A.pool.give s4 (l.getD i 0)).2 (4 + 3 * (d - (i + 1))) := sm_give hsm8
        generalize A.pool.give s4 (l.getD i 0) = y at hgv hr3 hGv hsm9
        repeat (first | refine zck ?_ | refine zcl ?_ | refine zcm ?_ | refine zcn ?_ | refine zco ?_)
        repeat (first | refine zck ?_ | refine zcl ?_ | refine zcm ?_ | refine zcn ?_)
        first | refine zcp (by kernel_rfl) ?_ | refine zcq PP_mixed (by kernel_rfl) (by kernel_rfl) ?_
        repeat' (refine zap rfl ?_; first | ((with_reducible refine zct ?_); first | refine zaj rfl ?_ | refine zak rfl ?_ | refine zal rfl ?_ | refine zam rfl rfl (fun _ => ?_) (fun _ => ?_)) | ((with_reducible refine zcu ?_); refine zan rfl ?_) | ((with_reducible refine zcv ?_); refine zan rfl ?_) | ((with_reducible refine zcw ?_); first | refine zaa 0 rfl rfl rfl ?_ | refine zaa 1 rfl rfl rfl ?_ | refine zaa 2 rfl rfl rfl ?_ | refine zaa 3 rfl rfl rfl ?_ | refine zaa 4 rfl rfl rfl ?_ | refine zaa 5 rfl rfl rfl ?_ | refine zab 0 rfl rfl rfl ?_ | refine zab 1 rfl rfl rfl ?_ | refine zab 2 rfl rfl rfl ?_ | refine zab 3 rfl rfl rfl ?_ | refine zab 4 rfl rfl rfl ?_ | refine zab 5 rfl rfl rfl ?_) | ((with_reducible refine zcx ?_); first | refine zah [0] hGv rfl rfl rfl sub_nil rfl ?_ | refine zce rfl ?_) | ((with_reducible refine zcy ?_); refine zao rfl ?_) | ((with_reducible refine zcz ?_); refine zan rfl ?_) | ((with_reducible refine zda ?_); first | refine zau rfl rfl (by omega) ?_ | refine zav rfl rfl (by omega) ?_ | refine zbo rfl rfl ?_ | refine zbp rfl rfl ?_ | refine zbq rfl rfl ?_ | refine zbs rfl rfl ?_ | refine zay rfl rfl (by omega) ?_ | refine zaz rfl rfl ?_ | refine zbb rfl rfl ?_ | refine zba rfl rfl ?_) | ((with_reducible refine zdb ?_); first | refine zby rfl ?_ | refine zbx rfl ?_) | ((with_reducible refine zdc ?_); first | refine zbu rfl ?_ | refine zbv rfl ?_ | refine zbw rfl rfl rfl ?_) | ((with_reducible refine zdd ?_); first | refine zae 0 rfl rfl rfl rfl rfl rfl rfl ?_ | refine zae 1 rfl rfl rfl rfl rfl rfl rfl ?_ | refine zae 2 rfl rfl rfl rfl rfl rfl rfl ?_ | refine zae 3 rfl rfl rfl rfl rfl rfl rfl ?_ | refine zae 4 rfl rfl rfl rfl rfl rfl rfl ?_ | refine zae 5 rfl rfl rfl rfl rfl rfl rfl ?_) | ((with_reducible refine zdf ?_); first | refine zas rfl rfl (by omega) ?_ | refine zat rfl rfl (by omega) ?_) | ((with_reducible refine zdg ?_); first | refine zaq (cs := [_]) rfl (fun nb => ?_) | refine zaq (cs := [_, _]) rfl (fun nb => ?_) | refine zaq (cs := [_, _, _]) rfl (fun nb => ?_) | refine zaq (cs := [_, _, _, _]) rfl (fun nb => ?_) | refine zaq (cs := [_, _, _, _, _]) rfl (fun nb => ?_) | refine zaq (cs := [_, _, _, _, _, _]) rfl (fun nb => ?_) | refine zaq (cs := [_, _, _, _, _, _, _]) rfl (fun nb => ?_) | refine zaq (cs := [_, _, _, _, _, _, _, _]) rfl (fun nb => ?_)) | ((with_reducible refine zdh ?_); refine zar (fun nb => ?_)) | refine zcd rfl rfl ?_)
        all_goals refine zch ?_
        all_goals repeat (first | refine zck ?_ | refine zcl ?_ | refine zcm ?_ | refine zcn ?_)
        repeat (first | refine zck ?_ | refine zcl ?_ | refine zcm ?_ | refine zcn ?_)
        first | refine zcp (by kernel_rfl) ?_ | refine zcq PP_mixed (by kernel_rfl) (by kernel_rfl) ?_
        repeat' (refine zap rfl ?_; first | ((with_reducible refine zct ?_); first | refine zaj rfl ?_ | refine zak rfl ?_ | refine zal rfl ?_ | refine zam rfl rfl (fun _ => ?_) (fun _ => ?_)) | ((with_reducible refine zcu ?_); refine zan rfl ?_) | ((with_reducible refine zcv ?_); refine zan rfl ?_) | ((with_reducible refine zcw ?_); first | refine zaa 0 rfl rfl rfl ?_ | refine zaa 1 rfl rfl rfl ?_ | refine zaa 2 rfl rfl rfl ?_ | refine zaa 3 rfl rfl rfl ?_ | refine zaa 4 rfl rfl rfl ?_ | refine zaa 5 rfl rfl rfl ?_ | refine zab 0 rfl rfl rfl ?_ | refine zab 1 rfl rfl rfl ?_ | refine zab 2 rfl rfl rfl ?_ | refine zab 3 rfl rfl rfl ?_ | refine zab 4 rfl rfl rfl ?_ | refine zab 5 rfl rfl rfl ?_) | ((with_reducible refine zcx ?_); refine zce rfl ?_) | ((with_reducible refine zcy ?_); refine zao rfl ?_) | ((with_reducible refine zcz ?_); refine zan rfl ?_) | ((with_reducible refine zda ?_); first | refine zau rfl rfl (by omega) ?_ | refine zav rfl rfl (by omega) ?_ | refine zbo rfl rfl ?_ | refine zbp rfl rfl ?_ | refine zbq rfl rfl ?_ | refine zbs rfl rfl ?_ | refine zay rfl rfl (by omega) ?_ | refine zaz rfl rfl ?_ | refine zbb rfl rfl ?_ | refine zba rfl rfl ?_) | ((with_reducible refine zdb ?_); first | refine zby rfl ?_ | refine zbx rfl ?_) | ((with_reducible refine zdc ?_); first | refine zbu rfl ?_ | refine zbv rfl ?_ | refine zbw rfl rfl rfl ?_) | ((with_reducible refine zdd ?_); first | refine zae 0 rfl rfl rfl rfl rfl rfl rfl ?_ | refine zae 1 rfl rfl rfl rfl rfl rfl rfl ?_ | refine zae 2 rfl rfl rfl rfl rfl rfl rfl ?_ | refine zae 3 rfl rfl rfl rfl rfl rfl rfl ?_ | refine zae 4 rfl rfl rfl rfl rfl rfl rfl ?_ | refine zae 5 rfl rfl rfl rfl rfl rfl rfl ?_) | ((with_reducible refine zdf ?_); first | refine zas rfl rfl (by omega) ?_ | refine zat rfl rfl (by omega) ?_) | ((with_reducible refine zdg ?_); first | refine zaq (cs := [_]) rfl (fun nb => ?_) | refine zaq (cs := [_, _]) rfl (fun nb => ?_) | refine zaq (cs := [_, _, _]) rfl (fun nb => ?_) | refine zaq (cs := [_, _, _, _]) rfl (fun nb => ?_) | refine zaq (cs := [_, _, _, _, _]) rfl (fun nb => ?_) | refine zaq (cs := [_, _, _, _, _, _]) rfl (fun nb => ?_) | refine zaq (cs := [_, _, _, _, _, _, _]) rfl (fun nb => ?_) | refine zaq (cs := [_, _, _, _, _, _, _, _]) rfl (fun nb => ?_)) | ((with_reducible refine zdh ?_); refine zar (fun nb => ?_)) | refine zcd rfl rfl ?_)
        all_goals refine zch ?_
        all_goals repeat (first | refine zck ?_ | refine zcl ?_ | refine zcm ?_ | refine zcn ?_)
        refine run_cond rfl (fun hE => ?_) (fun hE => ?_)
        · rw [if_neg hE] at hr3
          dsimp only at hr3
          rw [if_neg hE] at hr3
          repeat' (first | refine zck ?_ | refine zcp (by kernel_rfl) ?_ | refine zcq PP_mixed (by kernel_rfl) (by kernel_rfl) ?_ | refine zcm ?_ | refine zcl ?_ | refine zcn ?_ | refine zco ?_ | refine zcs rfl ?_ | (refine zap rfl ?_; first | ((with_reducible refine zct ?_); first | refine zaj rfl ?_ | refine zak rfl ?_ | refine zal rfl ?_ | refine zam rfl rfl (fun _ => ?_) (fun _ => ?_)) | ((with_reducible refine zcu ?_); refine zan rfl ?_) | ((with_reducible refine zcv ?_); refine zan rfl ?_) | ((with_reducible refine zcw ?_); first | refine zaa 0 rfl rfl rfl ?_ | refine zaa 1 rfl rfl rfl ?_ | refine zaa 2 rfl rfl rfl ?_ | refine zaa 3 rfl rfl rfl ?_ | refine zaa 4 rfl rfl rfl ?_ | refine zaa 5 rfl rfl rfl ?_ | refine zab 0 rfl rfl rfl ?_ | refine zab 1 rfl rfl rfl ?_ | refine zab 2 rfl rfl rfl ?_ | refine zab 3 rfl rfl rfl ?_ | refine zab 4 rfl rfl rfl ?_ | refine zab 5 rfl rfl rfl ?_) | ((with_reducible refine zcx ?_); refine zce rfl ?_) | ((with_reducible refine zcy ?_); refine zao rfl ?_) | ((with_reducible refine zcz ?_); refine zan rfl ?_) | ((with_reducible refine zda ?_); first | refine zau rfl rfl (by omega) ?_ | refine zav rfl rfl (by omega) ?_ | refine zbo rfl rfl ?_ | refine zbp rfl rfl ?_ | refine zbq rfl rfl ?_ | refine zbs rfl rfl ?_ | refine zay rfl rfl (by omega) ?_ | refine zaz rfl rfl ?_ | refine zbb rfl rfl ?_ | refine zba rfl rfl ?_) | ((with_reducible refine zdb ?_); first | refine zby rfl ?_ | refine zbx rfl ?_) | ((with_reducible refine zdc ?_); first | refine zbu rfl ?_ | refine zbv rfl ?_ | refine zbw rfl rfl rfl ?_) | ((with_reducible refine zdd ?_); first | refine zae 0 rfl rfl rfl rfl rfl rfl rfl ?_ | refine zae 1 rfl rfl rfl rfl rfl rfl rfl ?_ | refine zae 2 rfl rfl rfl rfl rfl rfl rfl ?_ | refine zae 3 rfl rfl rfl rfl rfl rfl rfl ?_ | refine zae 4 rfl rfl rfl rfl rfl rfl rfl ?_ | refine zae 5 rfl rfl rfl rfl rfl rfl rfl ?_) | ((with_reducible refine zdf ?_); first | refine zas rfl rfl (by omega) ?_ | refine zat rfl rfl (by omega) ?_) | ((with_reducible refine zdg ?_); first | refine zaq (cs := [_]) rfl (fun nb => ?_) | refine zaq (cs := [_, _]) rfl (fun nb => ?_) | refine zaq (cs := [_, _, _]) rfl (fun nb => ?_) | refine zaq (cs := [_, _, _, _]) rfl (fun nb => ?_) | refine zaq (cs := [_, _, _, _, _]) rfl (fun nb => ?_) | refine zaq (cs := [_, _, _, _, _, _]) rfl (fun nb => ?_) | refine zaq (cs := [_, _, _, _, _, _, _]) rfl (fun nb => ?_) | refine zaq (cs := [_, _, _, _, _, _, _, _]) rfl (fun nb => ?_)) | ((with_reducible refine zdh ?_); refine zar (fun nb => ?_)) | refine zcd rfl rfl ?_) | refine zch ?_ | refine zci rfl ?_ | refine zcj rfl ?_)
          exact run_ret (fin _ _ _ _ rfl rfl hr3)
        · have hE : y.1 = 0 := Decidable.of_not_not hE
          rw [if_pos hE] at hgv
          repeat' (first | refine zck ?_ | refine zcp (by kernel_rfl) ?_ | refine zcq PP_mixed (by kernel_rfl) (by kernel_rfl) ?_ | refine zcm ?_ | refine zcl ?_ | refine zcn ?_ | refine zco ?_ | refine zcs rfl ?_ | (refine zap rfl ?_; first | ((with_reducible refine zct ?_); first | refine zaj rfl ?_ | refine zak rfl ?_ | refine zal rfl ?_ | refine zam rfl rfl (fun _ => ?_) (fun _ => ?_)) | ((with_reducible refine zcu ?_); refine zan rfl ?_) | ((with_reducible refine zcv ?_); refine zan rfl ?_) | ((with_reducible refine zcw ?_); first | refine zaa 0 rfl rfl rfl ?_ | refine zaa 1 rfl rfl rfl ?_ | refine zaa 2 rfl rfl rfl ?_ | refine zaa 3 rfl rfl rfl ?_ | refine zaa 4 rfl rfl rfl ?_ | refine zaa 5 rfl rfl rfl ?_ | refine zab 0 rfl rfl rfl ?_ | refine zab 1 rfl rfl rfl ?_ | refine zab 2 rfl rfl rfl ?_ | refine zab 3 rfl rfl rfl ?_ | refine zab 4 rfl rfl rfl ?_ | refine zab 5 rfl rfl rfl ?_) | ((with_reducible refine zcx ?_); refine zce rfl ?_) | ((with_reducible refine zcy ?_); refine zao rfl ?_) | ((with_reducible refine zcz ?_); refine zan rfl ?_) | ((with_reducible refine zda ?_); first | refine zau rfl rfl (by omega) ?_ | refine zav rfl rfl (by omega) ?_ | refine zbo rfl rfl ?_ | refine zbp rfl rfl ?_ | refine zbq rfl rfl ?_ | refine zbs rfl rfl ?_ | refine zay rfl rfl (by omega) ?_ | refine zaz rfl rfl ?_ | refine zbb rfl rfl ?_ | refine zba rfl rfl ?_) | ((with_reducible refine zdb ?_); first | refine zby rfl ?_ | refine zbx rfl ?_) | ((with_reducible refine zdc ?_); first | refine zbu rfl ?_ | refine zbv rfl ?_ | refine zbw rfl rfl rfl ?_) | ((with_reducible refine zdd ?_); first | refine zae 0 rfl rfl rfl rfl rfl rfl rfl ?_ | refine zae 1 rfl rfl rfl rfl rfl rfl rfl ?_ | refine zae 2 rfl rfl rfl rfl rfl rfl rfl ?_ | refine zae 3 rfl rfl rfl rfl rfl rfl rfl ?_ | refine zae 4 rfl rfl rfl rfl rfl rfl rfl ?_ | refine zae 5 rfl rfl rfl rfl rfl rfl rfl ?_) | ((with_reducible refine zdf ?_); first | refine zas rfl rfl (by omega) ?_ | refine zat rfl rfl (by omega) ?_) | ((with_reducible refine zdg ?_); first | refine zaq (cs := [_]) rfl (fun nb => ?_) | refine zaq (cs := [_, _]) rfl (fun nb => ?_) | refine zaq (cs := [_, _, _]) rfl (fun nb => ?_) | refine zaq (cs := [_, _, _, _]) rfl (fun nb => ?_) | refine zaq (cs := [_, _, _, _, _]) rfl (fun nb => ?_) | refine zaq (cs := [_, _, _, _, _, _]) rfl (fun nb => ?_) | refine zaq (cs := [_, _, _, _, _, _, _]) rfl (fun nb => ?_) | refine zaq (cs := [_, _, _, _, _, _, _, _]) rfl (fun nb => ?_)) | ((with_reducible refine zdh ?_); refine zar (fun nb => ?_)) | refine zcd rfl rfl ?_) | refine zch ?_ | refine zci rfl ?_ | refine zcj rfl ?_)
          exact cut_end ⟨rfl, (i + 1, gone + 1, y.2), ⟨rfl, rfl, rfl, rfl, rfl, rfl, rfl, rfl, rfl, rfl, rfl, int_eq (by dsimp only; omega), trivial⟩, ⟨rfl, hi, hsm9, ⟨by dsimp only; omega, by dsimp only; omega⟩, hgv⟩, by dsimp only; omega⟩
end Go.Proofs.YtilnknokgflkjaaDoor

/- The walk of start. -/
namespace Go.Proofs.YtilnknokgflkjaaDoor
open Go.Vc Sim
set_option maxHeartbeats 4000000
def ar0 (n : Int) : Ar := ⟨⟨3, 24, n⟩, 8⟩
theorem u8_rem (m : Int) (h : 0 ≤ m ∧ m ≤ 255) : m.tmod 24 = m % 24 := by
  rw [Int.tmod_eq_emod_of_nonneg h.1]

theorem start_spec (w0 : World) (m : Int) (hm : 0 ≤ m ∧ m ≤ 255) :
    Vc.Fn PP w0 [] 8 [.int .u8 m] [] (fun v Γ => ∃ vb, v = .tuple #[arrV (ar0 (m % 24)), .agg #[.slice (some ⟨vb, 0, none⟩) (24 + 8 * (m % 24)).toNat (24 + 8 * (m % 24)).toNat]] ∧
      Γ = [pt vb (.cells (List.toArray (List.replicate (24 + 8 * (m % 24)).toNat (.int .i64 0))) 2 (0, 0))]) := by
  refine fn_of_run en8 fn8 rfl rfl rfl ?_
  repeat (first | refine zck ?_ | refine zcl ?_ | refine zcm ?_ | refine zcn ?_)
  first | refine zcp (by kernel_rfl) ?_ | refine zcr [(true, 0), (true, 1), (true, 2), (true, 3), (true, 4), (true, 5), (false, 8), (false, 6), (true, 7), (false, 9)] PP_mixed (by kernel_rfl) (by kernel_rfl) ?_ | refine zcq PP_mixed (by kernel_rfl) (by kernel_rfl) ?_
  repeat' (refine zap rfl ?_; first | ((with_reducible refine zcu ?_); refine zan rfl ?_) | ((with_reducible refine zcw ?_); first | refine zaa 0 rfl rfl rfl ?_ | refine zaa 1 rfl rfl rfl ?_ | refine zaa 2 rfl rfl rfl ?_ | refine zaa 3 rfl rfl rfl ?_ | refine zaa 4 rfl rfl rfl ?_ | refine zaa 5 rfl rfl rfl ?_ | refine zab 0 rfl rfl rfl ?_ | refine zab 1 rfl rfl rfl ?_ | refine zab 2 rfl rfl rfl ?_ | refine zab 3 rfl rfl rfl ?_ | refine zab 4 rfl rfl rfl ?_ | refine zab 5 rfl rfl rfl ?_) | ((with_reducible refine zcy ?_); refine zao rfl ?_) | ((with_reducible refine zda ?_); first | refine zau rfl rfl (by omega) ?_ | refine zaw rfl rfl (by omega) ?_ | refine zay rfl rfl (by omega) ?_) | ((with_reducible refine zdd ?_); first | refine zae 0 rfl rfl rfl rfl rfl rfl rfl ?_ | refine zae 1 rfl rfl rfl rfl rfl rfl rfl ?_ | refine zae 2 rfl rfl rfl rfl rfl rfl rfl ?_ | refine zae 3 rfl rfl rfl rfl rfl rfl rfl ?_ | refine zae 4 rfl rfl rfl rfl rfl rfl rfl ?_ | refine zae 5 rfl rfl rfl rfl rfl rfl rfl ?_) | ((with_reducible refine zdh ?_); refine zar (fun nb => ?_)) | refine zcb rfl ?_ | ((with_reducible refine zdi ?_); first | refine zbz rfl (by omega) ?_ | refine zca rfl ?_))
  all_goals refine zch ?_
  all_goals repeat (first | refine zck ?_ | refine zcl ?_ | refine zcm ?_ | refine zcn ?_)
  rename_i c2
  revert nb; intro c3
  repeat (first | refine zck ?_ | refine zcl ?_ | refine zcm ?_ | refine zcn ?_)
  first | refine zcp (by kernel_rfl) ?_ | refine zcr [(true, 0), (true, 1), (true, 2), (true, 3), (true, 4), (true, 5), (false, 8), (false, 6), (true, 7), (false, 9)] PP_mixed (by kernel_rfl) (by kernel_rfl) ?_ | refine zcq PP_mixed (by kernel_rfl) (by kernel_rfl) ?_
  repeat' (refine zap rfl ?_; first | refine reg_rem rfl rfl (by decide) ?_ | refine zbz rfl (by rw [u8_rem m hm]; omega) ?_ | ((with_reducible refine zcu ?_); refine zan rfl ?_) | ((with_reducible refine zcw ?_); first | refine zaa 0 rfl rfl rfl ?_ | refine zaa 1 rfl rfl rfl ?_ | refine zaa 2 rfl rfl rfl ?_ | refine zaa 3 rfl rfl rfl ?_ | refine zaa 4 rfl rfl rfl ?_ | refine zaa 5 rfl rfl rfl ?_ | refine zab 0 rfl rfl rfl ?_ | refine zab 1 rfl rfl rfl ?_ | refine zab 2 rfl rfl rfl ?_ | refine zab 3 rfl rfl rfl ?_ | refine zab 4 rfl rfl rfl ?_ | refine zab 5 rfl rfl rfl ?_) | ((with_reducible refine zcy ?_); refine zao rfl ?_) | ((with_reducible refine zda ?_); first | refine zau rfl rfl (by omega) ?_ | refine zaw rfl rfl (by omega) ?_ | refine zay rfl rfl (by omega) ?_) | ((with_reducible refine zdd ?_); first | refine zae 0 rfl rfl rfl rfl rfl rfl rfl ?_ | refine zae 1 rfl rfl rfl rfl rfl rfl rfl ?_ | refine zae 2 rfl rfl rfl rfl rfl rfl rfl ?_ | refine zae 3 rfl rfl rfl rfl rfl rfl rfl ?_ | refine zae 4 rfl rfl rfl rfl rfl rfl rfl ?_ | refine zae 5 rfl rfl rfl rfl rfl rfl rfl ?_) | ((with_reducible refine zdh ?_); refine zar (fun nb => ?_)) | refine zcb rfl ?_ | ((with_reducible refine zdi ?_); first | refine zbz rfl (by omega) ?_ | refine zca rfl ?_))
  all_goals refine zch ?_
  all_goals repeat (first | refine zck ?_ | refine zcl ?_ | refine zcm ?_ | refine zcn ?_)
  refine run_share [2] rfl ?_
  rw [u8_rem m hm]
  refine run_slots [(2, ptr c2), (3, ptr c3), (4, ptr nb)] ⟨rfl, rfl, rfl, trivial⟩ (fun junk => ?_)
  revert nb; intro c4
  refine zcr [(true, 0), (true, 1), (true, 2), (true, 3), (true, 4), (true, 5), (false, 8), (false, 6), (true, 7), (false, 9)] PP_mixed (by kernel_rfl) (by kernel_rfl) ?_
  repeat' (refine zap rfl ?_; first | refine reg_makeSlice rfl rfl rfl (by omega) (by decide) (fun nb => ?_) | ((with_reducible refine zcu ?_); refine zan rfl ?_) | ((with_reducible refine zcw ?_); first | refine zaa 0 rfl rfl rfl ?_ | refine zaa 1 rfl rfl rfl ?_ | refine zaa 2 rfl rfl rfl ?_ | refine zaa 3 rfl rfl rfl ?_ | refine zaa 4 rfl rfl rfl ?_ | refine zaa 5 rfl rfl rfl ?_ | refine zab 0 rfl rfl rfl ?_ | refine zab 1 rfl rfl rfl ?_ | refine zab 2 rfl rfl rfl ?_ | refine zab 3 rfl rfl rfl ?_ | refine zab 4 rfl rfl rfl ?_ | refine zab 5 rfl rfl rfl ?_) | ((with_reducible refine zcy ?_); refine zao rfl ?_) | ((with_reducible refine zda ?_); first | refine zau rfl rfl (by omega) ?_ | refine zaw rfl rfl (by omega) ?_ | refine zay rfl rfl (by omega) ?_) | ((with_reducible refine zdd ?_); first | refine zae 0 rfl rfl rfl rfl rfl rfl rfl ?_ | refine zae 1 rfl rfl rfl rfl rfl rfl rfl ?_ | refine zae 2 rfl rfl rfl rfl rfl rfl rfl ?_ | refine zae 3 rfl rfl rfl rfl rfl rfl rfl ?_ | refine zae 4 rfl rfl rfl rfl rfl rfl rfl ?_ | refine zae 5 rfl rfl rfl rfl rfl rfl rfl ?_) | ((with_reducible refine zdh ?_); refine zar (fun nb => ?_)) | refine zcb rfl ?_ | ((with_reducible refine zdi ?_); first | refine zbz rfl (by omega) ?_ | refine zca rfl ?_))
  refine zch ?_
  refine run_ret (leaves_nil (ends_take [2] rfl (ends_two rfl (resOk_pt 0 rfl rfl rfl) (resOk_pt 1 rfl rfl rfl) ⟨rfl, nb, rfl, rfl⟩)))
end Go.Proofs.YtilnknokgflkjaaDoor

/- The plain law of the array: memory, and the pool. -/
namespace Sim
open Go Go.Vc

def upd (m : Int → Int) (a v : Int) : Int → Int := fun x => if x = a then v else m x
theorem upd_same (m : Int → Int) (a v : Int) : upd m a v a = v := by simp [upd]
theorem upd_ne {m : Int → Int} {a v x : Int} (h : x ≠ a) : upd m a v x = m x := by simp [upd, h]

structure View (s0 : Sp) (N : Int) (s : Sp) (m : Int → Int) : Prop where
  live : s.ended = false
  kn : s.kn = s0.kn
  all : ∀ a, 0 ≤ a → a < N → ∃ w, lookW s.kn a = some w
  ext : ∃ l, s.puts = s0.puts ++ l
  val : ∀ a, 0 ≤ a → a < N → (s.value a).1 = m a

theorem lastV_snoc : ∀ (l : List (Int × Int)) (p : Int × Int) (x : Int), lastV (l ++ [p]) x = if p.1 = x then some p.2 else lastV l x
  | [], p, x => by simp [lastV]
  | (a, v) :: l, p, x => by
    simp only [List.cons_append, lastV, lastV_snoc l p x]
    by_cases h : p.1 = x <;> simp [h]

section
variable {s0 s : Sp} {N : Int} {m : Int → Int} {a v : Int}
theorem View.reads (h : View s0 N s m) (h0 : 0 ≤ a) (h1 : a < N) : s.reads a = (true, { s with rd := insI s.rd a }) := by
  obtain ⟨w, hw⟩ := h.all a h0 h1
  simp [Sp.reads, h.live, hw]
theorem View.get (h : View s0 N s m) (h0 : 0 ≤ a) (h1 : a < N) : ∃ s', s.get a = (m a, s') ∧ View s0 N s' m := by
  refine ⟨{ s with rd := insI s.rd a }, ?_, ⟨h.live, h.kn, h.all, h.ext, h.val⟩⟩
  have hv := h.val a h0 h1
  simp only [Sp.get, h.reads h0 h1, if_true]
  congr 1
theorem View.put (h : View s0 N s m) (h0 : 0 ≤ a) (h1 : a < N) (v : Int) : ∃ s', s.put a v = s' ∧ View s0 N s' (upd m a v) := by
  refine ⟨{ s with rd := insI s.rd a, puts := s.puts ++ [(a, v)] }, ?_, ⟨h.live, h.kn, h.all, ?_, fun x hx0 hx1 => ?_⟩⟩
  · simp [Sp.put, h.reads h0 h1]
  · obtain ⟨l, hl⟩ := h.ext
    exact ⟨l ++ [(a, v)], by simp [hl]⟩
  · have hv := h.val x hx0 hx1
    simp only [Sp.value, lastV_snoc] at hv ⊢
    by_cases e : a = x
    · subst e; simp [upd]
    · rw [if_neg e, upd_ne (Ne.symm e)]; exact hv
theorem View.base (h : View s0 N s m) : View s N s m := ⟨h.live, rfl, h.all, ⟨[], by simp⟩, h.val⟩
theorem View.back (h : View s0 N s m) {m0 : Int → Int} (h0 : View s0 N s0 m0) : ∃ s', s.back s0.puts.length = s' ∧ View s' N s' m0 := by
  obtain ⟨l, hl⟩ := h.ext
  have e : s.back s0.puts.length = { s with puts := s0.puts } := by
    have h1 : (s0.puts.length : Int) ≤ s.puts.length := by rw [hl]; simp; omega
    simp only [Sp.back, h.live, hl] at h1 ⊢
    rw [if_pos ⟨trivial, by omega, h1⟩]
    simp
  refine ⟨_, e, ⟨h.live, rfl, h.all, ⟨[], by simp⟩, fun x hx0 hx1 => ?_⟩⟩
  have := h0.val x hx0 hx1
  simp only [Sp.value, h.kn] at this ⊢
  exact this
end

/-! ### The pool -/
def p0 (K : Int) : Pl := ⟨3, 24, K⟩
def isN (K a : Int) : Prop := ∃ k, 0 ≤ k ∧ k < K ∧ a = 24 + 8 * k
theorem w64_id {x : Int} (h0 : -9223372036854775808 ≤ x) (h1 : x ≤ 9223372036854775807) : w64 x = x := wrap64_id h0 h1
theorem node_of {K a : Int} (hK : K ≤ 23) (h : isN K a) : (p0 K).node a = true := by
  obtain ⟨k, h0, h1, rfl⟩ := h
  have e1 : w64 (24 + 8 * k - 24) = 8 * k := by rw [w64_id (by omega) (by omega)]; omega
  have e2 : (8 * k).tdiv 8 = k := by rw [Int.mul_comm, Int.mul_tdiv_cancel _ (by decide)]
  have e3 : (8 * k).tmod 8 = 0 := by rw [Int.mul_comm]; exact Int.mul_tmod_left _ _
  have e4 : w64 k = k := w64_id (by omega) (by omega)
  show (decide ((24 : Int) ≤ 24 + 8 * k) && decide ((w64 (24 + 8 * k - 24)).tmod 8 = 0) && decide (w64 ((w64 (24 + 8 * k - 24)).tdiv 8) < K)) = true
  rw [e1, e2, e3, e4]
  simp [h1]; omega

def chain (m : Int → Int) : Int → List Int → Prop
  | p, [] => m p = 0
  | p, a :: F => m p = a ∧ chain m a F
theorem chain_eq {m m' : Int → Int} : ∀ {p : Int} {F : List Int}, m' p = m p → (∀ a ∈ F, m' a = m a) → chain m p F → chain m' p F
  | p, [], hp, _, h => by simp only [chain] at h ⊢; rw [hp]; exact h
  | p, a :: F, hp, hF, h => by
    simp only [chain] at h ⊢
    exact ⟨by rw [hp]; exact h.1, chain_eq (hF a (by simp)) (fun b hb => hF b (by simp [hb])) h.2⟩

/-- The pool in memory: its used nodes `U`, their number `c`. -/
def PoolM (K : Int) (m : Int → Int) (U : Int → Prop) (c : Int) : Prop :=
  ∃ F h, 0 ≤ h ∧ h ≤ K ∧ m 4 = h ∧ m 5 = (F.length : Int) ∧ chain m 3 F ∧ F.Nodup ∧ (∀ a ∈ F, isN h a) ∧ (∀ b, U b ↔ isN h b ∧ b ∉ F) ∧ c = h - F.length ∧ 0 ≤ c

theorem isN_mono {h K a : Int} (hk : h ≤ K) (ha : isN h a) : isN K a := by obtain ⟨k, h0, h1, h2⟩ := ha; exact ⟨k, h0, by omega, h2⟩
theorem isN_lo {K a : Int} (ha : isN K a) : 24 ≤ a ∧ a ≤ 16 + 8 * K := by obtain ⟨k, h0, h1, rfl⟩ := ha; omega
theorem PoolM.eq {K c : Int} {m m' : Int → Int} {U : Int → Prop} (h : PoolM K m U c) (h3 : m' 3 = m 3) (h4 : m' 4 = m 4) (h5 : m' 5 = m 5) (hF : ∀ a, isN K a → ¬ U a → m' a = m a) : PoolM K m' U c := by
  obtain ⟨F, h, e0, e1, e2, e3, e4, e5, e6, e7, e8, e9⟩ := h
  exact ⟨F, h, e0, e1, h4.trans e2, h5.trans e3, chain_eq h3 (fun a ha => hF a (isN_mono e1 (e6 a ha)) (fun hU => ((e7 a).1 hU).2 ha)) e4, e5, e6, e7, e8, e9⟩
theorem PoolM.node {K c : Int} {m : Int → Int} {U : Int → Prop} (h : PoolM K m U c) {a : Int} (ha : U a) : isN K a := by
  obtain ⟨F, h, e0, e1, e2, e3, e4, e5, e6, e7, e8, e9⟩ := h
  exact isN_mono e1 ((e7 a).1 ha).1

section
variable {s0 s : Sp} {K c : Int} {m : Int → Int} {U : Int → Prop}
theorem take_ok (hK : K ≤ 23) (hv : View s0 (24 + 8 * K) s m) (hp : PoolM K m U c) (hc : c < K) :
    ∃ a s' m', (p0 K).take s = (a, 0, s') ∧ View s0 (24 + 8 * K) s' m' ∧ isN K a ∧ ¬ U a ∧ PoolM K m' (fun b => U b ∨ b = a) (c + 1) ∧ (∀ x, x ≠ 3 → x ≠ 4 → x ≠ 5 → m' x = m x) := by
  obtain ⟨F, h, e0, e1, e2, e3, e4, e5, e6, e7, e8, e9⟩ := hp
  obtain ⟨s1, hs1, hv1⟩ := hv.get (a := 3) (by omega) (by omega)
  cases F with
  | nil =>
    simp only [chain] at e4
    obtain ⟨s2, hs2, hv2⟩ := hv1.get (a := 4) (by omega) (by omega)
    obtain ⟨s3, hs3, hv3⟩ := hv2.put (a := 4) (by omega) (by omega) (h + 1)
    simp only [List.length_nil] at e8 e3
    refine ⟨24 + 8 * h, s3, _, ?_, hv3, ⟨h, e0, by omega, rfl⟩, fun hU => ?_, ?_, fun x h3 h4 h5 => upd_ne h4⟩
    · simp only [Pl.take, p0, hs1, e4, ne_eq, not_true_eq_false, if_false]
      simp only [show (3 : Int) + 1 = 4 from rfl, hs2, e2, hs3]
      rw [if_neg (by omega)]
    · obtain ⟨⟨k, h0, h1, h2⟩, _⟩ := (e7 _).1 hU
      omega
    · refine ⟨[], h + 1, by omega, by omega, upd_same _ _ _, by rw [upd_ne (by decide), e3]; simp, ?_, List.nodup_nil, by simp, fun b => ?_, by simp; omega, by omega⟩
      · simp only [chain]; rw [upd_ne (by decide), e4]
      · show (U b ∨ b = 24 + 8 * h) ↔ _
        rw [e7]
        simp only [List.not_mem_nil, not_false_eq_true, and_true]
        constructor
        · rintro (⟨k, h0, h1, h2⟩ | h0)
          · exact ⟨k, h0, by omega, h2⟩
          · exact ⟨h, e0, by omega, h0⟩
        · rintro ⟨k, h0, h1, h2⟩
          by_cases hk : k = h
          · subst hk; exact .inr h2
          · exact .inl ⟨k, h0, by omega, h2⟩
  | cons a F =>
    obtain ⟨c1, c2⟩ := e4
    have ha := e6 a (by simp)
    have haK := isN_mono e1 ha
    have hal := isN_lo haK
    obtain ⟨s2, hs2, hv2⟩ := hv1.get (a := a) (by omega) (by omega)
    obtain ⟨s3, hs3, hv3⟩ := hv2.put (a := 3) (by omega) (by omega) (m a)
    obtain ⟨s4, hs4, hv4⟩ := hv3.get (a := 5) (by omega) (by omega)
    obtain ⟨s5, hs5, hv5⟩ := hv4.put (a := 5) (by omega) (by omega) (w64 (upd m 3 (m a) 5 + -1))
    have h5 : upd m 3 (m a) 5 = m 5 := upd_ne (by decide)
    have hl : ((a :: F).length : Int) = F.length + 1 := by simp
    refine ⟨a, s5, _, ?_, hv5, haK, fun hU => ((e7 a).1 hU).2 (by simp), ?_, fun x h3 h4 h5 => by rw [upd_ne h5, upd_ne h3]⟩
    · simp only [Pl.take, p0, hs1, c1]
      rw [if_pos (by omega), show (⟨3, 24, K⟩ : Pl) = p0 K from rfl, node_of hK haK]
      simp only [if_true, hs2, hs3, Pl.add, p0, show (3 : Int) + 2 = 5 from rfl, hs4, hs5]
    · have hnd := List.nodup_cons.1 e5
      refine ⟨F, h, e0, e1, ?_, ?_, ?_, hnd.2, fun b hb => e6 b (by simp [hb]), fun b => ?_, by rw [hl] at e8; omega, by omega⟩
      · rw [upd_ne (by decide), upd_ne (by decide), e2]
      · rw [upd_same, h5, e3, hl, w64_id (by omega) (by omega)]; omega
      · have key : ∀ x, x ≠ 3 → x ≠ 5 → upd (upd m 3 (m a)) 5 (w64 (upd m 3 (m a) 5 + -1)) x = m x := fun x h3 h5 => by rw [upd_ne h5, upd_ne h3]
        cases F with
        | nil =>
          simp only [chain] at c2 ⊢
          rw [upd_ne (by decide), upd_same, c2]
        | cons b F =>
          simp only [chain] at c2 ⊢
          refine ⟨by rw [upd_ne (by decide), upd_same, c2.1], chain_eq ?_ (fun x hx => ?_) c2.2⟩
          · have := isN_lo (e6 b (by simp)); exact key b (by omega) (by omega)
          · have := isN_lo (e6 x (by simp [hx])); exact key x (by omega) (by omega)
      · show (U b ∨ b = _) ↔ _
        rw [e7]
        constructor
        · rintro (⟨h1, h2⟩ | rfl)
          · exact ⟨h1, fun h3 => h2 (by simp [h3])⟩
          · exact ⟨ha, hnd.1⟩
        · rintro ⟨h1, h2⟩
          by_cases hb : b = a
          · exact .inr hb
          · exact .inl ⟨h1, by simp [hb, h2]⟩

theorem take_full (_hK : K ≤ 23) (hv : View s0 (24 + 8 * K) s m) (hp : PoolM K m U c) (hc : K ≤ c) : ∃ s', (p0 K).take s = (0, 9, s') ∧ View s0 (24 + 8 * K) s' m := by
  obtain ⟨F, h, e0, e1, e2, e3, e4, e5, e6, e7, e8, e9⟩ := hp
  have hF : F = [] := List.length_eq_zero_iff.1 (by omega)
  subst hF
  simp only [chain] at e4
  obtain ⟨s1, hs1, hv1⟩ := hv.get (a := 3) (by omega) (by omega)
  obtain ⟨s2, hs2, hv2⟩ := hv1.get (a := 4) (by omega) (by omega)
  refine ⟨s2, ?_, hv2⟩
  simp only [List.length_nil] at e8
  simp only [Pl.take, p0, hs1, e4, ne_eq, not_true_eq_false, if_false, show (3 : Int) + 1 = 4 from rfl, hs2, e2]
  rw [if_pos (by omega)]

theorem give_ok (hK : K ≤ 23) (hv : View s0 (24 + 8 * K) s m) (hp : PoolM K m U c) (hc : 1 ≤ c) {a : Int} (ha : U a) :
    ∃ s' m', (p0 K).give s a = (0, s') ∧ View s0 (24 + 8 * K) s' m' ∧ PoolM K m' (fun b => U b ∧ b ≠ a) (c - 1) ∧ (∀ x, x ≠ 3 → x ≠ 5 → x ≠ a → m' x = m x) := by
  obtain ⟨F, h, e0, e1, e2, e3, e4, e5, e6, e7, e8, e9⟩ := hp
  obtain ⟨hN, hnF⟩ := (e7 a).1 ha
  have haK := isN_mono e1 hN
  have hal := isN_lo haK
  obtain ⟨s1, hs1, hv1⟩ := hv.get (a := 3) (by omega) (by omega)
  obtain ⟨s2, hs2, hv2⟩ := hv1.put (a := a) (by omega) (by omega) (m 3)
  obtain ⟨s3, hs3, hv3⟩ := hv2.put (a := 3) (by omega) (by omega) a
  obtain ⟨s4, hs4, hv4⟩ := hv3.get (a := 5) (by omega) (by omega)
  obtain ⟨s5, hs5, hv5⟩ := hv4.put (a := 5) (by omega) (by omega) (w64 (upd (upd m a (m 3)) 3 a 5 + 1))
  have h5 : upd (upd m a (m 3)) 3 a 5 = m 5 := by rw [upd_ne (by decide), upd_ne (by omega)]
  have key : ∀ x, x ≠ 3 → x ≠ 5 → x ≠ a → upd (upd (upd m a (m 3)) 3 a) 5 (w64 (upd (upd m a (m 3)) 3 a 5 + 1)) x = m x := fun x h3 h5 ha => by rw [upd_ne h5, upd_ne h3, upd_ne ha]
  refine ⟨s5, _, ?_, hv5, ⟨a :: F, h, e0, e1, ?_, ?_, ?_, List.nodup_cons.2 ⟨hnF, e5⟩, ?_, fun b => ?_, by simp; omega, by omega⟩, key⟩
  · simp only [Pl.give, Pl.add]
    rw [node_of hK haK]
    simp only [p0, if_true, hs1, hs2, hs3, show (3 : Int) + 2 = 5 from rfl, hs4, hs5]
  · rw [key 4 (by decide) (by decide) (by omega), e2]
  · rw [upd_same, h5, e3, w64_id (by omega) (by omega)]; simp
  · simp only [chain]
    have hka : upd (upd (upd m a (m 3)) 3 a) 5 (w64 (upd (upd m a (m 3)) 3 a 5 + 1)) a = m 3 := by rw [upd_ne (by omega), upd_ne (by omega), upd_same]
    refine ⟨by rw [upd_ne (by decide), upd_same], ?_⟩
    cases F with
    | nil => simp only [chain] at e4 ⊢; rw [hka, e4]
    | cons b F =>
      simp only [chain] at e4 ⊢
      have hb := isN_lo (e6 b (by simp))
      refine ⟨hka.trans e4.1, chain_eq (key b (by omega) (by omega) (fun e => hnF (by simp [e]))) (fun x hx => ?_) e4.2⟩
      have := isN_lo (e6 x (by simp [hx]))
      exact key x (by omega) (by omega) (fun e => hnF (by simp [← e, hx]))
  · intro b hb
    rcases List.mem_cons.1 hb with rfl | hb
    · exact hN
    · exact e6 b hb
  · show (U b ∧ b ≠ a) ↔ _
    rw [e7]
    simp only [List.mem_cons, not_or]
    constructor
    · rintro ⟨⟨h1, h2⟩, h3⟩; exact ⟨h1, h3, h2⟩
    · rintro ⟨h1, h3, h2⟩; exact ⟨⟨h1, h2⟩, h3⟩

theorem left_ok (hK : K ≤ 23) (hv : View s0 (24 + 8 * K) s m) (hp : PoolM K m U c) : ∃ s', (p0 K).left s = (K - c, s') ∧ View s0 (24 + 8 * K) s' m := by
  obtain ⟨F, h, e0, e1, e2, e3, e4, e5, e6, e7, e8, e9⟩ := hp
  obtain ⟨s1, hs1, hv1⟩ := hv.get (a := 5) (by omega) (by omega)
  obtain ⟨s2, hs2, hv2⟩ := hv1.get (a := 4) (by omega) (by omega)
  refine ⟨s2, ?_, hv2⟩
  simp only [Pl.left, p0, show (3 : Int) + 2 = 5 from rfl, show (3 : Int) + 1 = 4 from rfl, hs1, hs2]
  congr 1
  rw [e3, e2, w64_id (x := (F.length : Int) + K) (by omega) (by omega), w64_id (by omega) (by omega)]
  omega
end
end Sim

/- The plain law of the array: the tree, its numbers. -/
namespace Sim
open Go Go.Vc
def depN (n : Nat) : Nat := if n = 0 then 0 else if n ≤ 8 then 1 else if n ≤ 64 then 2 else if n ≤ 512 then 3 else 4
theorem dep_nat (n : Nat) : dep (n : Int) = depN n := by
  unfold dep depN
  (repeat' split) <;> first | rfl | omega
theorem pw_nat : ∀ d, d ≤ 4 → pw d = ((8 ^ d : Nat) : Int)
  | 0, _ => rfl
  | 1, _ => rfl
  | 2, _ => rfl
  | 3, _ => rfl
  | 4, _ => rfl
  | d + 5, h => absurd h (by omega)
/-- The number of nodes, the levels from `d` on counted with element `n`. -/
def C (n : Nat) : Nat → Nat → Nat
  | 0, _ => 0
  | D + 1, d => C n D d + (if d ≤ D + 1 then n / 8 ^ (D + 1) + 1 else (n + 8 ^ (D + 1) - 1) / 8 ^ (D + 1))
def T (n : Nat) : Nat := C n (depN n) (depN n + 1)
set_option maxRecDepth 100000
theorem T_zero : T 0 = 0 := rfl
theorem grown_C : ∀ n, n < 200 → depN n < depN (n + 1) → C n (depN (n + 1)) (depN (n + 1)) = T n + 1 := by decide
theorem grown_d : ∀ n, n < 200 → depN n < depN (n + 1) → depN (n + 1) = depN n + 1 := by decide
theorem same_C : ∀ n, n < 200 → ¬ depN n < depN (n + 1) → C n (depN (n + 1)) (depN (n + 1)) = T n := by decide
theorem same_d : ∀ n, n < 200 → ¬ depN n < depN (n + 1) → depN (n + 1) = depN n := by decide
theorem step_C : ∀ n, n < 200 → ∀ d, d < 4 → 1 ≤ d → d < depN (n + 1) → C n (depN (n + 1)) d = C n (depN (n + 1)) (d + 1) + (if n % 8 ^ d = 0 then 1 else 0) := by decide
theorem last_C : ∀ n, n < 200 → C n (depN (n + 1)) 1 = T (n + 1) := by decide
theorem top_C : ∀ n, n < 200 → n < 8 ^ depN (n + 1) ∧ 1 ≤ depN (n + 1) ∧ depN (n + 1) ≤ 3 := by decide
theorem dep_C : ∀ n, n < 200 → n ≤ 8 ^ depN n ∧ depN n ≤ 3 ∧ (0 < n → 1 ≤ depN n) := by decide
theorem C_ge (n : Nat) : ∀ D d, 1 ≤ D → (n + 7) / 8 ≤ C n D d
  | 0, d, h => absurd h (by omega)
  | 1, d, _ => by
    simp only [C]
    split <;> omega
  | D + 2, d, _ => by
    have := C_ge n (D + 1) d (by omega)
    rw [C]; omega
theorem T_small {n : Nat} (h : T n ≤ 23) : n < 200 := by
  by_cases h0 : depN n = 0
  · unfold depN at h0; (repeat' split at h0) <;> omega
  · have := C_ge n (depN n) (depN n + 1) (by omega)
    unfold T at h; omega
end Sim

/- The plain law of the array: Push. -/
namespace Sim
open Go Go.Vc
def a0 (K : Int) : Ar := ⟨p0 K, 8⟩
section
variable {s0 s : Sp} {K c : Int} {m : Int → Int} {U : Int → Prop}
theorem atake_ok (hK : K ≤ 23) (hv : View s0 (24 + 8 * K) s m) (hp : PoolM K m U c) (hc : c < K) (h15 : m 15 = c) :
    ∃ a s' m', (a0 K).take s = (a, 0, s') ∧ View s0 (24 + 8 * K) s' m' ∧ isN K a ∧ ¬ U a ∧ PoolM K m' (fun b => U b ∨ b = a) (c + 1) ∧ m' 15 = c + 1 ∧ (∀ x, x ≠ 3 → x ≠ 4 → x ≠ 5 → x ≠ 15 → m' x = m x) := by
  have hc0 : 0 ≤ c := by obtain ⟨F, h, e0, e1, e2, e3, e4, e5, e6, e7, e8, e9⟩ := hp; exact e9
  obtain ⟨a, s1, m1, e1, hv1, hn, hU, hp1, hx⟩ := take_ok hK hv hp hc
  obtain ⟨s2, hs2, hv2⟩ := hv1.get (a := 15) (by omega) (by omega)
  obtain ⟨s3, hs3, hv3⟩ := hv2.put (a := 15) (by omega) (by omega) (w64 (m1 15 + 1))
  have h1 : m1 15 = c := by rw [hx 15 (by decide) (by decide) (by decide), h15]
  refine ⟨a, s3, _, ?_, hv3, hn, hU, ?_, ?_, fun x h3 h4 h5 h15 => by rw [upd_ne h15, hx x h3 h4 h5]⟩
  · simp only [Ar.take, a0, e1, if_true, show (8 : Int) + 7 = 15 from rfl, hs2, hs3]
  · exact hp1.eq (upd_ne (by decide)) (upd_ne (by decide)) (upd_ne (by decide)) (fun x hxN _ => upd_ne (by have := isN_lo hxN; omega))
  · rw [upd_same, h1, w64_id (by omega) (by omega)]
theorem atake_full (hK : K ≤ 23) (hv : View s0 (24 + 8 * K) s m) (hp : PoolM K m U c) (hc : K ≤ c) : ∃ s', (a0 K).take s = (0, 9, s') ∧ View s0 (24 + 8 * K) s' m := by
  obtain ⟨s1, e1, hv1⟩ := take_full hK hv hp hc
  exact ⟨s1, by simp [Ar.take, a0, e1], hv1⟩
theorem anode_ok (hK : K ≤ 23) (hv : View s0 (24 + 8 * K) s m) {cell : Int} (h0 : 0 ≤ cell) (h1 : cell < 24 + 8 * K) (hn : isN K (m cell)) : ∃ s', (a0 K).node s cell = (m cell, true, s') ∧ View s0 (24 + 8 * K) s' m := by
  obtain ⟨s1, e1, hv1⟩ := hv.get h0 h1
  have hl := isN_lo hn
  refine ⟨s1, ?_, hv1⟩
  simp only [Ar.node, e1]
  rw [if_neg (by omega)]
  simp [a0, node_of hK hn]
theorem many_ok2 (hK0 : 0 ≤ K) (hv : View s0 (24 + 8 * K) s m) {n : Nat} (hn : n ≤ 4096) (h9 : m 9 = n) (h10 : m 10 = depN n) : ∃ s', (a0 K).many s = ((n : Int), (depN n : Int), true, s') ∧ View s0 (24 + 8 * K) s' m := by
  obtain ⟨s1, e1, hv1⟩ := hv.get (a := 9) (by omega) (by omega)
  obtain ⟨s2, e2, hv2⟩ := hv1.get (a := 10) (by omega) (by omega)
  refine ⟨s2, ?_, hv2⟩
  simp only [Ar.many, a0, show (8 : Int) + 1 = 9 from rfl, show (8 : Int) + 2 = 10 from rfl, e1, e2, h9, h10, dep_nat]
  rw [if_neg (by omega)]
  simp
end

structure Tree (K : Int) (m : Int → Int) (D : Nat) (V : Nat → Nat → Prop) (ad : Nat → Nat → Int) : Prop where
  pos : ∀ d j, V d j → 1 ≤ d ∧ d ≤ D
  isn : ∀ d j, V d j → isN K (ad d j)
  inj : ∀ d j d' j', V d j → V d' j' → ad d j = ad d' j' → d = d' ∧ j = j'
  par : ∀ d j, V d j → d < D → V (d + 1) (j / 8)
  link : ∀ d j, V d j → d < D → m (ad (d + 1) (j / 8) + ((j % 8 : Nat) : Int)) = ad d j

/-- The nodes that element `n` needs from level `d` on, and those of the elements before. -/
def vP (n D d : Nat) (d' j : Nat) : Prop := 1 ≤ d' ∧ d' ≤ D ∧ (j * 8 ^ d' < n ∨ (d ≤ d' ∧ j = n / 8 ^ d'))

structure Mid (K : Int) (m : Int → Int) (l : List Int) (D d : Nat) (ad : Nat → Nat → Int) : Prop where
  tree : Tree K m D (vP l.length D d) ad
  leaf : ∀ i v, l[i]? = some v → m (ad 1 (i / 8) + ((i % 8 : Nat) : Int)) = v
  pool : PoolM K m (fun b => ∃ d' j, vP l.length D d d' j ∧ b = ad d' j) (C l.length D d)
  many : m 9 = l.length
  depth : m 10 = D
  top : m 8 = ad D 0
  nodes : m 15 = C l.length D d

/-- The address of a cell of a node tells the node and the digit. -/
theorem cell_inj {K a b : Int} {i j : Nat} (ha : isN K a) (hb : isN K b) (hi : i < 8) (hj : j < 8) (h : a + (i : Int) = b + (j : Int)) : a = b ∧ i = j := by
  obtain ⟨k, _, _, rfl⟩ := ha
  obtain ⟨q, _, _, rfl⟩ := hb
  omega

theorem vP_mono {n D d d' j : Nat} (h : vP n D (d + 1) d' j) : vP n D d d' j := ⟨h.1, h.2.1, h.2.2.imp id fun h => ⟨by omega, h.2⟩⟩
theorem vP_new {n D d d' j : Nat} (h : vP n D d d' j) : vP n D (d + 1) d' j ∨ (d' = d ∧ j = n / 8 ^ d) := by
  obtain ⟨h1, h2, h3⟩ := h
  rcases h3 with h3 | ⟨h3, h4⟩
  · exact .inl ⟨h1, h2, .inl h3⟩
  · by_cases e : d' = d
    · subst e; exact .inr ⟨rfl, h4⟩
    · exact .inl ⟨h1, h2, .inr ⟨by omega, h4⟩⟩
theorem mul_div_eq {n d : Nat} (h : n % 8 ^ d = 0) : n / 8 ^ d * 8 ^ d = n := Nat.div_mul_cancel (Nat.dvd_of_mod_eq_zero h)
theorem vP_old {n D d : Nat} (h1 : 1 ≤ d) (h2 : d ≤ D) (h : n % 8 ^ d ≠ 0) : vP n D (d + 1) d (n / 8 ^ d) := by
  refine ⟨h1, h2, .inl ?_⟩
  have := Nat.div_add_mod n (8 ^ d)
  rw [Nat.mul_comm] at this
  omega
theorem vP_not {n D d : Nat} (h : n % 8 ^ d = 0) : ¬ vP n D (d + 1) d (n / 8 ^ d) := by
  rintro ⟨_, _, h3 | ⟨h3, _⟩⟩
  · rw [mul_div_eq h] at h3; omega
  · omega
theorem div_step (n d : Nat) : n / 8 ^ d / 8 = n / 8 ^ (d + 1) := by rw [Nat.div_div_eq_div_mul, Nat.pow_succ]
end Sim

/- The plain law of the array: one level of Push. -/
namespace Sim
open Go Go.Vc
section
variable {s0 s : Sp} {K : Int} {m : Int → Int} {l : List Int} {D d : Nat} {ad : Nat → Nat → Int}

theorem Mid.add_old (h : Mid K m l D (d + 1) ad) (h1 : 1 ≤ d) (h2 : d < D) (hz : l.length % 8 ^ d ≠ 0) (hC : C l.length D d = C l.length D (d + 1)) : Mid K m l D d ad := by
  have hV : ∀ d' j, vP l.length D d d' j ↔ vP l.length D (d + 1) d' j := fun d' j => ⟨fun h => by
    rcases vP_new h with h | ⟨rfl, rfl⟩
    · exact h
    · exact vP_old h1 (Nat.le_of_lt h2) hz, vP_mono⟩
  have hV2 : vP l.length D d = vP l.length D (d + 1) := by funext d' j; exact propext (hV d' j)
  obtain ⟨t, lf, p, a, b, c, e⟩ := h
  rw [← hV2] at t p
  rw [← hC] at p e
  exact ⟨t, lf, p, a, b, c, e⟩

theorem Mid.add_new (h : Mid K m l D (d + 1) ad) (h1 : 1 ≤ d) (h2 : d < D) (hz : l.length % 8 ^ d = 0) (_hn : l.length < 8 ^ D) (hC : C l.length D d = C l.length D (d + 1) + 1) {a : Int} {m1 : Int → Int} (haN : isN K a)
    (hU : ¬ ∃ d' j, vP l.length D (d + 1) d' j ∧ a = ad d' j) (hp : PoolM K m1 (fun b => (∃ d' j, vP l.length D (d + 1) d' j ∧ b = ad d' j) ∨ b = a) (C l.length D (d + 1) + 1)) (h15 : m1 15 = C l.length D (d + 1) + 1)
    (hx : ∀ x, x ≠ 3 → x ≠ 4 → x ≠ 5 → x ≠ 15 → m1 x = m x) :
    Mid K (upd m1 (ad (d + 1) (l.length / 8 ^ (d + 1)) + ((l.length / 8 ^ d % 8 : Nat) : Int)) a) l D d (fun d' j => if d' = d ∧ j = l.length / 8 ^ d then a else ad d' j) := by
  obtain ⟨t, lf, p, q9, q10, q8, q15⟩ := h
  have hpar : vP l.length D (d + 1) (d + 1) (l.length / 8 ^ (d + 1)) := ⟨by omega, by omega, .inr ⟨Nat.le_refl _, rfl⟩⟩
  have hpN := t.isn _ _ hpar
  have hpl := isN_lo hpN
  generalize hcell : ad (d + 1) (l.length / 8 ^ (d + 1)) + ((l.length / 8 ^ d % 8 : Nat) : Int) = cell
  have hcl : 24 ≤ cell := by omega
  have hnew : ∀ d' j, vP l.length D (d + 1) d' j → ¬ (d' = d ∧ j = l.length / 8 ^ d) := fun d' j hv e => by
    obtain ⟨rfl, rfl⟩ := e; exact vP_not hz hv
  have had : ∀ d' j, vP l.length D (d + 1) d' j → (if d' = d ∧ j = l.length / 8 ^ d then a else ad d' j) = ad d' j := fun d' j hv => if_neg (hnew d' j hv)
  have hne : ∀ d' j, vP l.length D (d + 1) d' j → a ≠ ad d' j := fun d' j hv e => hU ⟨d', j, hv, e⟩
  -- another cell of the tree is another cell
  have hoc : ∀ d' j' (k : Nat), vP l.length D (d + 1) d' j' → k < 8 → ¬ (d' = d + 1 ∧ j' = l.length / 8 ^ (d + 1) ∧ k = l.length / 8 ^ d % 8) → upd m1 cell a (ad d' j' + (k : Int)) = m (ad d' j' + (k : Int)) := fun d' j' k hv hk hno => by
    have hl := isN_lo (t.isn _ _ hv)
    rw [upd_ne, hx _ (by omega) (by omega) (by omega) (by omega)]
    intro e
    rw [← hcell] at e
    obtain ⟨e1, e2⟩ := cell_inj (t.isn _ _ hv) hpN hk (Nat.mod_lt _ (by decide)) e
    obtain ⟨e3, e4⟩ := t.inj _ _ _ _ hv hpar e1
    exact hno ⟨e3, e4, e2⟩
  refine ⟨⟨fun d' j hv => ⟨hv.1, hv.2.1⟩, ?_, ?_, ?_, ?_⟩, ?_, ?_, ?_, ?_, ?_, ?_⟩
  · intro d' j hv
    rcases vP_new hv with hv | ⟨rfl, rfl⟩
    · rw [had _ _ hv]; exact t.isn _ _ hv
    · rw [if_pos ⟨rfl, rfl⟩]; exact haN
  · intro d1 j1 d2 j2 hv1 hv2 e
    rcases vP_new hv1 with hv1 | ⟨rfl, rfl⟩ <;> rcases vP_new hv2 with hv2 | ⟨e5, e6⟩
    · rw [had _ _ hv1, had _ _ hv2] at e; exact t.inj _ _ _ _ hv1 hv2 e
    · rw [had _ _ hv1, if_pos ⟨e5, e6⟩] at e; exact absurd e.symm (hne _ _ hv1)
    · rw [if_pos ⟨rfl, rfl⟩, had _ _ hv2] at e; exact absurd e (hne _ _ hv2)
    · exact ⟨e5.symm, e6.symm⟩
  · intro d' j hv hd
    rcases vP_new hv with hv | ⟨rfl, rfl⟩
    · exact vP_mono (t.par _ _ hv hd)
    · rw [div_step]; exact vP_mono hpar
  · intro d' j hv hd
    rcases vP_new hv with hv | ⟨rfl, rfl⟩
    · have hv2 := t.par _ _ hv hd
      rw [had _ _ hv, had _ _ hv2, hoc _ _ _ hv2 (Nat.mod_lt _ (by decide)), t.link _ _ hv hd]
      rintro ⟨e1, e2, e3⟩
      have e4 : d' = d := by omega
      subst e4
      refine hnew _ _ hv ⟨rfl, ?_⟩
      have e5 := div_step l.length d'
      omega
    · rw [if_neg (by omega), if_pos ⟨rfl, rfl⟩, div_step, hcell, upd_same]
  · intro i v hi
    have hil := (List.getElem?_eq_some_iff.1 hi).1
    have hv : vP l.length D (d + 1) 1 (i / 8) := ⟨Nat.le_refl _, by omega, .inl (by omega)⟩
    rw [had _ _ hv, hoc _ _ _ hv (Nat.mod_lt _ (by decide)) (by omega), lf i v hi]
  · rw [hC]
    have hp2 : PoolM K (upd m1 cell a) (fun b => (∃ d' j, vP l.length D (d + 1) d' j ∧ b = ad d' j) ∨ b = a) ((C l.length D (d + 1) + 1 : Nat) : Int) := by
      have := hp.eq (m' := upd m1 cell a) (upd_ne (by omega)) (upd_ne (by omega)) (upd_ne (by omega)) (fun x hxN hxU => upd_ne (fun e => ?_))
      · simpa using this
      · rw [← hcell] at e
        have e' : x + ((0 : Nat) : Int) = ad (d + 1) (l.length / 8 ^ (d + 1)) + ((l.length / 8 ^ d % 8 : Nat) : Int) := by simpa using e
        obtain ⟨e1, _⟩ := cell_inj hxN hpN (by decide) (Nat.mod_lt _ (by decide)) e'
        exact hxU (.inl ⟨_, _, hpar, e1⟩)
    have hUU : (fun b => ∃ d' j, vP l.length D d d' j ∧ b = if d' = d ∧ j = l.length / 8 ^ d then a else ad d' j) = (fun b => (∃ d' j, vP l.length D (d + 1) d' j ∧ b = ad d' j) ∨ b = a) := by
      funext b
      refine propext ⟨?_, ?_⟩
      · rintro ⟨d', j, hv, rfl⟩
        rcases vP_new hv with hv | ⟨rfl, rfl⟩
        · exact .inl ⟨d', j, hv, had _ _ hv⟩
        · exact .inr (if_pos ⟨rfl, rfl⟩)
      · rintro (⟨d', j, hv, rfl⟩ | rfl)
        · exact ⟨d', j, vP_mono hv, (had _ _ hv).symm⟩
        · exact ⟨d, l.length / 8 ^ d, ⟨h1, by omega, .inr ⟨Nat.le_refl _, rfl⟩⟩, (if_pos ⟨rfl, rfl⟩).symm⟩
    rw [hUU]; exact hp2
  · rw [upd_ne (by omega), hx 9 (by decide) (by decide) (by decide) (by decide), q9]
  · rw [upd_ne (by omega), hx 10 (by decide) (by decide) (by decide) (by decide), q10]
  · rw [upd_ne (by omega), hx 8 (by decide) (by decide) (by decide) (by decide), q8]
    rw [if_neg (by omega)]
  · rw [upd_ne (by omega), h15, hC]; rfl
end
end Sim

/- The plain law of the array: down. -/
namespace Sim
open Go Go.Vc
section
variable {s0 s : Sp} {K : Int} {m : Int → Int} {l : List Int} {ad : Nat → Nat → Int}
theorem dig_nat (n d : Nat) (hd : d ≤ 4) : dig (n : Int) (d + 1) = ((n / 8 ^ d % 8 : Nat) : Int) := by
  unfold dig
  rw [Nat.add_sub_cancel, pw_nat d hd]
  omega

theorem T_le_C (n : Nat) (hn : n < 200) : ∀ d, d < 4 → 1 ≤ d → d ≤ depN (n + 1) → C n (depN (n + 1)) d ≤ T (n + 1) := by
  intro d
  induction d with
  | zero => intro _ h _; omega
  | succ d ih =>
    intro h1 h2 h3
    by_cases hd : d = 0
    · subst hd; rw [last_C n hn]; exact Nat.le_refl _
    · have := step_C n hn d (by omega) (by omega) (by omega)
      have := ih (by omega) (by omega) (by omega)
      split at * <;> omega

theorem down_ok (hK0 : 0 ≤ K) (hK : K ≤ 23) (hn : l.length < 200) : ∀ (d : Nat) (ad : Nat → Nat → Int) (m : Int → Int) (s : Sp), d + 1 ≤ depN (l.length + 1) → View s0 (24 + 8 * K) s m → Mid K m l (depN (l.length + 1)) (d + 1) ad →
    (∃ s' m' ad', (a0 K).down (l.length : Int) (d + 1) (ad (d + 1) (l.length / 8 ^ (d + 1))) s = (0, ad' 1 (l.length / 8), s') ∧ View s0 (24 + 8 * K) s' m' ∧ Mid K m' l (depN (l.length + 1)) 1 ad' ∧ (T (l.length + 1) : Int) ≤ K) ∨
    (∃ s' m', (a0 K).down (l.length : Int) (d + 1) (ad (d + 1) (l.length / 8 ^ (d + 1))) s = (9, 0, s') ∧ View s0 (24 + 8 * K) s' m' ∧ K < (T (l.length + 1) : Int))
  | 0, ad, m, s, hd, hv, hM => by
    left
    refine ⟨s, m, ad, by simp [Ar.down], hv, hM, ?_⟩
    have h1 := last_C _ hn
    obtain ⟨F, h, e0, e1, e2, e3, e4, e5, e6, e7, e8, e9⟩ := hM.pool
    rw [h1] at e8; omega
  | d + 1, ad, m, s, hd, hv, hM => by
    obtain ⟨t1, t2, t3⟩ := top_C _ hn
    have hpar : vP l.length (depN (l.length + 1)) (d + 1 + 1) (d + 1 + 1) (l.length / 8 ^ (d + 1 + 1)) := ⟨by omega, by omega, .inr ⟨Nat.le_refl _, rfl⟩⟩
    have hpN := hM.tree.isn _ _ hpar
    have hpl := isN_lo hpN
    have hdg := dig_nat l.length (d + 1) (by omega)
    have hst := step_C l.length hn (d + 1) (by omega) (by omega) (by omega)
    have hmod : l.length / 8 ^ (d + 1) % 8 < 8 := Nat.mod_lt _ (by decide)
    have hpw : pw (d + 1 + 1 - 1) = ((8 ^ (d + 1) : Nat) : Int) := by rw [Nat.add_sub_cancel]; exact pw_nat _ (by omega)
    have hunf : (a0 K).down (l.length : Int) (d + 1 + 1) (ad (d + 1 + 1) (l.length / 8 ^ (d + 1 + 1))) s = (a0 K).down (l.length : Int) (d + 1 + 1) (ad (d + 1 + 1) (l.length / 8 ^ (d + 1 + 1))) s := rfl
    conv at hunf => rhs; unfold Ar.down
    rw [if_neg (by omega)] at hunf
    rw [hunf, hdg]
    dsimp only
    unfold Ar.add
    rw [hpw]
    by_cases hz : l.length % 8 ^ (d + 1) = 0
    · rw [if_pos hz] at hst
      rw [if_pos (show (l.length : Int) % ((8 ^ (d + 1) : Nat) : Int) = 0 by omega)]
      by_cases hc : (C l.length (depN (l.length + 1)) (d + 1 + 1) : Int) < K
      · obtain ⟨a, s1, m1, e1, hv1, hn1, hU, hp1, h15, hx⟩ := atake_ok hK hv hM.pool hc hM.nodes
        simp only [e1, if_true]
        obtain ⟨s2, e2, hv2⟩ := hv1.put (a := ad (d + 1 + 1) (l.length / 8 ^ (d + 1 + 1)) + ((l.length / 8 ^ (d + 1) % 8 : Nat) : Int)) (by omega) (by omega) a
        have hM2 := hM.add_new (by omega) (by omega) hz t1 hst hn1 hU hp1 h15 hx
        rw [e2]
        obtain ⟨s3, e3, hv3⟩ := anode_ok hK hv2 (cell := ad (d + 1 + 1) (l.length / 8 ^ (d + 1 + 1)) + ((l.length / 8 ^ (d + 1) % 8 : Nat) : Int)) (by omega) (by omega) (by rw [upd_same]; exact hn1)
        rw [upd_same] at e3
        rw [e3]
        simp only [if_true]
        have := down_ok hK0 hK hn d _ _ s3 (by omega) hv3 hM2
        rw [if_pos ⟨rfl, rfl⟩] at this
        exact this
      · right
        obtain ⟨s1, e1, hv1⟩ := atake_full hK hv hM.pool (by omega)
        refine ⟨s1, m, ?_, hv1, ?_⟩
        · simp [e1]
        · have := T_le_C l.length hn (d + 1) (by omega) (by omega) (by omega)
          omega
    · rw [if_neg hz] at hst
      rw [if_neg (show ¬ (l.length : Int) % ((8 ^ (d + 1) : Nat) : Int) = 0 by omega)]
      have hM2 := hM.add_old (by omega) (by omega) hz hst
      have hlk := hM.tree.link (d + 1) (l.length / 8 ^ (d + 1)) (vP_old (by omega) (by omega) hz) (by omega)
      rw [div_step] at hlk
      have hno := hM.tree.isn _ _ (vP_old (d := d + 1) (n := l.length) (D := depN (l.length + 1)) (by omega) (by omega) hz)
      obtain ⟨s3, e3, hv3⟩ := anode_ok hK hv (cell := ad (d + 1 + 1) (l.length / 8 ^ (d + 1 + 1)) + ((l.length / 8 ^ (d + 1) % 8 : Nat) : Int)) (by omega) (by omega) (by rw [hlk]; exact hno)
      rw [hlk] at e3
      simp only [if_true]
      rw [e3]
      simp only [if_true]
      exact down_ok hK0 hK hn d _ _ s3 (by omega) hv3 hM2
end
end Sim

/- The plain law of the array: Push. -/
namespace Sim
open Go Go.Vc
def vF (n : Nat) (d j : Nat) : Prop := 1 ≤ d ∧ d ≤ depN n ∧ j * 8 ^ d < n
structure Full (K : Int) (m : Int → Int) (l : List Int) (ad : Nat → Nat → Int) : Prop where
  tree : Tree K m (depN l.length) (vF l.length) ad
  leaf : ∀ i v, l[i]? = some v → m (ad 1 (i / 8) + ((i % 8 : Nat) : Int)) = v
  pool : PoolM K m (fun b => ∃ d j, vF l.length d j ∧ b = ad d j) (T l.length)
  many : m 9 = l.length
  depth : m 10 = depN l.length
  top : 0 < l.length → m 8 = ad (depN l.length) 0
  nodes : m 15 = T l.length
section
variable {s0 s : Sp} {K : Int} {m : Int → Int} {l : List Int} {ad : Nat → Nat → Int}
theorem Full.small (h : Full K m l ad) (hK : K ≤ 23) : (T l.length : Int) ≤ K ∧ l.length < 200 := by
  obtain ⟨F, hh, e0, e1, e2, e3, e4, e5, e6, e7, e8, e9⟩ := h.pool
  have : (T l.length : Int) ≤ K := by omega
  exact ⟨this, T_small (by omega)⟩

theorem vP_same {n : Nat} (hn : n < 200) (hg : ¬ depN n < depN (n + 1)) : vP n (depN (n + 1)) (depN (n + 1)) = vF n := by
  obtain ⟨t1, t2, t3⟩ := top_C n hn
  have hd := same_d n hn hg
  have h0 : 0 < n := by
    rcases Nat.eq_zero_or_pos n with rfl | h
    · exact absurd (by decide) hg
    · exact h
  funext d j
  refine propext ⟨?_, ?_⟩
  · rintro ⟨h1, h2, h3 | ⟨h3, h4⟩⟩
    · exact ⟨h1, by omega, h3⟩
    · have e : d = depN (n + 1) := by omega
      subst e
      rw [Nat.div_eq_of_lt t1] at h4
      subst h4
      exact ⟨h1, by omega, by omega⟩
  · rintro ⟨h1, h2, h3⟩
    exact ⟨h1, by omega, .inl h3⟩

theorem Full.mid (h : Full K m l ad) (hn : l.length < 200) (hg : ¬ depN l.length < depN (l.length + 1)) : Mid K m l (depN (l.length + 1)) (depN (l.length + 1)) ad := by
  have hd := same_d _ hn hg
  have hC := same_C _ hn hg
  have hV := vP_same hn hg
  obtain ⟨t, lf, p, q9, q10, q8, q15⟩ := h
  have h0 : 0 < l.length := by
    rcases Nat.eq_zero_or_pos l.length with h | h
    · rw [h] at hg; exact absurd (by decide) hg
    · exact h
  refine ⟨?_, lf, ?_, q9, ?_, ?_, ?_⟩
  · rw [hV, hd]; exact t
  · rw [hV, hC]; exact p
  · rw [hd]; exact q10
  · rw [hd]; exact q8 h0
  · rw [hC]; exact q15

theorem Full.grown (h : Full K m l ad) (hn : l.length < 200) (hg : depN l.length < depN (l.length + 1)) {a : Int} {m1 m2 : Int → Int} (haN : isN K a) (hU : ¬ ∃ d j, vF l.length d j ∧ a = ad d j)
    (hp : PoolM K m1 (fun b => (∃ d j, vF l.length d j ∧ b = ad d j) ∨ b = a) (T l.length + 1)) (h15 : m1 15 = T l.length + 1) (hx : ∀ x, x ≠ 3 → x ≠ 4 → x ≠ 5 → x ≠ 15 → m1 x = m x)
    (h2 : m2 = if 0 < depN l.length then upd m1 a (m 8) else m1) :
    Mid K (upd (upd m2 8 a) 10 (depN (l.length + 1))) l (depN (l.length + 1)) (depN (l.length + 1)) (fun d j => if d = depN (l.length + 1) then a else ad d j) := by
  obtain ⟨t1, t2, t3⟩ := top_C _ hn
  obtain ⟨u1, u2, u3⟩ := dep_C _ hn
  have hd := grown_d _ hn hg
  have hC := grown_C _ hn hg
  obtain ⟨t, lf, p, q9, q10, q8, q15⟩ := h
  have hal := isN_lo haN
  have hne : ∀ d j, vF l.length d j → a ≠ ad d j := fun d j hv e => hU ⟨d, j, hv, e⟩
  have hm2 : ∀ x, x ≠ a → m2 x = m1 x := fun x hxa => by
    rw [h2]; split
    · exact upd_ne hxa
    · rfl
  have hm3 : ∀ x, x ≠ 8 → x ≠ 10 → x ≠ a → upd (upd m2 8 a) 10 (depN (l.length + 1)) x = m1 x := fun x h8 h10 hxa => by rw [upd_ne h10, upd_ne h8, hm2 x hxa]
  have hoc : ∀ d j (k : Nat), vF l.length d j → k < 8 → upd (upd m2 8 a) 10 (depN (l.length + 1)) (ad d j + (k : Int)) = m (ad d j + (k : Int)) := fun d j k hv hk => by
    have hN := t.isn _ _ hv
    have hl := isN_lo hN
    rw [hm3 _ (by omega) (by omega), hx _ (by omega) (by omega) (by omega) (by omega)]
    intro e
    have e' : ad d j + (k : Int) = a + ((0 : Nat) : Int) := by simpa using e
    exact hne _ _ hv (cell_inj hN haN hk (by decide) e').1.symm
  have hvP : ∀ d j, vP l.length (depN (l.length + 1)) (depN (l.length + 1)) d j → (vF l.length d j ∧ d < depN (l.length + 1)) ∨ (d = depN (l.length + 1) ∧ j = 0) := fun d j ⟨v1, v2, v3⟩ => by
    by_cases e : d = depN (l.length + 1)
    · subst e
      refine .inr ⟨rfl, ?_⟩
      rcases v3 with v3 | ⟨_, v4⟩
      · rcases Nat.eq_zero_or_pos j with h | h
        · exact h
        · have : 8 ^ depN (l.length + 1) ≤ j * 8 ^ depN (l.length + 1) := Nat.le_mul_of_pos_left _ h
          omega
      · rw [v4, Nat.div_eq_of_lt t1]
    · refine .inl ⟨⟨v1, by omega, ?_⟩, by omega⟩
      rcases v3 with v3 | ⟨v4, _⟩
      · exact v3
      · omega
  have hF : ∀ d j, vF l.length d j → vP l.length (depN (l.length + 1)) (depN (l.length + 1)) d j ∧ d ≠ depN (l.length + 1) := fun d j ⟨v1, v2, v3⟩ => ⟨⟨v1, by omega, .inl v3⟩, by omega⟩
  have hnew : vP l.length (depN (l.length + 1)) (depN (l.length + 1)) (depN (l.length + 1)) 0 := ⟨by omega, Nat.le_refl _, .inr ⟨Nat.le_refl _, (Nat.div_eq_of_lt t1).symm⟩⟩
  refine ⟨⟨fun d j hv => ⟨hv.1, hv.2.1⟩, ?_, ?_, ?_, ?_⟩, ?_, ?_, ?_, ?_, ?_, ?_⟩
  · intro d j hv
    rcases hvP _ _ hv with ⟨hv, e⟩ | ⟨rfl, rfl⟩
    · rw [if_neg (by omega)]; exact t.isn _ _ hv
    · rw [if_pos rfl]; exact haN
  · intro d j d' j' hv hv' e
    rcases hvP _ _ hv with ⟨hv, e1⟩ | ⟨e1, e2⟩ <;> rcases hvP _ _ hv' with ⟨hv', e3⟩ | ⟨e3, e4⟩
    · rw [if_neg (by omega), if_neg (by omega)] at e; exact t.inj _ _ _ _ hv hv' e
    · rw [if_neg (by omega), if_pos e3] at e; exact absurd e.symm (hne _ _ hv)
    · rw [if_pos e1, if_neg (by omega)] at e; exact absurd e (hne _ _ hv')
    · exact ⟨by omega, by omega⟩
  · intro d j hv hd2
    rcases hvP _ _ hv with ⟨hv, e⟩ | ⟨rfl, rfl⟩
    · by_cases e2 : d + 1 = depN (l.length + 1)
      · rw [e2]
        have hj : j = 0 := by
          obtain ⟨v1, v2, v3⟩ := hv
          have e3 : d = depN l.length := by omega
          subst e3
          rcases Nat.eq_zero_or_pos j with h | h
          · exact h
          · have : 8 ^ depN l.length ≤ j * 8 ^ depN l.length := Nat.le_mul_of_pos_left _ h
            omega
        subst hj
        exact hnew
      · exact (hF _ _ (t.par _ _ hv (by omega))).1
    · omega
  · intro d j hv hd2
    rcases hvP _ _ hv with ⟨hv, e⟩ | ⟨rfl, rfl⟩
    · by_cases e2 : d + 1 = depN (l.length + 1)
      · have e3 : d = depN l.length := by omega
        have hj : j = 0 := by
          obtain ⟨v1, v2, v3⟩ := hv
          subst e3
          rcases Nat.eq_zero_or_pos j with h | h
          · exact h
          · have : 8 ^ depN l.length ≤ j * 8 ^ depN l.length := Nat.le_mul_of_pos_left _ h
            omega
        subst hj
        have hv1 := hv.1
        have hv3 := hv.2.2
        rw [if_pos e2, if_neg (by omega)]
        have h0 : 0 < depN l.length := by omega
        have : upd (upd m2 8 a) 10 (depN (l.length + 1)) (a + ((0 % 8 : Nat) : Int)) = m 8 := by
          rw [show a + ((0 % 8 : Nat) : Int) = a by simp, upd_ne (by omega), upd_ne (by omega), h2, if_pos h0, upd_same]
        rw [this, q8 (by omega), e3]
      · have hv2 := t.par _ _ hv (by omega)
        rw [if_neg e2, if_neg (by omega), hoc _ _ _ hv2 (Nat.mod_lt _ (by decide)), t.link _ _ hv (by omega)]
    · omega
  · intro i v hi
    have hil := (List.getElem?_eq_some_iff.1 hi).1
    have hv : vF l.length 1 (i / 8) := ⟨Nat.le_refl _, u3 (by omega), by omega⟩
    rw [if_neg (Ne.symm (by have := (hF _ _ hv).2; omega)), hoc _ _ _ hv (Nat.mod_lt _ (by decide)), lf i v hi]
  · rw [hC]
    have hp2 : PoolM K (upd (upd m2 8 a) 10 (depN (l.length + 1))) (fun b => (∃ d j, vF l.length d j ∧ b = ad d j) ∨ b = a) ((T l.length + 1 : Nat) : Int) := by
      have := hp.eq (m' := upd (upd m2 8 a) 10 (depN (l.length + 1))) (hm3 3 (by decide) (by decide) (by omega)) (hm3 4 (by decide) (by decide) (by omega)) (hm3 5 (by decide) (by decide) (by omega))
        (fun x hxN hxU => by have := isN_lo hxN; exact hm3 x (by omega) (by omega) (fun e => hxU (.inr e)))
      simpa using this
    have hUU : (fun b => ∃ d j, vP l.length (depN (l.length + 1)) (depN (l.length + 1)) d j ∧ b = if d = depN (l.length + 1) then a else ad d j) = (fun b => (∃ d j, vF l.length d j ∧ b = ad d j) ∨ b = a) := by
      funext b
      refine propext ⟨?_, ?_⟩
      · rintro ⟨d, j, hv, rfl⟩
        rcases hvP _ _ hv with ⟨hv, e⟩ | ⟨e1, e2⟩
        · exact .inl ⟨d, j, hv, by rw [if_neg (by omega)]⟩
        · exact .inr (if_pos e1)
      · rintro (⟨d, j, hv, rfl⟩ | rfl)
        · exact ⟨d, j, (hF _ _ hv).1, by rw [if_neg (hF _ _ hv).2]⟩
        · exact ⟨_, 0, hnew, by rw [if_pos rfl]⟩
    rw [hUU]; exact hp2
  · rw [hm3 9 (by decide) (by decide) (by omega), hx 9 (by decide) (by decide) (by decide) (by decide), q9]
  · rw [upd_same]
  · rw [upd_ne (by decide), upd_same, if_pos rfl]
  · rw [hm3 15 (by decide) (by decide) (by omega), h15, hC]; rfl
end
end Sim

/- The plain law of the array: Push, whole. -/
namespace Sim
open Go Go.Vc
section
variable {s0 s : Sp} {K : Int} {m : Int → Int} {l : List Int} {ad : Nat → Nat → Int}
theorem vP_last {n : Nat} : vP n (depN (n + 1)) 1 = vF (n + 1) := by
  funext d j
  refine propext ⟨?_, ?_⟩
  · rintro ⟨h1, h2, h3⟩
    refine ⟨h1, h2, ?_⟩
    rcases h3 with h3 | ⟨_, rfl⟩
    · omega
    · have := Nat.div_mul_le_self n (8 ^ d); omega
  · rintro ⟨h1, h2, h3⟩
    refine ⟨h1, h2, ?_⟩
    have hj : j ≤ n / 8 ^ d := (Nat.le_div_iff_mul_le (Nat.pow_pos (by decide))).2 (by omega)
    rcases Nat.lt_or_eq_of_le hj with h | h
    · left
      have := Nat.div_mul_le_self n (8 ^ d)
      have h4 : j * 8 ^ d < n / 8 ^ d * 8 ^ d := Nat.mul_lt_mul_of_pos_right h (Nat.pow_pos (by decide))
      omega
    · exact .inr ⟨h1, h⟩

theorem Mid.full (h : Mid K m l (depN (l.length + 1)) 1 ad) (hn : l.length < 200) (v : Int) :
    Full K (upd (upd m (ad 1 (l.length / 8) + ((l.length % 8 : Nat) : Int)) v) 9 (l.length + 1)) (l ++ [v]) ad := by
  obtain ⟨t1, t2, t3⟩ := top_C _ hn
  have hC := last_C _ hn
  obtain ⟨t, lf, p, q9, q10, q8, q15⟩ := h
  have hpar : vP l.length (depN (l.length + 1)) 1 1 (l.length / 8) := ⟨Nat.le_refl _, t2, .inr ⟨Nat.le_refl _, by simp⟩⟩
  have hpN := t.isn _ _ hpar
  have hpl := isN_lo hpN
  generalize hcell : ad 1 (l.length / 8) + ((l.length % 8 : Nat) : Int) = cell
  have hlen : (l ++ [v]).length = l.length + 1 := by simp
  have hoc : ∀ d' j' (k : Nat), vP l.length (depN (l.length + 1)) 1 d' j' → k < 8 → ¬ (d' = 1 ∧ j' = l.length / 8 ∧ k = l.length % 8) → upd (upd m cell v) 9 (l.length + 1) (ad d' j' + (k : Int)) = m (ad d' j' + (k : Int)) := fun d' j' k hv hk hno => by
    have hl := isN_lo (t.isn _ _ hv)
    rw [upd_ne (by omega), upd_ne]
    intro e
    rw [← hcell] at e
    obtain ⟨e1, e2⟩ := cell_inj (t.isn _ _ hv) hpN hk (Nat.mod_lt _ (by decide)) e
    obtain ⟨e3, e4⟩ := t.inj _ _ _ _ hv hpar e1
    exact hno ⟨e3, e4, e2⟩
  have hlo : ∀ x, x < 24 → x ≠ 9 → upd (upd m cell v) 9 (l.length + 1) x = m x := fun x h1 h2 => by rw [upd_ne h2, upd_ne (by omega)]
  refine ⟨?_, ?_, ?_, ?_, ?_, ?_, ?_⟩
  · rw [hlen, ← vP_last]
    refine ⟨t.pos, t.isn, t.inj, t.par, fun d j hv hd => ?_⟩
    have := t.pos _ _ hv
    rw [hoc _ _ _ (t.par _ _ hv hd) (Nat.mod_lt _ (by decide)) (by omega), t.link _ _ hv hd]
  · intro i u hi
    have hil := (List.getElem?_eq_some_iff.1 hi).1
    rw [hlen] at hil
    by_cases e : i = l.length
    · subst e
      rw [List.getElem?_append_right (Nat.le_refl _)] at hi
      simp at hi
      subst hi
      rw [hcell, upd_ne (by omega), upd_same]
    · have hi2 : l[i]? = some u := by rw [List.getElem?_append_left (by omega)] at hi; exact hi
      have hv : vP l.length (depN (l.length + 1)) 1 1 (i / 8) := ⟨Nat.le_refl _, t2, .inl (by omega)⟩
      rw [hoc _ _ _ hv (Nat.mod_lt _ (by decide)) (by omega), lf i u hi2]
  · rw [hlen, ← vP_last, ← hC]
    refine p.eq (hlo 3 (by decide) (by decide)) (hlo 4 (by decide) (by decide)) (hlo 5 (by decide) (by decide)) (fun x hxN hxU => ?_)
    have hxl := isN_lo hxN
    rw [upd_ne (by omega), upd_ne]
    intro e
    rw [← hcell] at e
    have e' : x + ((0 : Nat) : Int) = ad 1 (l.length / 8) + ((l.length % 8 : Nat) : Int) := by simpa using e
    obtain ⟨e1, _⟩ := cell_inj hxN hpN (by decide) (Nat.mod_lt _ (by decide)) e'
    exact hxU ⟨_, _, hpar, e1⟩
  · rw [upd_same, hlen]; rfl
  · rw [hlo 10 (by decide) (by decide), q10, hlen]
  · intro _
    rw [hlo 8 (by decide) (by decide), q8, hlen]
  · rw [hlo 15 (by decide) (by decide), q15, hC, hlen]

theorem rest_ok (hK0 : 0 ≤ K) (hK : K ≤ 23) (hn : l.length < 200) (hv : View s0 (24 + 8 * K) s m) (hM : Mid K m l (depN (l.length + 1)) (depN (l.length + 1)) ad) (v : Int) :
    (∃ s' m' ad', (a0 K).rest l.length v (depN (l.length + 1)) s = ((l.length : Int), 0, s') ∧ View s0 (24 + 8 * K) s' m' ∧ Full K m' (l ++ [v]) ad') ∨
    (∃ s' m', (a0 K).rest l.length v (depN (l.length + 1)) s = (0, 9, s') ∧ View s0 (24 + 8 * K) s' m' ∧ K < (T (l.length + 1) : Int)) := by
  obtain ⟨t1, t2, t3⟩ := top_C _ hn
  have hdiv : l.length / 8 ^ depN (l.length + 1) = 0 := Nat.div_eq_of_lt t1
  have hnew : vP l.length (depN (l.length + 1)) (depN (l.length + 1)) (depN (l.length + 1)) 0 := ⟨by omega, Nat.le_refl _, .inr ⟨Nat.le_refl _, hdiv.symm⟩⟩
  have htN := hM.tree.isn _ _ hnew
  obtain ⟨s1, e1, hv1⟩ := anode_ok hK hv (cell := 8) (by omega) (by omega) (by rw [hM.top]; exact htN)
  rw [hM.top] at e1
  have e1' : (a0 K).node s (a0 K).root = (ad (depN (l.length + 1)) 0, true, s1) := e1
  obtain ⟨d, hd⟩ : ∃ d, depN (l.length + 1) = d + 1 := ⟨depN (l.length + 1) - 1, by omega⟩
  have hdown := down_ok hK0 hK hn d ad m s1 (by omega) hv1 (by rw [← hd]; exact hM)
  rw [← hd, hdiv] at hdown
  unfold Ar.rest
  rw [e1']
  simp only [if_true]
  rcases hdown with ⟨s2, m2, ad2, e2, hv2, hM2, hT⟩ | ⟨s2, m2, e2, hv2, hT⟩
  · left
    rw [e2]
    simp only [if_true]
    have hpar : vP l.length (depN (l.length + 1)) 1 1 (l.length / 8) := ⟨Nat.le_refl _, t2, .inr ⟨Nat.le_refl _, by simp⟩⟩
    have hpl := isN_lo (hM2.tree.isn _ _ hpar)
    have hmod : l.length % 8 < 8 := Nat.mod_lt _ (by decide)
    have hdg : dig (l.length : Int) 1 = ((l.length % 8 : Nat) : Int) := by have := dig_nat l.length 0 (by decide); simpa using this
    obtain ⟨s3, e3, hv3⟩ := hv2.put (a := ad2 1 (l.length / 8) + ((l.length % 8 : Nat) : Int)) (by omega) (by omega) v
    obtain ⟨s4, e4, hv4⟩ := hv3.put (a := 9) (by omega) (by omega) ((l.length : Int) + 1)
    refine ⟨s4, _, ad2, ?_, hv4, hM2.full hn v⟩
    rw [hdg, e3]
    show (_, _, s3.put 9 _) = _
    rw [e4]
  · right
    refine ⟨s2, m2, ?_, hv2, hT⟩
    rw [e2]
    rfl

theorem grow_ok (hK0 : 0 ≤ K) (hK : K ≤ 23) (hv : View s0 (24 + 8 * K) s m) (hF : Full K m l ad) (hg : depN l.length < depN (l.length + 1)) :
    (∃ s' m' ad', (a0 K).grow l.length (depN l.length) s = (0, s') ∧ View s0 (24 + 8 * K) s' m' ∧ Mid K m' l (depN (l.length + 1)) (depN (l.length + 1)) ad') ∨
    (∃ s' m', (a0 K).grow l.length (depN l.length) s = (9, s') ∧ View s0 (24 + 8 * K) s' m' ∧ K < (T (l.length + 1) : Int)) := by
  obtain ⟨hT, hn⟩ := hF.small hK
  obtain ⟨t1, t2, t3⟩ := top_C _ hn
  have hdep : dep ((l.length : Int) + 1) = depN (l.length + 1) := by rw [← dep_nat]; rfl
  obtain ⟨s1, e1, hv1⟩ := hv.get (a := 8) (by omega) (by omega)
  have hc : ∃ s2, (if 0 < depN l.length then (a0 K).node s1 (a0 K).root else (0, true, s1)).2 = (true, s2) ∧ View s0 (24 + 8 * K) s2 m := by
    by_cases h0 : 0 < depN l.length
    · have hl0 : 0 < l.length := by
        rcases Nat.eq_zero_or_pos l.length with h | h
        · rw [h] at h0; exact absurd h0 (by decide)
        · exact h
      have hv8 : vF l.length (depN l.length) 0 := ⟨h0, Nat.le_refl _, by omega⟩
      have hN := hF.tree.isn _ _ hv8
      obtain ⟨s2, e2, hv2⟩ := anode_ok hK hv1 (cell := 8) (by omega) (by omega) (by rw [hF.top hl0]; exact hN)
      exact ⟨s2, by rw [if_pos h0, show (a0 K).root = 8 from rfl, e2], hv2⟩
    · exact ⟨s1, by rw [if_neg h0], hv1⟩
  obtain ⟨s2, e2, hv2⟩ := hc
  have e1' : s.get (a0 K).root = (m 8, s1) := e1
  simp only [Ar.grow, e1', hdep]
  generalize (if 0 < depN l.length then (a0 K).node s1 (a0 K).root else (0, true, s1)) = c at e2
  rw [e2]
  simp only [if_true]
  by_cases hc : (T l.length : Int) < K
  · left
    obtain ⟨a, s3, m1, e3, hv3, hn3, hU, hp, h15, hx⟩ := atake_ok hK hv2 hF.pool hc hF.nodes
    have hal := isN_lo hn3
    rw [e3]
    simp only [if_true]
    have h4 : ∃ s4, (if 0 < depN l.length then s3.put a (m 8) else s3) = s4 ∧ View s0 (24 + 8 * K) s4 (if 0 < depN l.length then upd m1 a (m 8) else m1) := by
      by_cases h0 : 0 < depN l.length
      · rw [if_pos h0, if_pos h0]; exact hv3.put (by omega) (by omega) _
      · rw [if_neg h0, if_neg h0]; exact ⟨_, rfl, hv3⟩
    obtain ⟨s4, e4, hv4⟩ := h4
    obtain ⟨s5, e5, hv5⟩ := hv4.put (a := 8) (by omega) (by omega) a
    obtain ⟨s6, e6, hv6⟩ := hv5.put (a := 10) (by omega) (by omega) (depN (l.length + 1))
    refine ⟨s6, _, _, ?_, hv6, hF.grown hn hg hn3 hU hp h15 hx rfl⟩
    rw [e4]
    show (_, (s4.put 8 a).put 10 _) = _
    rw [e5, e6]
  · right
    obtain ⟨s3, e3, hv3⟩ := atake_full hK hv2 hF.pool (by omega)
    refine ⟨s3, m, ?_, hv3, ?_⟩
    · rw [e3]; rfl
    · have := T_le_C l.length hn (depN (l.length + 1)) (by omega) t2 (Nat.le_refl _)
      rw [grown_C _ hn hg] at this
      omega

theorem pushIn_ok (hK0 : 0 ≤ K) (hK : K ≤ 23) (hv : View s0 (24 + 8 * K) s m) (hF : Full K m l ad) (v : Int) :
    (∃ s' m' ad', (a0 K).pushIn l.length v (depN l.length) s = ((l.length : Int), 0, s') ∧ View s0 (24 + 8 * K) s' m' ∧ Full K m' (l ++ [v]) ad') ∨
    (∃ s' m', (a0 K).pushIn l.length v (depN l.length) s = (0, 9, s') ∧ View s0 (24 + 8 * K) s' m' ∧ K < (T (l.length + 1) : Int)) := by
  obtain ⟨hT, hn⟩ := hF.small hK
  have hdep : dep ((l.length : Int) + 1) = depN (l.length + 1) := by rw [← dep_nat]; rfl
  unfold Ar.pushIn
  rw [hdep]
  by_cases hg : depN l.length < depN (l.length + 1)
  · rw [if_pos hg]
    rcases grow_ok hK0 hK hv hF hg with ⟨s1, m1, ad1, e1, hv1, hM⟩ | ⟨s1, m1, e1, hv1, hT1⟩
    · rw [e1]
      simp only [if_true]
      exact rest_ok hK0 hK hn hv1 hM v
    · right
      refine ⟨s1, m1, ?_, hv1, hT1⟩
      rw [e1]; rfl
  · rw [if_neg hg, ← same_d _ hn hg]
    exact rest_ok hK0 hK hn hv (hF.mid hn hg) v
end

/-- The array over `K` nodes holds the list. -/
def Inv (K : Int) (s : Sp) (l : List Int) : Prop := ∃ m ad, View s (24 + 8 * K) s m ∧ Full K m l ad
section
variable {s : Sp} {K : Int} {l : List Int}
theorem push_ok (hK0 : 0 ≤ K) (hK : K ≤ 23) (h : Inv K s l) (v : Int) :
    (∃ s', (a0 K).push s v = ((l.length : Int), 0, s') ∧ Inv K s' (l ++ [v]) ∧ (T (l.length + 1) : Int) ≤ K) ∨ (∃ s', (a0 K).push s v = (0, 9, s') ∧ Inv K s' l ∧ K < (T (l.length + 1) : Int)) := by
  obtain ⟨m, ad, hv, hF⟩ := h
  obtain ⟨hT, hn⟩ := hF.small hK
  obtain ⟨s1, e1, hv1⟩ := many_ok2 hK0 hv (by omega) hF.many hF.depth
  unfold Ar.push
  rw [e1]
  dsimp only
  rw [if_pos rfl, if_neg (by omega), Int.toNat_natCast]
  rcases pushIn_ok hK0 hK hv1.base hF v with ⟨s2, m2, ad2, e2, hv2, hF2⟩ | ⟨s2, m2, e2, hv2, hT2⟩
  · left
    rw [e2]
    refine ⟨s2, by simp [Ar.undo], ⟨m2, ad2, hv2.base, hF2⟩, ?_⟩
    have := (hF2.small hK).1
    simpa using this
  · right
    rw [e2]
    obtain ⟨s3, e3, hv3⟩ := hv2.back hv1.base
    refine ⟨s3, ?_, ⟨m, ad, hv3.base, hF⟩, hT2⟩
    simp only [Ar.undo]
    rw [if_pos (by decide), e3]
end
end Sim

