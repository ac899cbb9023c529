import Derived.Test.YtikackodhiollaaGreatDoorPart3
import Derived.Test.YtikackodhiollaaGreatDoorKit
/- Own work: lemmas of this claim. -/
namespace Go.Proofs.YtikackodhiollaaGreatDoor
variable (w0 : World)
open Go.Vc Sim Sim.Tx
set_option maxHeartbeats 4000000
theorem do_spec (o : AO) (ho : o.ok) (v : Int) : FnE PP w0 [] 19 [opV o, .int .i64 v] [] (.tuple #[.int .i64 (o.fn v), .int .i64 v]) [] := by
 obtain ⟨f, hf, hF⟩ := fn_spec w0 o ho v
 have hc := check_spec w0 o.kd (plI o.pl) o.N
 rw [chk_ok ho] at hc
 obtain ⟨k, hk⟩ : ∃ k : Nat, (k : Int) = o.kd := ⟨o.kd.toNat, by have := ho.1; omega⟩
 have hf := hf k hk
 have hr : ∀ o', o' = k → rd false 1 makesL o' = some (.func (.func f) #[] #[]) := fun o' e => rd_one (c := List.toArray makesL) (by simpa using hf) o' e
 have hk4 : k < 4 := by have := ho.1; omega
 have hmk := makes_spec w0
 refine zep en19 fn19 rfl rfl rfl ?_
 repeat (first|refine zck ?_|refine zcl ?_|refine zcm ?_|refine zcn ?_)
 first|refine zcp (by kernel_rfl) ?_|refine zcq PP_mixed (by kernel_rfl) (by kernel_rfl) ?_
 repeat' (refine zap rfl ?_; first|refine zan rfl ?_|refine zaq (cs := [_, _, _]) rfl (fun nb => ?_))
 all_goals (refine zch ?_; repeat (first|refine zck ?_|refine zcl ?_|refine zcm ?_|refine zcn ?_))
 refine zeb [0] rfl ?_
 repeat (first|refine zck ?_|refine zcl ?_|refine zcm ?_|refine zcn ?_)
 first|refine zcp (by kernel_rfl) ?_|refine zcq PP_mixed (by kernel_rfl) (by kernel_rfl) ?_
 repeat' (refine zap rfl ?_; first|refine zaa 0 rfl rfl rfl ?_|refine zah [] hc rfl rfl rfl zdj rfl ?_|refine zbf rfl rfl (by omega) ?_)
 all_goals (refine zch ?_; repeat (first|refine zck ?_|refine zcl ?_|refine zcm ?_|refine zcn ?_))
 refine zcj rfl ?_
 repeat (first|refine zck ?_|refine zcl ?_|refine zcm ?_|refine zcn ?_)
 first|refine zcp (by kernel_rfl) ?_|refine zcq PP_mixed (by kernel_rfl) (by kernel_rfl) ?_
 repeat' (refine zap rfl ?_; first|refine zea rfl rfl (by omega) (hr _ (by omega)) ?_|refine zan rfl ?_|refine zaa 0 rfl rfl rfl ?_|refine zah [] hmk rfl rfl rfl zdj rfl ?_|refine zah [] hF rfl rfl rfl zdj rfl ?_|refine zao rfl ?_)
 all_goals (refine zch ?_; repeat (first|refine zck ?_|refine zcl ?_|refine zcm ?_|refine zcn ?_))
 repeat (first|refine zck ?_|refine zcl ?_|refine zcm ?_|refine zcn ?_|refine zco ?_)
 exact zei rfl ⟨rfl, rfl⟩
abbrev codeC (o : AO) (b s d : Bool) (t an : Int) : Value := .agg (List.toArray [.int .i64 o.kd, .int .i64 (plI o.pl), .int .i64 o.N, .bool b, .bool s, .bool d, .int .i64 t, .int .i64 an])
abbrev codeI (o : AO) (b s d : Bool) (t an : Int) : Value := .iface 83 (codeC o b s d t an)
theorem mk_code (v : Value) (w : World) : (Instr.makeInterface 83 v).run PP w = .ok (.iface 83 v) w := by
 obtain ⟨fs, h⟩ : ∃ fs, PP.underlying 83 = some (.struct fs) := ⟨_, by rw [PP_def, Tryz.underlying83]⟩
 simp only [Instr.makeInterface, Sem.run_bind, run_underlying h, Result.andThen_ok, Sem.run_pure]
theorem new_spec (o : AO) (ho : o.ok) : FnE PP w0 [] 13 [opV o] [] (.tuple #[codeI o false false false 0 0, .int .i64 0]) [] := by
 have hc := check_spec w0 o.kd (plI o.pl) o.N
 rw [chk_ok ho] at hc
 refine zep en13 fn13 rfl rfl rfl ?_
 repeat (first|refine zck ?_|refine zcl ?_|refine zcm ?_|refine zcn ?_)
 first|refine zcp (by kernel_rfl) ?_|refine zcq PP_mixed (by kernel_rfl) (by kernel_rfl) ?_
 repeat' (refine zap rfl ?_; first|refine zan rfl ?_|refine zaq (cs := [_, _, _]) rfl (fun nb => ?_))
 all_goals (refine zch ?_; repeat (first|refine zck ?_|refine zcl ?_|refine zcm ?_|refine zcn ?_))
 refine zeb [0] rfl ?_
 repeat' (first|refine zck ?_|refine zcp (by kernel_rfl) ?_|refine zcm ?_|(refine zap rfl ?_; first|refine reg_mkI (mk_code _) rfl ?_|refine zan rfl ?_|refine zan rfl ?_|refine zaa 0 rfl rfl rfl ?_|refine zah [] hc rfl rfl rfl zdj rfl ?_|refine zbf rfl rfl (by omega) ?_|refine zcb rfl ?_)|refine zch ?_|refine zcj rfl ?_)
 exact zei rfl ⟨rfl, rfl⟩
abbrev gotV (v : Int) (ok : Bool) : Value := .agg (List.toArray [.int .i64 v, .int .u32 0, .int .u32 0, .bool ok])
abbrev actV (op a v n : Int) : Value := .agg (List.toArray [.int .i64 op, .int .i64 a, .int .i64 v, .int .u32 0, .int .u32 0, .int .i64 n, .int .u32 0, .int .u32 0])
theorem next_look (o : AO) : FnE PP w0 [] 222 [codeC o false false false 0 0, gotV 0 false] [] (.tuple #[codeI o true false false 0 0, actV 5 (plI o.pl) 0 0, .bool false]) [] := by
 refine zep en222 fn222 rfl rfl rfl ?_
 repeat (first|refine zck ?_|refine zcl ?_|refine zcm ?_|refine zcn ?_)
 first|refine zcp (by kernel_rfl) ?_|refine zcq PP_mixed (by kernel_rfl) (by kernel_rfl) ?_
 repeat' (refine zap rfl ?_; first|refine zar (fun t5 => ?_)|refine zan rfl ?_|refine zaq (cs := [_, _, _, _]) rfl (fun nb => ?_)|refine zaq (cs := [_, _, _, _, _, _, _, _]) rfl (fun nb => ?_))
 all_goals (refine zch ?_; repeat (first|refine zck ?_|refine zcl ?_|refine zcm ?_|refine zcn ?_))
 first|refine zcp (by kernel_rfl) ?_|refine zcq PP_mixed (by kernel_rfl) (by kernel_rfl) ?_
 repeat' (refine zap rfl ?_; first|refine zan rfl ?_|refine zab 0 rfl rfl rfl ?_|refine zao rfl ?_)
 all_goals (refine zch ?_; repeat (first|refine zck ?_|refine zcl ?_|refine zcm ?_|refine zcn ?_))
 refine zcj rfl ?_
 repeat (first|refine zck ?_|refine zcl ?_|refine zcm ?_|refine zcn ?_)
 first|refine zcp (by kernel_rfl) ?_|refine zcq PP_mixed (by kernel_rfl) (by kernel_rfl) ?_
 repeat' (refine zap rfl ?_; first|refine zan rfl ?_|refine zab 0 rfl rfl rfl ?_|refine zao rfl ?_|refine zbx rfl ?_)
 all_goals (refine zch ?_; repeat (first|refine zck ?_|refine zcl ?_|refine zcm ?_|refine zcn ?_))
 refine zci rfl ?_
 repeat (first|refine zck ?_|refine zcl ?_|refine zcm ?_|refine zcn ?_)
 first|refine zcp (by kernel_rfl) ?_|refine zcq PP_mixed (by kernel_rfl) (by kernel_rfl) ?_
 repeat' (refine zap rfl ?_; first|refine zao rfl ?_|refine zae 0 rfl rfl rfl rfl rfl rfl rfl ?_)
 all_goals (refine zch ?_; repeat (first|refine zck ?_|refine zcl ?_|refine zcm ?_|refine zcn ?_))
 refine zeb [0] rfl ?_
 repeat (first|refine zck ?_|refine zcl ?_|refine zcm ?_|refine zcn ?_)
 first|refine zcp (by kernel_rfl) ?_|refine zcq PP_mixed (by kernel_rfl) (by kernel_rfl) ?_
 repeat' (refine zap rfl ?_; first|refine reg_mkI (mk_code _) rfl ?_|refine zan rfl ?_|refine zaa 0 rfl rfl rfl ?_|refine zao rfl ?_|refine zae 1 rfl rfl rfl rfl rfl rfl rfl ?_|refine zcb rfl ?_)
 all_goals (refine zch ?_; repeat (first|refine zck ?_|refine zcl ?_|refine zcm ?_|refine zcn ?_))
 repeat (first|refine zck ?_|refine zcl ?_|refine zcm ?_|refine zcn ?_|refine zco ?_)
 first|exact zeg (zek (zel [] rfl (ends_three rfl rfl (zeo 1 rfl rfl rfl) rfl ⟨rfl, rfl, rfl⟩)))|exact zeg (zek (zel [] rfl (ends_three rfl rfl (zeo 0 rfl rfl rfl) rfl ⟨rfl, rfl, rfl⟩)))
theorem next_good (o : AO) (t : Int) (ht : 0 ≤ t ∧ t ≤ 1000) (an v : Int) :
   FnE PP w0 [] 222 [codeC o true true false t an, gotV v true] [] (.tuple #[codeI o true true true (t + 1) v, actV 0 0 0 0, .bool true]) [] := by
 refine zep en222 fn222 rfl rfl rfl ?_
 repeat (first|refine zck ?_|refine zcl ?_|refine zcm ?_|refine zcn ?_)
 first|refine zcp (by kernel_rfl) ?_|refine zcq PP_mixed (by kernel_rfl) (by kernel_rfl) ?_
 repeat' (refine zap rfl ?_; first|refine zar (fun t5 => ?_)|refine zan rfl ?_|refine zaq (cs := [_, _, _, _]) rfl (fun nb => ?_)|refine zaq (cs := [_, _, _, _, _, _, _, _]) rfl (fun nb => ?_))
 all_goals (refine zch ?_; repeat (first|refine zck ?_|refine zcl ?_|refine zcm ?_|refine zcn ?_))
 refine zeb [1] rfl ?_
 repeat (first|refine zck ?_|refine zcl ?_|refine zcm ?_|refine zcn ?_)
 first|refine zcp (by kernel_rfl) ?_|refine zcq PP_mixed (by kernel_rfl) (by kernel_rfl) ?_
 repeat' (refine zap rfl ?_; first|refine zan rfl ?_|refine zab 0 rfl rfl rfl ?_|refine zao rfl ?_)
 all_goals (refine zch ?_; repeat (first|refine zck ?_|refine zcl ?_|refine zcm ?_|refine zcn ?_))
 refine zcj rfl ?_
 repeat (first|refine zck ?_|refine zcl ?_|refine zcm ?_|refine zcn ?_)
 first|refine zcp (by kernel_rfl) ?_|refine zcq PP_mixed (by kernel_rfl) (by kernel_rfl) ?_
 repeat' (refine zap rfl ?_; first|refine zan rfl ?_|refine zab 0 rfl rfl rfl ?_|refine zao rfl ?_|refine zbx rfl ?_)
 all_goals (refine zch ?_; repeat (first|refine zck ?_|refine zcl ?_|refine zcm ?_|refine zcn ?_))
 refine zcj rfl ?_
 repeat (first|refine zck ?_|refine zcl ?_|refine zcm ?_|refine zcn ?_)
 first|refine zcp (by kernel_rfl) ?_|refine zcq PP_mixed (by kernel_rfl) (by kernel_rfl) ?_
 repeat' (refine zap rfl ?_; first|refine zan rfl ?_|refine zab 0 rfl rfl rfl ?_|refine zao rfl ?_)
 all_goals (refine zch ?_; repeat (first|refine zck ?_|refine zcl ?_|refine zcm ?_|refine zcn ?_))
 refine zci rfl ?_
 repeat (first|refine zck ?_|refine zcl ?_|refine zcm ?_|refine zcn ?_)
 first|refine zcp (by kernel_rfl) ?_|refine zcq PP_mixed (by kernel_rfl) (by kernel_rfl) ?_
 repeat' (refine zap rfl ?_; first|refine zab 0 rfl rfl rfl ?_|refine zao rfl ?_|refine zau rfl rfl (by omega) ?_|refine zae 0 rfl rfl rfl rfl rfl rfl rfl ?_)
 all_goals (refine zch ?_; repeat (first|refine zck ?_|refine zcl ?_|refine zcm ?_|refine zcn ?_))
 first|refine zcp (by kernel_rfl) ?_|refine zcq PP_mixed (by kernel_rfl) (by kernel_rfl) ?_
 repeat' (refine zap rfl ?_; first|refine zaa 0 rfl rfl rfl ?_|refine zao rfl ?_)
 all_goals (refine zch ?_; repeat (first|refine zck ?_|refine zcl ?_|refine zcm ?_|refine zcn ?_))
 refine zci rfl ?_
 repeat (first|refine zck ?_|refine zcl ?_|refine zcm ?_|refine zcn ?_)
 first|refine zcp (by kernel_rfl) ?_|refine zcq PP_mixed (by kernel_rfl) (by kernel_rfl) ?_
 repeat' (refine zap rfl ?_; first|refine zaa 0 rfl rfl rfl ?_|refine zao rfl ?_|refine zae 0 rfl rfl rfl rfl rfl rfl rfl ?_)
 all_goals (refine zch ?_; repeat (first|refine zck ?_|refine zcl ?_|refine zcm ?_|refine zcn ?_))
 repeat (first|refine zck ?_|refine zcl ?_|refine zcm ?_|refine zcn ?_|refine zco ?_)
 repeat (first|refine zck ?_|refine zcl ?_|refine zcm ?_|refine zcn ?_)
 first|refine zcp (by kernel_rfl) ?_|refine zcq PP_mixed (by kernel_rfl) (by kernel_rfl) ?_
 repeat' (refine zap rfl ?_; first|refine reg_mkI (mk_code _) rfl ?_|refine zcb rfl ?_|refine zan rfl ?_|refine zab 0 rfl rfl rfl ?_|refine zae 1 rfl rfl rfl rfl rfl rfl rfl ?_)
 all_goals (refine zch ?_; repeat (first|refine zck ?_|refine zcl ?_|refine zcm ?_|refine zcn ?_))
 repeat (first|refine zck ?_|refine zcl ?_|refine zcm ?_|refine zcn ?_|refine zco ?_)
 first|exact zeg (zek (zel [] rfl (ends_three rfl rfl (zeo 1 rfl rfl rfl) rfl ⟨rfl, rfl, rfl⟩)))|exact zeg (zek (zel [] rfl (ends_three rfl rfl (zeo 0 rfl rfl rfl) rfl ⟨rfl, rfl, rfl⟩)))
theorem next_same (o : AO) (ho : o.ok) (s ok : Bool) (hs : s = true → ok = false) (t : Int) (ht : 0 ≤ t ∧ t ≤ 1000) (an v : Int) (hv : o.fn v = v) :
   FnE PP w0 [] 222 [codeC o true s false t an, gotV v ok] [] (.tuple #[codeI o true s true (if s = true then t + 1 else t) v, actV 0 0 0 0, .bool true]) [] := by
 have hd := do_spec w0 o ho v
 rw [hv] at hd
 cases s with
 | false =>
   refine zep en222 fn222 rfl rfl rfl ?_
   repeat (first|refine zck ?_|refine zcl ?_|refine zcm ?_|refine zcn ?_)
   first|refine zcp (by kernel_rfl) ?_|refine zcq PP_mixed (by kernel_rfl) (by kernel_rfl) ?_
   repeat' (refine zap rfl ?_; first|refine zar (fun t5 => ?_)|refine zan rfl ?_|refine zaq (cs := [_, _, _, _]) rfl (fun nb => ?_)|refine zaq (cs := [_, _, _, _, _, _, _, _]) rfl (fun nb => ?_))
   all_goals (refine zch ?_; repeat (first|refine zck ?_|refine zcl ?_|refine zcm ?_|refine zcn ?_))
   refine zeb [1] rfl ?_
   repeat (first|refine zck ?_|refine zcl ?_|refine zcm ?_|refine zcn ?_)
   first|refine zcp (by kernel_rfl) ?_|refine zcq PP_mixed (by kernel_rfl) (by kernel_rfl) ?_
   repeat' (refine zap rfl ?_; first|refine zan rfl ?_|refine zab 0 rfl rfl rfl ?_|refine zao rfl ?_)
   all_goals (refine zch ?_; repeat (first|refine zck ?_|refine zcl ?_|refine zcm ?_|refine zcn ?_))
   refine zcj rfl ?_
   repeat (first|refine zck ?_|refine zcl ?_|refine zcm ?_|refine zcn ?_)
   first|refine zcp (by kernel_rfl) ?_|refine zcq PP_mixed (by kernel_rfl) (by kernel_rfl) ?_
   repeat' (refine zap rfl ?_; first|refine zan rfl ?_|refine zab 0 rfl rfl rfl ?_|refine zao rfl ?_|refine zbx rfl ?_)
   all_goals (refine zch ?_; repeat (first|refine zck ?_|refine zcl ?_|refine zcm ?_|refine zcn ?_))
   refine zcj rfl ?_
   repeat (first|refine zck ?_|refine zcl ?_|refine zcm ?_|refine zcn ?_)
   first|refine zcp (by kernel_rfl) ?_|refine zcq PP_mixed (by kernel_rfl) (by kernel_rfl) ?_
   repeat' (refine zap rfl ?_; first|refine zan rfl ?_|refine zab 0 rfl rfl rfl ?_|refine zao rfl ?_)
   all_goals (refine zch ?_; repeat (first|refine zck ?_|refine zcl ?_|refine zcm ?_|refine zcn ?_))
   refine zcj rfl ?_
   repeat (first|refine zck ?_|refine zcl ?_|refine zcm ?_|refine zcn ?_|refine zco ?_)
   repeat (first|refine zck ?_|refine zcl ?_|refine zcm ?_|refine zcn ?_)
   first|refine zcp (by kernel_rfl) ?_|refine zcq PP_mixed (by kernel_rfl) (by kernel_rfl) ?_
   repeat' (refine zap rfl ?_; first|refine zan rfl ?_|refine zaa 0 rfl rfl rfl ?_|refine zab 0 rfl rfl rfl ?_|refine zah [] hd rfl rfl rfl zdj rfl ?_|refine zao rfl ?_)
   all_goals (refine zch ?_; repeat (first|refine zck ?_|refine zcl ?_|refine zcm ?_|refine zcn ?_))
   first|refine zcp (by kernel_rfl) ?_|refine zcq PP_mixed (by kernel_rfl) (by kernel_rfl) ?_
   repeat' (refine zap rfl ?_; first|refine zan rfl ?_|refine zaa 0 rfl rfl rfl ?_|refine zao rfl ?_|refine zbc rfl rfl (by omega) ?_)
   all_goals (refine zch ?_; repeat (first|refine zck ?_|refine zcl ?_|refine zcm ?_|refine zcn ?_))
   refine zci rfl ?_
   repeat (first|refine zck ?_|refine zcl ?_|refine zcm ?_|refine zcn ?_)
   first|refine zcp (by kernel_rfl) ?_|refine zcq PP_mixed (by kernel_rfl) (by kernel_rfl) ?_
   repeat' (refine zap rfl ?_; first|refine zan rfl ?_|refine zao rfl ?_|refine zae 0 rfl rfl rfl rfl rfl rfl rfl ?_)
   all_goals (refine zch ?_; repeat (first|refine zck ?_|refine zcl ?_|refine zcm ?_|refine zcn ?_))
   first|refine zcp (by kernel_rfl) ?_|refine zcq PP_mixed (by kernel_rfl) (by kernel_rfl) ?_
   repeat' (refine zap rfl ?_; first|refine reg_mkI (mk_code _) rfl ?_|refine zcb rfl ?_|refine zan rfl ?_|refine zab 0 rfl rfl rfl ?_|refine zae 1 rfl rfl rfl rfl rfl rfl rfl ?_)
   all_goals (refine zch ?_; repeat (first|refine zck ?_|refine zcl ?_|refine zcm ?_|refine zcn ?_))
   repeat (first|refine zck ?_|refine zcl ?_|refine zcm ?_|refine zcn ?_|refine zco ?_)
   first|exact zeg (zek (zel [] rfl (ends_three rfl rfl (zeo 1 rfl rfl rfl) rfl ⟨rfl, rfl, rfl⟩)))|exact zeg (zek (zel [] rfl (ends_three rfl rfl (zeo 0 rfl rfl rfl) rfl ⟨rfl, rfl, rfl⟩)))
 | true =>
   have hs := hs rfl
   subst hs
   refine zep en222 fn222 rfl rfl rfl ?_
   repeat (first|refine zck ?_|refine zcl ?_|refine zcm ?_|refine zcn ?_)
   first|refine zcp (by kernel_rfl) ?_|refine zcq PP_mixed (by kernel_rfl) (by kernel_rfl) ?_
   repeat' (refine zap rfl ?_; first|refine zar (fun t5 => ?_)|refine zan rfl ?_|refine zaq (cs := [_, _, _, _]) rfl (fun nb => ?_)|refine zaq (cs := [_, _, _, _, _, _, _, _]) rfl (fun nb => ?_))
   all_goals (refine zch ?_; repeat (first|refine zck ?_|refine zcl ?_|refine zcm ?_|refine zcn ?_))
   refine zeb [1] rfl ?_
   repeat (first|refine zck ?_|refine zcl ?_|refine zcm ?_|refine zcn ?_)
   first|refine zcp (by kernel_rfl) ?_|refine zcq PP_mixed (by kernel_rfl) (by kernel_rfl) ?_
   repeat' (refine zap rfl ?_; first|refine zan rfl ?_|refine zab 0 rfl rfl rfl ?_|refine zao rfl ?_)
   all_goals (refine zch ?_; repeat (first|refine zck ?_|refine zcl ?_|refine zcm ?_|refine zcn ?_))
   refine zcj rfl ?_
   repeat (first|refine zck ?_|refine zcl ?_|refine zcm ?_|refine zcn ?_)
   first|refine zcp (by kernel_rfl) ?_|refine zcq PP_mixed (by kernel_rfl) (by kernel_rfl) ?_
   repeat' (refine zap rfl ?_; first|refine zan rfl ?_|refine zab 0 rfl rfl rfl ?_|refine zao rfl ?_|refine zbx rfl ?_)
   all_goals (refine zch ?_; repeat (first|refine zck ?_|refine zcl ?_|refine zcm ?_|refine zcn ?_))
   refine zcj rfl ?_
   repeat (first|refine zck ?_|refine zcl ?_|refine zcm ?_|refine zcn ?_)
   first|refine zcp (by kernel_rfl) ?_|refine zcq PP_mixed (by kernel_rfl) (by kernel_rfl) ?_
   repeat' (refine zap rfl ?_; first|refine zan rfl ?_|refine zab 0 rfl rfl rfl ?_|refine zao rfl ?_)
   all_goals (refine zch ?_; repeat (first|refine zck ?_|refine zcl ?_|refine zcm ?_|refine zcn ?_))
   refine zci rfl ?_
   repeat (first|refine zck ?_|refine zcl ?_|refine zcm ?_|refine zcn ?_)
   first|refine zcp (by kernel_rfl) ?_|refine zcq PP_mixed (by kernel_rfl) (by kernel_rfl) ?_
   repeat' (refine zap rfl ?_; first|refine zab 0 rfl rfl rfl ?_|refine zao rfl ?_|refine zau rfl rfl (by omega) ?_|refine zae 0 rfl rfl rfl rfl rfl rfl rfl ?_)
   all_goals (refine zch ?_; repeat (first|refine zck ?_|refine zcl ?_|refine zcm ?_|refine zcn ?_))
   first|refine zcp (by kernel_rfl) ?_|refine zcq PP_mixed (by kernel_rfl) (by kernel_rfl) ?_
   repeat' (refine zap rfl ?_; first|refine zaa 0 rfl rfl rfl ?_|refine zao rfl ?_)
   all_goals (refine zch ?_; repeat (first|refine zck ?_|refine zcl ?_|refine zcm ?_|refine zcn ?_))
   refine zcj rfl ?_
   repeat (first|refine zck ?_|refine zcl ?_|refine zcm ?_|refine zcn ?_|refine zco ?_)
   repeat (first|refine zck ?_|refine zcl ?_|refine zcm ?_|refine zcn ?_)
   first|refine zcp (by kernel_rfl) ?_|refine zcq PP_mixed (by kernel_rfl) (by kernel_rfl) ?_
   repeat' (refine zap rfl ?_; first|refine zan rfl ?_|refine zaa 0 rfl rfl rfl ?_|refine zab 0 rfl rfl rfl ?_|refine zah [] hd rfl rfl rfl zdj rfl ?_|refine zao rfl ?_)
   all_goals (refine zch ?_; repeat (first|refine zck ?_|refine zcl ?_|refine zcm ?_|refine zcn ?_))
   first|refine zcp (by kernel_rfl) ?_|refine zcq PP_mixed (by kernel_rfl) (by kernel_rfl) ?_
   repeat' (refine zap rfl ?_; first|refine zan rfl ?_|refine zaa 0 rfl rfl rfl ?_|refine zao rfl ?_|refine zbc rfl rfl (by omega) ?_)
   all_goals (refine zch ?_; repeat (first|refine zck ?_|refine zcl ?_|refine zcm ?_|refine zcn ?_))
   refine zci rfl ?_
   repeat (first|refine zck ?_|refine zcl ?_|refine zcm ?_|refine zcn ?_)
   first|refine zcp (by kernel_rfl) ?_|refine zcq PP_mixed (by kernel_rfl) (by kernel_rfl) ?_
   repeat' (refine zap rfl ?_; first|refine zan rfl ?_|refine zao rfl ?_|refine zae 0 rfl rfl rfl rfl rfl rfl rfl ?_)
   all_goals (refine zch ?_; repeat (first|refine zck ?_|refine zcl ?_|refine zcm ?_|refine zcn ?_))
   first|refine zcp (by kernel_rfl) ?_|refine zcq PP_mixed (by kernel_rfl) (by kernel_rfl) ?_
   repeat' (refine zap rfl ?_; first|refine reg_mkI (mk_code _) rfl ?_|refine zcb rfl ?_|refine zan rfl ?_|refine zab 0 rfl rfl rfl ?_|refine zae 1 rfl rfl rfl rfl rfl rfl rfl ?_)
   all_goals (refine zch ?_; repeat (first|refine zck ?_|refine zcl ?_|refine zcm ?_|refine zcn ?_))
   repeat (first|refine zck ?_|refine zcl ?_|refine zcm ?_|refine zcn ?_|refine zco ?_)
   first|exact zeg (zek (zel [] rfl (ends_three rfl rfl (zeo 1 rfl rfl rfl) rfl ⟨rfl, rfl, rfl⟩)))|exact zeg (zek (zel [] rfl (ends_three rfl rfl (zeo 0 rfl rfl rfl) rfl ⟨rfl, rfl, rfl⟩)))
theorem next_swap (o : AO) (ho : o.ok) (s ok : Bool) (hs : s = true → ok = false) (t : Int) (ht : 0 ≤ t ∧ t ≤ 1000) (an v : Int) (hv : o.fn v ≠ v) :
   FnE PP w0 [] 222 [codeC o true s false t an, gotV v ok] [] (.tuple #[codeI o true true false (if s = true then t + 1 else t) an, actV 6 (plI o.pl) v (o.fn v), .bool false]) [] := by
 have hd := do_spec w0 o ho v
 generalize o.fn v = n at hv hd
 cases s with
 | false =>
   refine zep en222 fn222 rfl rfl rfl ?_
   repeat (first|refine zck ?_|refine zcl ?_|refine zcm ?_|refine zcn ?_)
   first|refine zcp (by kernel_rfl) ?_|refine zcq PP_mixed (by kernel_rfl) (by kernel_rfl) ?_
   repeat' (refine zap rfl ?_; first|refine zar (fun t5 => ?_)|refine zan rfl ?_|refine zaq (cs := [_, _, _, _]) rfl (fun nb => ?_)|refine zaq (cs := [_, _, _, _, _, _, _, _]) rfl (fun nb => ?_))
   all_goals (refine zch ?_; repeat (first|refine zck ?_|refine zcl ?_|refine zcm ?_|refine zcn ?_))
   refine zeb [1] rfl ?_
   repeat (first|refine zck ?_|refine zcl ?_|refine zcm ?_|refine zcn ?_)
   first|refine zcp (by kernel_rfl) ?_|refine zcq PP_mixed (by kernel_rfl) (by kernel_rfl) ?_
   repeat' (refine zap rfl ?_; first|refine zan rfl ?_|refine zab 0 rfl rfl rfl ?_|refine zao rfl ?_)
   all_goals (refine zch ?_; repeat (first|refine zck ?_|refine zcl ?_|refine zcm ?_|refine zcn ?_))
   refine zcj rfl ?_
   repeat (first|refine zck ?_|refine zcl ?_|refine zcm ?_|refine zcn ?_)
   first|refine zcp (by kernel_rfl) ?_|refine zcq PP_mixed (by kernel_rfl) (by kernel_rfl) ?_
   repeat' (refine zap rfl ?_; first|refine zan rfl ?_|refine zab 0 rfl rfl rfl ?_|refine zao rfl ?_|refine zbx rfl ?_)
   all_goals (refine zch ?_; repeat (first|refine zck ?_|refine zcl ?_|refine zcm ?_|refine zcn ?_))
   refine zcj rfl ?_
   repeat (first|refine zck ?_|refine zcl ?_|refine zcm ?_|refine zcn ?_)
   first|refine zcp (by kernel_rfl) ?_|refine zcq PP_mixed (by kernel_rfl) (by kernel_rfl) ?_
   repeat' (refine zap rfl ?_; first|refine zan rfl ?_|refine zab 0 rfl rfl rfl ?_|refine zao rfl ?_)
   all_goals (refine zch ?_; repeat (first|refine zck ?_|refine zcl ?_|refine zcm ?_|refine zcn ?_))
   refine zcj rfl ?_
   repeat (first|refine zck ?_|refine zcl ?_|refine zcm ?_|refine zcn ?_|refine zco ?_)
   repeat (first|refine zck ?_|refine zcl ?_|refine zcm ?_|refine zcn ?_)
   first|refine zcp (by kernel_rfl) ?_|refine zcq PP_mixed (by kernel_rfl) (by kernel_rfl) ?_
   repeat' (refine zap rfl ?_; first|refine zan rfl ?_|refine zaa 0 rfl rfl rfl ?_|refine zab 0 rfl rfl rfl ?_|refine zah [] hd rfl rfl rfl zdj rfl ?_|refine zao rfl ?_)
   all_goals (refine zch ?_; repeat (first|refine zck ?_|refine zcl ?_|refine zcm ?_|refine zcn ?_))
   first|refine zcp (by kernel_rfl) ?_|refine zcq PP_mixed (by kernel_rfl) (by kernel_rfl) ?_
   repeat' (refine zap rfl ?_; first|refine zan rfl ?_|refine zaa 0 rfl rfl rfl ?_|refine zao rfl ?_|refine zbd rfl rfl (by omega) ?_)
   all_goals (refine zch ?_; repeat (first|refine zck ?_|refine zcl ?_|refine zcm ?_|refine zcn ?_))
   refine zcj rfl ?_
   repeat (first|refine zck ?_|refine zcl ?_|refine zcm ?_|refine zcn ?_|refine zco ?_)
   repeat (first|refine zck ?_|refine zcl ?_|refine zcm ?_|refine zcn ?_)
   first|refine zcp (by kernel_rfl) ?_|refine zcq PP_mixed (by kernel_rfl) (by kernel_rfl) ?_
   repeat' (refine zap rfl ?_; first|refine zar (fun t9 => ?_)|refine zaa 0 rfl rfl rfl ?_|refine zao rfl ?_|refine zae 2 rfl rfl rfl rfl rfl rfl rfl ?_)
   all_goals (refine zch ?_; repeat (first|refine zck ?_|refine zcl ?_|refine zcm ?_|refine zcn ?_))
   first|refine zcp (by kernel_rfl) ?_|refine zcq PP_mixed (by kernel_rfl) (by kernel_rfl) ?_
   repeat' (refine zap rfl ?_; first|refine zan rfl ?_|refine zao rfl ?_|refine zae 2 rfl rfl rfl rfl rfl rfl rfl ?_)
   all_goals (refine zch ?_; repeat (first|refine zck ?_|refine zcl ?_|refine zcm ?_|refine zcn ?_))
   first|refine zcp (by kernel_rfl) ?_|refine zcq PP_mixed (by kernel_rfl) (by kernel_rfl) ?_
   repeat' (refine zap rfl ?_; first|refine zao rfl ?_|refine zae 0 rfl rfl rfl rfl rfl rfl rfl ?_)
   all_goals (refine zch ?_; repeat (first|refine zck ?_|refine zcl ?_|refine zcm ?_|refine zcn ?_))
   refine zeb [0] rfl ?_
   refine zeb [1] rfl ?_
   repeat (first|refine zck ?_|refine zcl ?_|refine zcm ?_|refine zcn ?_)
   first|refine zcp (by kernel_rfl) ?_|refine zcq PP_mixed (by kernel_rfl) (by kernel_rfl) ?_
   repeat' (refine zap rfl ?_; first|refine reg_mkI (mk_code _) rfl ?_|refine zcb rfl ?_|refine zan rfl ?_|refine zaa 0 rfl rfl rfl ?_|refine zaa 1 rfl rfl rfl ?_|refine zaa 2 rfl rfl rfl ?_|refine zao rfl ?_|refine zae 0 rfl rfl rfl rfl rfl rfl rfl ?_)
   all_goals (refine zch ?_; repeat (first|refine zck ?_|refine zcl ?_|refine zcm ?_|refine zcn ?_))
   repeat (first|refine zck ?_|refine zcl ?_|refine zcm ?_|refine zcn ?_|refine zco ?_)
   exact zeg (zek (zel [] rfl (ends_three rfl rfl (zeo 0 rfl rfl rfl) rfl ⟨rfl, rfl, rfl⟩)))
 | true =>
   have hs := hs rfl
   subst hs
   refine zep en222 fn222 rfl rfl rfl ?_
   repeat (first|refine zck ?_|refine zcl ?_|refine zcm ?_|refine zcn ?_)
   first|refine zcp (by kernel_rfl) ?_|refine zcq PP_mixed (by kernel_rfl) (by kernel_rfl) ?_
   repeat' (refine zap rfl ?_; first|refine zar (fun t5 => ?_)|refine zan rfl ?_|refine zaq (cs := [_, _, _, _]) rfl (fun nb => ?_)|refine zaq (cs := [_, _, _, _, _, _, _, _]) rfl (fun nb => ?_))
   all_goals (refine zch ?_; repeat (first|refine zck ?_|refine zcl ?_|refine zcm ?_|refine zcn ?_))
   refine zeb [1] rfl ?_
   repeat (first|refine zck ?_|refine zcl ?_|refine zcm ?_|refine zcn ?_)
   first|refine zcp (by kernel_rfl) ?_|refine zcq PP_mixed (by kernel_rfl) (by kernel_rfl) ?_
   repeat' (refine zap rfl ?_; first|refine zan rfl ?_|refine zab 0 rfl rfl rfl ?_|refine zao rfl ?_)
   all_goals (refine zch ?_; repeat (first|refine zck ?_|refine zcl ?_|refine zcm ?_|refine zcn ?_))
   refine zcj rfl ?_
   repeat (first|refine zck ?_|refine zcl ?_|refine zcm ?_|refine zcn ?_)
   first|refine zcp (by kernel_rfl) ?_|refine zcq PP_mixed (by kernel_rfl) (by kernel_rfl) ?_
   repeat' (refine zap rfl ?_; first|refine zan rfl ?_|refine zab 0 rfl rfl rfl ?_|refine zao rfl ?_|refine zbx rfl ?_)
   all_goals (refine zch ?_; repeat (first|refine zck ?_|refine zcl ?_|refine zcm ?_|refine zcn ?_))
   refine zcj rfl ?_
   repeat (first|refine zck ?_|refine zcl ?_|refine zcm ?_|refine zcn ?_)
   first|refine zcp (by kernel_rfl) ?_|refine zcq PP_mixed (by kernel_rfl) (by kernel_rfl) ?_
   repeat' (refine zap rfl ?_; first|refine zan rfl ?_|refine zab 0 rfl rfl rfl ?_|refine zao rfl ?_)
   all_goals (refine zch ?_; repeat (first|refine zck ?_|refine zcl ?_|refine zcm ?_|refine zcn ?_))
   refine zci rfl ?_
   repeat (first|refine zck ?_|refine zcl ?_|refine zcm ?_|refine zcn ?_)
   first|refine zcp (by kernel_rfl) ?_|refine zcq PP_mixed (by kernel_rfl) (by kernel_rfl) ?_
   repeat' (refine zap rfl ?_; first|refine zab 0 rfl rfl rfl ?_|refine zao rfl ?_|refine zau rfl rfl (by omega) ?_|refine zae 0 rfl rfl rfl rfl rfl rfl rfl ?_)
   all_goals (refine zch ?_; repeat (first|refine zck ?_|refine zcl ?_|refine zcm ?_|refine zcn ?_))
   first|refine zcp (by kernel_rfl) ?_|refine zcq PP_mixed (by kernel_rfl) (by kernel_rfl) ?_
   repeat' (refine zap rfl ?_; first|refine zaa 0 rfl rfl rfl ?_|refine zao rfl ?_)
   all_goals (refine zch ?_; repeat (first|refine zck ?_|refine zcl ?_|refine zcm ?_|refine zcn ?_))
   refine zcj rfl ?_
   repeat (first|refine zck ?_|refine zcl ?_|refine zcm ?_|refine zcn ?_|refine zco ?_)
   repeat (first|refine zck ?_|refine zcl ?_|refine zcm ?_|refine zcn ?_)
   first|refine zcp (by kernel_rfl) ?_|refine zcq PP_mixed (by kernel_rfl) (by kernel_rfl) ?_
   repeat' (refine zap rfl ?_; first|refine zan rfl ?_|refine zaa 0 rfl rfl rfl ?_|refine zab 0 rfl rfl rfl ?_|refine zah [] hd rfl rfl rfl zdj rfl ?_|refine zao rfl ?_)
   all_goals (refine zch ?_; repeat (first|refine zck ?_|refine zcl ?_|refine zcm ?_|refine zcn ?_))
   first|refine zcp (by kernel_rfl) ?_|refine zcq PP_mixed (by kernel_rfl) (by kernel_rfl) ?_
   repeat' (refine zap rfl ?_; first|refine zan rfl ?_|refine zaa 0 rfl rfl rfl ?_|refine zao rfl ?_|refine zbd rfl rfl (by omega) ?_)
   all_goals (refine zch ?_; repeat (first|refine zck ?_|refine zcl ?_|refine zcm ?_|refine zcn ?_))
   refine zcj rfl ?_
   repeat (first|refine zck ?_|refine zcl ?_|refine zcm ?_|refine zcn ?_|refine zco ?_)
   repeat (first|refine zck ?_|refine zcl ?_|refine zcm ?_|refine zcn ?_)
   first|refine zcp (by kernel_rfl) ?_|refine zcq PP_mixed (by kernel_rfl) (by kernel_rfl) ?_
   repeat' (refine zap rfl ?_; first|refine zar (fun t9 => ?_)|refine zaa 0 rfl rfl rfl ?_|refine zao rfl ?_|refine zae 2 rfl rfl rfl rfl rfl rfl rfl ?_)
   all_goals (refine zch ?_; repeat (first|refine zck ?_|refine zcl ?_|refine zcm ?_|refine zcn ?_))
   first|refine zcp (by kernel_rfl) ?_|refine zcq PP_mixed (by kernel_rfl) (by kernel_rfl) ?_
   repeat' (refine zap rfl ?_; first|refine zan rfl ?_|refine zao rfl ?_|refine zae 2 rfl rfl rfl rfl rfl rfl rfl ?_)
   all_goals (refine zch ?_; repeat (first|refine zck ?_|refine zcl ?_|refine zcm ?_|refine zcn ?_))
   first|refine zcp (by kernel_rfl) ?_|refine zcq PP_mixed (by kernel_rfl) (by kernel_rfl) ?_
   repeat' (refine zap rfl ?_; first|refine zao rfl ?_|refine zae 0 rfl rfl rfl rfl rfl rfl rfl ?_)
   all_goals (refine zch ?_; repeat (first|refine zck ?_|refine zcl ?_|refine zcm ?_|refine zcn ?_))
   refine zeb [0] rfl ?_
   refine zeb [1] rfl ?_
   repeat (first|refine zck ?_|refine zcl ?_|refine zcm ?_|refine zcn ?_)
   first|refine zcp (by kernel_rfl) ?_|refine zcq PP_mixed (by kernel_rfl) (by kernel_rfl) ?_
   repeat' (refine zap rfl ?_; first|refine reg_mkI (mk_code _) rfl ?_|refine zcb rfl ?_|refine zan rfl ?_|refine zaa 0 rfl rfl rfl ?_|refine zaa 1 rfl rfl rfl ?_|refine zaa 2 rfl rfl rfl ?_|refine zao rfl ?_|refine zae 0 rfl rfl rfl rfl rfl rfl rfl ?_)
   all_goals (refine zch ?_; repeat (first|refine zck ?_|refine zcl ?_|refine zcm ?_|refine zcn ?_))
   repeat (first|refine zck ?_|refine zcl ?_|refine zcm ?_|refine zcn ?_|refine zco ?_)
   exact zeg (zek (zel [] rfl (ends_three rfl rfl (zeo 0 rfl rfl rfl) rfl ⟨rfl, rfl, rfl⟩)))
end Go.Proofs.YtikackodhiollaaGreatDoor
namespace Go.Proofs.YtikackodhiollaaGreatDoor
variable (w0 : World)
open Go.Vc Sim Sim.Tx
set_option maxHeartbeats 4000000
abbrev nextV (c : Value) : Value := .func (.method "Next") (List.toArray [c]) #[]
instance tnext : TUnd PP 86 (.func #[129] #[64, 88, 4] false) := ⟨by kernel_rfl⟩
instance tcode : TUnd PP 64 (.interface #[("Next", 86)]) := ⟨by kernel_rfl⟩
abbrev taskV (c nx : Value) (op a v m : Int) (g : Value) : Value := .agg (List.toArray [c, nx, .int .i64 op, .int .i64 a, .int .i64 v, .int .u32 0, .int .u32 0, .int .i64 m, .int .u32 0, .int .u32 0, g])
theorem told_done (u0 : TypeId) (x0 : Value) (f : _root_.Go.Fn) (c1 c2 : Array Value) (p0 a0 v0 m0 : Int) (g : Option Addr) (gl gc : Nat) (u : TypeId) (x : Value) (p a v m : Int) :
   FnE PP w0 [] 46 [taskV (.iface u0 x0) (.func f c1 c2) p0 a0 v0 m0 (.slice g gl gc), .iface u x, actV p a v m, .bool true] [] (taskV (.iface u x) .nilFunc 0 0 0 0 (.slice g gl gc)) [] := by
 refine zep en46 fn46 rfl rfl rfl ?_
 repeat (first|refine zck ?_|refine zcl ?_|refine zcm ?_|refine zcn ?_)
 first|refine zcp (by kernel_rfl) ?_|refine zcq PP_mixed (by kernel_rfl) (by kernel_rfl) ?_
 repeat' (refine zap rfl ?_; first|refine zar (fun t8 => ?_)|refine zaq (cs := [_, _, _, _, _, _, _, _]) rfl (fun nb => ?_)|refine zaq (cs := [_, _, _, _, _, _, _, _, _, _, _]) rfl (fun nb => ?_))
 all_goals (refine zch ?_; repeat (first|refine zck ?_|refine zcl ?_|refine zcm ?_|refine zcn ?_))
 refine zeb [1] rfl ?_
 repeat (first|refine zck ?_|refine zcl ?_|refine zcm ?_|refine zcn ?_)
 first|refine zcp (by kernel_rfl) ?_|refine zcq PP_mixed (by kernel_rfl) (by kernel_rfl) ?_
 repeat' (refine zap rfl ?_; first|refine zan rfl ?_|refine zaa 0 rfl rfl rfl ?_|refine zao rfl ?_|refine zae 0 rfl rfl rfl rfl rfl rfl rfl ?_)
 all_goals (refine zch ?_; repeat (first|refine zck ?_|refine zcl ?_|refine zcm ?_|refine zcn ?_))
 repeat (first|refine zck ?_|refine zcl ?_|refine zcm ?_|refine zcn ?_|refine zco ?_)
 repeat (first|refine zck ?_|refine zcl ?_|refine zcm ?_|refine zcn ?_)
 first|refine zcp (by kernel_rfl) ?_|refine zcq PP_mixed (by kernel_rfl) (by kernel_rfl) ?_
 repeat' (refine zap rfl ?_; first|refine zak rfl ?_|refine zan rfl ?_|refine zbu rfl ?_)
 all_goals (refine zch ?_; repeat (first|refine zck ?_|refine zcl ?_|refine zcm ?_|refine zcn ?_))
 refine zci rfl ?_
 repeat' (first|refine zck ?_|refine zcp (by kernel_rfl) ?_|(refine zap rfl ?_; first|refine zcb rfl ?_|refine zab 0 rfl rfl rfl ?_|refine zao rfl ?_|refine zae 0 rfl rfl rfl rfl rfl rfl rfl ?_|refine zae 1 rfl rfl rfl rfl rfl rfl rfl ?_)|refine zch ?_)
 first|exact zeg (zek (zel [] rfl (zem rfl (zeo 1 rfl rfl rfl) ⟨rfl, rfl, rfl⟩)))|exact zeg (zek (zel [] rfl (zem rfl (zeo 0 rfl rfl rfl) ⟨rfl, rfl, rfl⟩)))
theorem told_go (u0 : TypeId) (x0 : Value) (f : _root_.Go.Fn) (c1 c2 : Array Value) (p0 a0 v0 m0 : Int) (g : Option Addr) (gl gc : Nat) (u : TypeId) (x : Value) (p a v m : Int) :
   FnE PP w0 [] 46 [taskV (.iface u0 x0) (.func f c1 c2) p0 a0 v0 m0 (.slice g gl gc), .iface u x, actV p a v m, .bool false] [] (taskV (.iface u x) (nextV (.iface u x)) p a v m (.slice g gl gc)) [] := by
 refine zep en46 fn46 rfl rfl rfl ?_
 repeat (first|refine zck ?_|refine zcl ?_|refine zcm ?_|refine zcn ?_)
 first|refine zcp (by kernel_rfl) ?_|refine zcq PP_mixed (by kernel_rfl) (by kernel_rfl) ?_
 repeat' (refine zap rfl ?_; first|refine zar (fun t8 => ?_)|refine zaq (cs := [_, _, _, _, _, _, _, _]) rfl (fun nb => ?_)|refine zaq (cs := [_, _, _, _, _, _, _, _, _, _, _]) rfl (fun nb => ?_))
 all_goals (refine zch ?_; repeat (first|refine zck ?_|refine zcl ?_|refine zcm ?_|refine zcn ?_))
 refine zeb [1] rfl ?_
 repeat (first|refine zck ?_|refine zcl ?_|refine zcm ?_|refine zcn ?_)
 first|refine zcp (by kernel_rfl) ?_|refine zcq PP_mixed (by kernel_rfl) (by kernel_rfl) ?_
 repeat' (refine zap rfl ?_; first|refine zan rfl ?_|refine zaa 0 rfl rfl rfl ?_|refine zao rfl ?_|refine zae 0 rfl rfl rfl rfl rfl rfl rfl ?_)
 all_goals (refine zch ?_; repeat (first|refine zck ?_|refine zcl ?_|refine zcm ?_|refine zcn ?_))
 repeat (first|refine zck ?_|refine zcl ?_|refine zcm ?_|refine zcn ?_|refine zco ?_)
 repeat (first|refine zck ?_|refine zcl ?_|refine zcm ?_|refine zcn ?_)
 first|refine zcp (by kernel_rfl) ?_|refine zcq PP_mixed (by kernel_rfl) (by kernel_rfl) ?_
 repeat' (refine zap rfl ?_; first|refine reg_eq_nilI rfl rfl ?_|refine zaj rfl ?_|refine zan rfl ?_|refine zbv rfl ?_)
 all_goals (refine zch ?_; repeat (first|refine zck ?_|refine zcl ?_|refine zcm ?_|refine zcn ?_))
 refine zcj rfl ?_
 repeat' (first|refine zck ?_|refine zcp (by kernel_rfl) ?_|refine zcm ?_|(refine zap rfl ?_; first|refine reg_nilI rfl ?_|refine zan rfl ?_|refine zab 0 rfl rfl rfl ?_|refine zao rfl ?_|refine zae 0 rfl rfl rfl rfl rfl rfl rfl ?_|refine zae 1 rfl rfl rfl rfl rfl rfl rfl ?_|refine zan rfl ?_)|refine zch ?_)
 first|exact zeg (zek (zel [] rfl (zem rfl (zeo 1 rfl rfl rfl) ⟨rfl, rfl, rfl⟩)))|exact zeg (zek (zel [] rfl (zem rfl (zeo 0 rfl rfl rfl) ⟨rfl, rfl, rfl⟩)))
theorem done_spec (u : TypeId) (x : Value) (f : _root_.Go.Fn) (c1 c2 : Array Value) (p a v m : Int) (g : Option Addr) (gl gc : Nat) :
   FnE PP w0 [] 55 [taskV (.iface u x) (.func f c1 c2) p a v m (.slice g gl gc)] [] (.bool false) [] := by
 refine zep en55 fn55 rfl rfl rfl ?_
 repeat (first|refine zck ?_|refine zcl ?_|refine zcm ?_|refine zcn ?_)
 first|refine zcp (by kernel_rfl) ?_|refine zcq PP_mixed (by kernel_rfl) (by kernel_rfl) ?_
 repeat' (refine zap rfl ?_; first|refine zan rfl ?_|refine zaq (cs := [_, _, _, _, _, _, _, _, _, _, _]) rfl (fun nb => ?_))
 all_goals (refine zch ?_; repeat (first|refine zck ?_|refine zcl ?_|refine zcm ?_|refine zcn ?_))
 refine zeb [0] rfl ?_
 repeat' (first|refine zcp (by kernel_rfl) ?_|(refine zap rfl ?_; first|refine reg_eq_fnF rfl rfl ?_|refine zan rfl ?_|refine zaa 0 rfl rfl rfl ?_|refine zao rfl ?_)|refine zch ?_)
 exact zej rfl ⟨rfl, rfl⟩
theorem done_nil (u : TypeId) (x : Value) (p a v m : Int) (g : Option Addr) (gl gc : Nat) : FnE PP w0 [] 55 [taskV (.iface u x) .nilFunc p a v m (.slice g gl gc)] [] (.bool true) [] := by
 refine zep en55 fn55 rfl rfl rfl ?_
 repeat (first|refine zck ?_|refine zcl ?_|refine zcm ?_|refine zcn ?_)
 first|refine zcp (by kernel_rfl) ?_|refine zcq PP_mixed (by kernel_rfl) (by kernel_rfl) ?_
 repeat' (refine zap rfl ?_; first|refine zan rfl ?_|refine zaq (cs := [_, _, _, _, _, _, _, _, _, _, _]) rfl (fun nb => ?_))
 all_goals (refine zch ?_; repeat (first|refine zck ?_|refine zcl ?_|refine zcm ?_|refine zcn ?_))
 refine zeb [0] rfl ?_
 repeat' (first|refine zcp (by kernel_rfl) ?_|(refine zap rfl ?_; first|refine reg_eq_fnT rfl rfl ?_|refine zan rfl ?_|refine zaa 0 rfl rfl rfl ?_|refine zao rfl ?_)|refine zch ?_)
 exact zej rfl ⟨rfl, rfl⟩
end Go.Proofs.YtikackodhiollaaGreatDoor
namespace Go.Proofs.YtikackodhiollaaGreatDoor
variable (w0 : World)
open Go.Vc Sim Sim.Tx
set_option maxHeartbeats 4000000
instance codeMeth (o : AO) (b s d : Bool) (t an : Int) : TMeth PP 83 (codeC o b s d t an) "Next" 222 := ⟨fun w => by kernel_rfl⟩
theorem told_new (u : TypeId) (x : Value) (p a v m : Int) :
   FnE PP w0 [] 46 [taskV .nilIface .nilFunc 0 0 0 0 (.slice none 0 0), .iface u x, actV p a v m, .bool false] [] (taskV (.iface u x) (nextV (.iface u x)) p a v m (.slice none 0 0)) [] := by
 refine zep en46 fn46 rfl rfl rfl ?_
 repeat (first|refine zck ?_|refine zcl ?_|refine zcm ?_|refine zcn ?_)
 first|refine zcp (by kernel_rfl) ?_|refine zcq PP_mixed (by kernel_rfl) (by kernel_rfl) ?_
 repeat' (refine zap rfl ?_; first|refine zar (fun t8 => ?_)|refine zaq (cs := [_, _, _, _, _, _, _, _]) rfl (fun nb => ?_)|refine zaq (cs := [_, _, _, _, _, _, _, _, _, _, _]) rfl (fun nb => ?_))
 all_goals (refine zch ?_; repeat (first|refine zck ?_|refine zcl ?_|refine zcm ?_|refine zcn ?_))
 refine zeb [1] rfl ?_
 repeat (first|refine zck ?_|refine zcl ?_|refine zcm ?_|refine zcn ?_)
 first|refine zcp (by kernel_rfl) ?_|refine zcq PP_mixed (by kernel_rfl) (by kernel_rfl) ?_
 repeat' (refine zap rfl ?_; first|refine zan rfl ?_|refine zaa 0 rfl rfl rfl ?_|refine zao rfl ?_|refine zae 0 rfl rfl rfl rfl rfl rfl rfl ?_)
 all_goals (refine zch ?_; repeat (first|refine zck ?_|refine zcl ?_|refine zcm ?_|refine zcn ?_))
 repeat (first|refine zck ?_|refine zcl ?_|refine zcm ?_|refine zcn ?_|refine zco ?_)
 repeat (first|refine zck ?_|refine zcl ?_|refine zcm ?_|refine zcn ?_)
 first|refine zcp (by kernel_rfl) ?_|refine zcq PP_mixed (by kernel_rfl) (by kernel_rfl) ?_
 repeat' (refine zap rfl ?_; first|refine reg_eq_nilI rfl rfl ?_|refine zaj rfl ?_|refine zan rfl ?_|refine zbv rfl ?_)
 all_goals (refine zch ?_; repeat (first|refine zck ?_|refine zcl ?_|refine zcm ?_|refine zcn ?_))
 refine zcj rfl ?_
 repeat' (first|refine zck ?_|refine zcp (by kernel_rfl) ?_|refine zcm ?_|(refine zap rfl ?_; first|refine reg_nilI rfl ?_|refine zan rfl ?_|refine zab 0 rfl rfl rfl ?_|refine zao rfl ?_|refine zae 0 rfl rfl rfl rfl rfl rfl rfl ?_|refine zae 1 rfl rfl rfl rfl rfl rfl rfl ?_|refine zan rfl ?_)|refine zch ?_)
 first|exact zeg (zek (zel [] rfl (zem rfl (zeo 1 rfl rfl rfl) ⟨rfl, rfl, rfl⟩)))|exact zeg (zek (zel [] rfl (zem rfl (zeo 0 rfl rfl rfl) ⟨rfl, rfl, rfl⟩)))
theorem start_spec (o : AO) : FnE PP w0 [] 26 [codeI o false false false 0 0] [] (taskV (codeI o true false false 0 0) (nextV (codeI o true false false 0 0)) 5 (plI o.pl) 0 0 (.slice none 0 0)) [] := by
 have hn := next_look w0 o
 have ht := told_new w0 83 (codeC o true false false 0 0) 5 (plI o.pl) 0 0
 refine zep en26 fn26 rfl rfl rfl ?_
 repeat (first|refine zck ?_|refine zcl ?_|refine zcm ?_|refine zcn ?_)
 first|refine zcp (by kernel_rfl) ?_|refine zcq PP_mixed (by kernel_rfl) (by kernel_rfl) ?_
 repeat' (refine zap rfl ?_; first|refine zar (fun t2 => ?_))
 all_goals (refine zch ?_; repeat (first|refine zck ?_|refine zcl ?_|refine zcm ?_|refine zcn ?_))
 first|refine zcp (by kernel_rfl) ?_|refine zcq PP_mixed (by kernel_rfl) (by kernel_rfl) ?_
 repeat' (refine zap rfl ?_; first|refine reg_eq_nilI rfl rfl ?_|refine zan rfl ?_)
 all_goals (refine zch ?_; repeat (first|refine zck ?_|refine zcl ?_|refine zcm ?_|refine zcn ?_))
 refine zcj rfl ?_
 repeat (first|refine zck ?_|refine zcl ?_|refine zcm ?_|refine zcn ?_)
 first|refine zcp (by kernel_rfl) ?_|refine zcq PP_mixed (by kernel_rfl) (by kernel_rfl) ?_
 repeat' (refine zap rfl ?_; first|refine zcb rfl ?_|refine zan rfl ?_|refine zey [] hn rfl rfl rfl zdj rfl ?_|refine zah [] ht rfl rfl rfl zdj rfl ?_|refine zae 0 rfl rfl rfl rfl rfl rfl rfl ?_)
 all_goals (refine zch ?_; repeat (first|refine zck ?_|refine zcl ?_|refine zcm ?_|refine zcn ?_))
 repeat (first|refine zck ?_|refine zcl ?_|refine zcm ?_|refine zcn ?_|refine zco ?_)
 exact zeg (zek (zel [] rfl (zem rfl (zeo 0 rfl rfl rfl) ⟨rfl, rfl, rfl⟩)))
theorem act_go (u : TypeId) (x : Value) (f : _root_.Go.Fn) (c1 c2 : Array Value) (p a v m : Int) (g : Option Addr) (gl gc : Nat) :
   FnE PP w0 [] 96 [taskV (.iface u x) (.func f c1 c2) p a v m (.slice g gl gc)] [] (.tuple #[actV p a v m, .bool true]) [] := by
 have hd := done_spec w0 u x f c1 c2 p a v m g gl gc
 refine zep en96 fn96 rfl rfl rfl ?_
 repeat (first|refine zck ?_|refine zcl ?_|refine zcm ?_|refine zcn ?_)
 first|refine zcp (by kernel_rfl) ?_|refine zcq PP_mixed (by kernel_rfl) (by kernel_rfl) ?_
 repeat' (refine zap rfl ?_; first|refine zar (fun t2 => ?_)|refine zan rfl ?_|refine zaq (cs := [_, _, _, _, _, _, _, _, _, _, _]) rfl (fun nb => ?_))
 all_goals (refine zch ?_; repeat (first|refine zck ?_|refine zcl ?_|refine zcm ?_|refine zcn ?_))
 refine zeb [0] rfl ?_
 repeat (first|refine zck ?_|refine zcl ?_|refine zcm ?_|refine zcn ?_)
 first|refine zcp (by kernel_rfl) ?_|refine zcq PP_mixed (by kernel_rfl) (by kernel_rfl) ?_
 repeat' (refine zap rfl ?_; first|refine zbx rfl ?_|refine zan rfl ?_|refine zaa 0 rfl rfl rfl ?_|refine zah [] hd rfl rfl rfl zdj rfl ?_|refine zao rfl ?_|refine zae 0 rfl rfl rfl rfl rfl rfl rfl ?_)
 all_goals (refine zch ?_; repeat (first|refine zck ?_|refine zcl ?_|refine zcm ?_|refine zcn ?_))
 repeat (first|refine zck ?_|refine zcl ?_|refine zcm ?_|refine zcn ?_|refine zco ?_)
 exact zeg (zek (zel [] rfl (zen rfl (zeo 0 rfl rfl rfl) rfl ⟨rfl, rfl, rfl⟩)))
theorem act_done (u : TypeId) (x : Value) (p a v m : Int) (g : Option Addr) (gl gc : Nat) :
   FnE PP w0 [] 96 [taskV (.iface u x) .nilFunc p a v m (.slice g gl gc)] [] (.tuple #[actV p a v m, .bool false]) [] := by
 have hd := done_nil w0 u x p a v m g gl gc
 refine zep en96 fn96 rfl rfl rfl ?_
 repeat (first|refine zck ?_|refine zcl ?_|refine zcm ?_|refine zcn ?_)
 first|refine zcp (by kernel_rfl) ?_|refine zcq PP_mixed (by kernel_rfl) (by kernel_rfl) ?_
 repeat' (refine zap rfl ?_; first|refine zar (fun t2 => ?_)|refine zan rfl ?_|refine zaq (cs := [_, _, _, _, _, _, _, _, _, _, _]) rfl (fun nb => ?_))
 all_goals (refine zch ?_; repeat (first|refine zck ?_|refine zcl ?_|refine zcm ?_|refine zcn ?_))
 refine zeb [0] rfl ?_
 repeat (first|refine zck ?_|refine zcl ?_|refine zcm ?_|refine zcn ?_)
 first|refine zcp (by kernel_rfl) ?_|refine zcq PP_mixed (by kernel_rfl) (by kernel_rfl) ?_
 repeat' (refine zap rfl ?_; first|refine zbx rfl ?_|refine zan rfl ?_|refine zaa 0 rfl rfl rfl ?_|refine zah [] hd rfl rfl rfl zdj rfl ?_|refine zao rfl ?_|refine zae 0 rfl rfl rfl rfl rfl rfl rfl ?_)
 all_goals (refine zch ?_; repeat (first|refine zck ?_|refine zcl ?_|refine zcm ?_|refine zcn ?_))
 repeat (first|refine zck ?_|refine zcl ?_|refine zcm ?_|refine zcn ?_|refine zco ?_)
 exact zeg (zek (zel [] rfl (zen rfl (zeo 0 rfl rfl rfl) rfl ⟨rfl, rfl, rfl⟩)))
end Go.Proofs.YtikackodhiollaaGreatDoor
namespace Sim.Tx
open Go Go.Vc Sim
def gotE (x : Int × Bool) : List Value := [.int .i64 x.1, .int .u32 0, .int .u32 0, .bool x.2]
end Sim.Tx
namespace Go.Proofs.YtikackodhiollaaGreatDoor
variable (w0 : World)
open Go.Vc Sim Sim.Tx
set_option maxHeartbeats 4000000
theorem clipG (g : Option Addr) (gl gc : Nat) (h : gl ≤ gc) (hb : gl ≤ 1000000) : FnE PP w0 [] 161 [.slice g gl gc] [] (.slice g gl gl) [] := by
 refine zep en161 fn161 rfl rfl rfl ?_
 repeat' (first|refine zck ?_|refine zcp (by kernel_rfl) ?_|(refine zap rfl ?_; first|refine reg_slice3 rfl rfl rfl (by omega) ?_|refine zan rfl ?_|refine zan rfl ?_|refine zce rfl ?_)|refine zch ?_)
 exact zej rfl ⟨rfl, rfl⟩
theorem give_go (sh : Shared) (u : TypeId) (x x' : Value) (f : FuncId) (hm : TMeth PP u x "Next" f) (p a v m p' a' v' m' w : Int) (ok : Bool) (g : Option Addr) (gl gc : Nat) (cs : List Value) (hg : RdCl w0 sh 4 g gl cs) (hl : gl ≤ gc) (hb : gl ≤ 100000)
   (hn : FnE PP w0 [] f [x, gotV w ok] [] (.tuple #[.iface u x', actV p' a' v' m', .bool false]) []) :
   Vc.Fn PP w0 sh 139 [taskV (.iface u x) (nextV (.iface u x)) p a v m (.slice g gl gc), gotV w ok] []
     (fun r Γ => ∃ nb cap, r = taskV (.iface u x') (nextV (.iface u x')) p' a' v' m' (.slice (some ⟨nb, 0, none⟩) (gl + 1) cap) ∧ Γ = [SlA 129 4 (some ⟨nb, 0, none⟩) (gl + 1) cap (cs ++ gotE (w, ok))]) := by
 have hd := done_spec w0 u x (.method "Next") #[.iface u x] #[] p a v m g gl gc
 have hc := clipG w0 g gl gc hl (by omega)
 refine zep en139 fn139 rfl rfl rfl ?_
 repeat (first|refine zck ?_|refine zcl ?_|refine zcm ?_|refine zcn ?_)
 first|refine zcp (by kernel_rfl) ?_|refine zcq PP_mixed (by kernel_rfl) (by kernel_rfl) ?_
 repeat' (refine zap rfl ?_; first|refine zar (fun t4 => ?_)|refine zaq (cs := [_, _, _, _]) rfl (fun nb => ?_)|refine zaq (cs := [_, _, _, _, _, _, _, _, _, _, _]) rfl (fun nb => ?_))
 all_goals (refine zch ?_; repeat (first|refine zck ?_|refine zcl ?_|refine zcm ?_|refine zcn ?_))
 refine zeb [1] rfl ?_
 repeat (first|refine zck ?_|refine zcl ?_|refine zcm ?_|refine zcn ?_)
 first|refine zcp (by kernel_rfl) ?_|refine zcq PP_mixed (by kernel_rfl) (by kernel_rfl) ?_
 repeat' (refine zap rfl ?_; first|refine zab 0 rfl rfl rfl ?_|refine zah [] hd rfl rfl rfl zdj rfl ?_)
 all_goals (refine zch ?_; repeat (first|refine zck ?_|refine zcl ?_|refine zcm ?_|refine zcn ?_))
 refine zcj rfl ?_
 repeat (first|refine zck ?_|refine zcl ?_|refine zcm ?_|refine zcn ?_)
 first|refine zcp (by kernel_rfl) ?_|refine zcq PP_mixed (by kernel_rfl) (by kernel_rfl) ?_
 repeat' (refine zap rfl ?_; first|refine zan rfl ?_|refine zab 0 rfl rfl rfl ?_|refine zao rfl ?_)
 all_goals (refine zch ?_; repeat (first|refine zck ?_|refine zcl ?_|refine zcm ?_|refine zcn ?_))
 repeat (first|refine zck ?_|refine zcl ?_|refine zcm ?_|refine zcn ?_|refine zco ?_)
 refine run_draw [.quiet, .read, .loud, .quiet, .loud, .loud, .quiet, .loud] PP_mixed (by kernel_rfl) (by kernel_rfl) ?_
 repeat' (refine zap rfl ?_; first|refine zdt rfl rfl rfl rfl rfl rfl (fun nb2 => ?_)|refine zaa 0 rfl rfl rfl ?_|refine zab 0 rfl rfl rfl ?_|refine zah [] hc rfl rfl rfl zdj rfl ?_|refine reg_append_full 2 rfl rfl (hg.mono (fun q hq => .tail _ hq)) rfl rfl rfl rfl (by omega) (by omega) (fun nb cap => ?_)|refine zao rfl ?_|refine zae 1 rfl rfl rfl rfl rfl rfl rfl ?_)
 refine zch ?_
 repeat (first|refine zck ?_|refine zcl ?_|refine zcm ?_|refine zcn ?_|refine zco ?_)
 refine zeb [1] rfl ?_
 have ht := told_go w0 u x (.method "Next") #[.iface u x] #[] p a v m (some ⟨nb, 0, none⟩) (gl + 1) cap u x' p' a' v' m'
 repeat (first|refine zck ?_|refine zcl ?_|refine zcm ?_|refine zcn ?_)
 first|refine zcp (by kernel_rfl) ?_|refine zcq PP_mixed (by kernel_rfl) (by kernel_rfl) ?_
 repeat' (refine zap rfl ?_; first|refine zan rfl ?_|refine zaa 0 rfl rfl rfl ?_|refine zaa 1 rfl rfl rfl ?_|refine reg_callM (hm := hm) [] hn rfl rfl rfl zdj (fun | _, _, ⟨rfl, rfl⟩ => ?_)|refine zah [] ht rfl rfl rfl zdj rfl ?_|refine zae 1 rfl rfl rfl rfl rfl rfl rfl ?_)
 all_goals (refine zch ?_; repeat (first|refine zck ?_|refine zcl ?_|refine zcm ?_|refine zcn ?_))
 repeat (first|refine zck ?_|refine zcl ?_|refine zcm ?_|refine zcn ?_|refine zco ?_)
 exact zeg (zek (zel [0] rfl (zem rfl (zeo 1 rfl rfl rfl) ⟨rfl, nb, cap, rfl, rfl⟩)))
theorem give_done (sh : Shared) (u : TypeId) (x x' : Value) (f : FuncId) (hm : TMeth PP u x "Next" f) (p a v m p' a' v' m' w : Int) (ok : Bool) (g : Option Addr) (gl gc : Nat) (cs : List Value) (hg : RdCl w0 sh 4 g gl cs) (hl : gl ≤ gc) (hb : gl ≤ 100000)
   (hn : FnE PP w0 [] f [x, gotV w ok] [] (.tuple #[.iface u x', actV p' a' v' m', .bool true]) []) :
   Vc.Fn PP w0 sh 139 [taskV (.iface u x) (nextV (.iface u x)) p a v m (.slice g gl gc), gotV w ok] []
     (fun r Γ => ∃ nb cap, r = taskV (.iface u x') .nilFunc 0 0 0 0 (.slice (some ⟨nb, 0, none⟩) (gl + 1) cap) ∧ Γ = [SlA 129 4 (some ⟨nb, 0, none⟩) (gl + 1) cap (cs ++ gotE (w, ok))]) := by
 have hd := done_spec w0 u x (.method "Next") #[.iface u x] #[] p a v m g gl gc
 have hc := clipG w0 g gl gc hl (by omega)
 refine zep en139 fn139 rfl rfl rfl ?_
 repeat (first|refine zck ?_|refine zcl ?_|refine zcm ?_|refine zcn ?_)
 first|refine zcp (by kernel_rfl) ?_|refine zcq PP_mixed (by kernel_rfl) (by kernel_rfl) ?_
 repeat' (refine zap rfl ?_; first|refine zar (fun t4 => ?_)|refine zaq (cs := [_, _, _, _]) rfl (fun nb => ?_)|refine zaq (cs := [_, _, _, _, _, _, _, _, _, _, _]) rfl (fun nb => ?_))
 all_goals (refine zch ?_; repeat (first|refine zck ?_|refine zcl ?_|refine zcm ?_|refine zcn ?_))
 refine zeb [1] rfl ?_
 repeat (first|refine zck ?_|refine zcl ?_|refine zcm ?_|refine zcn ?_)
 first|refine zcp (by kernel_rfl) ?_|refine zcq PP_mixed (by kernel_rfl) (by kernel_rfl) ?_
 repeat' (refine zap rfl ?_; first|refine zab 0 rfl rfl rfl ?_|refine zah [] hd rfl rfl rfl zdj rfl ?_)
 all_goals (refine zch ?_; repeat (first|refine zck ?_|refine zcl ?_|refine zcm ?_|refine zcn ?_))
 refine zcj rfl ?_
 repeat (first|refine zck ?_|refine zcl ?_|refine zcm ?_|refine zcn ?_)
 first|refine zcp (by kernel_rfl) ?_|refine zcq PP_mixed (by kernel_rfl) (by kernel_rfl) ?_
 repeat' (refine zap rfl ?_; first|refine zan rfl ?_|refine zab 0 rfl rfl rfl ?_|refine zao rfl ?_)
 all_goals (refine zch ?_; repeat (first|refine zck ?_|refine zcl ?_|refine zcm ?_|refine zcn ?_))
 repeat (first|refine zck ?_|refine zcl ?_|refine zcm ?_|refine zcn ?_|refine zco ?_)
 refine run_draw [.quiet, .read, .loud, .quiet, .loud, .loud, .quiet, .loud] PP_mixed (by kernel_rfl) (by kernel_rfl) ?_
 repeat' (refine zap rfl ?_; first|refine zdt rfl rfl rfl rfl rfl rfl (fun nb2 => ?_)|refine zaa 0 rfl rfl rfl ?_|refine zab 0 rfl rfl rfl ?_|refine zah [] hc rfl rfl rfl zdj rfl ?_|refine reg_append_full 2 rfl rfl (hg.mono (fun q hq => .tail _ hq)) rfl rfl rfl rfl (by omega) (by omega) (fun nb cap => ?_)|refine zao rfl ?_|refine zae 1 rfl rfl rfl rfl rfl rfl rfl ?_)
 refine zch ?_
 repeat (first|refine zck ?_|refine zcl ?_|refine zcm ?_|refine zcn ?_|refine zco ?_)
 refine zeb [1] rfl ?_
 have ht := told_done w0 u x (.method "Next") #[.iface u x] #[] p a v m (some ⟨nb, 0, none⟩) (gl + 1) cap u x' p' a' v' m'
 repeat (first|refine zck ?_|refine zcl ?_|refine zcm ?_|refine zcn ?_)
 first|refine zcp (by kernel_rfl) ?_|refine zcq PP_mixed (by kernel_rfl) (by kernel_rfl) ?_
 repeat' (refine zap rfl ?_; first|refine zan rfl ?_|refine zaa 0 rfl rfl rfl ?_|refine zaa 1 rfl rfl rfl ?_|refine reg_callM (hm := hm) [] hn rfl rfl rfl zdj (fun | _, _, ⟨rfl, rfl⟩ => ?_)|refine zah [] ht rfl rfl rfl zdj rfl ?_|refine zae 1 rfl rfl rfl rfl rfl rfl rfl ?_)
 all_goals (refine zch ?_; repeat (first|refine zck ?_|refine zcl ?_|refine zcm ?_|refine zcn ?_))
 repeat (first|refine zck ?_|refine zcl ?_|refine zcm ?_|refine zcn ?_|refine zco ?_)
 exact zeg (zek (zel [0] rfl (zem rfl (zeo 1 rfl rfl rfl) ⟨rfl, nb, cap, rfl, rfl⟩)))
end Go.Proofs.YtikackodhiollaaGreatDoor
namespace Sim.Tx
open Go Go.Vc Sim
structure Ms where
 v : Int
 th : Int
 vw : Option Nat
def msgE (x : Ms) : List Value := [.int .i64 x.v, .int .u32 0, .int .u32 0, .int .i64 x.th, .map x.vw]
end Sim.Tx
namespace Go.Proofs.YtikackodhiollaaGreatDoor
variable (w0 : World)
open Go.Vc Sim Sim.Tx
set_option maxHeartbeats 4000000
abbrev hisV (a : Option Addr) (n c : Nat) : Value := .agg (List.toArray [.slice a n c])
theorem hisLen (a : Option Addr) (n c : Nat) : FnE PP w0 [] 86 [hisV a n c] [] (.int .i64 n) [] := by
 refine zep en86 fn86 rfl rfl rfl ?_
 repeat (first|refine zck ?_|refine zcl ?_|refine zcm ?_|refine zcn ?_)
 first|refine zcp (by kernel_rfl) ?_|refine zcq PP_mixed (by kernel_rfl) (by kernel_rfl) ?_
 repeat' (refine zap rfl ?_; first|refine zan rfl ?_|refine zaq (cs := [_]) rfl (fun nb => ?_))
 all_goals (refine zch ?_; repeat (first|refine zck ?_|refine zcl ?_|refine zcm ?_|refine zcn ?_))
 refine zeb [0] rfl ?_
 repeat' (first|refine zcp (by kernel_rfl) ?_|(refine zap rfl ?_; first|refine zan rfl ?_|refine zaa 0 rfl rfl rfl ?_|refine zce rfl ?_|refine zao rfl ?_)|refine zch ?_)
 exact zej rfl ⟨rfl, rfl⟩
theorem hisAt (sh : Shared) (l : List Ms) (a : Option Addr) (c : Nat) (hl : RdSl w0 sh msgE 5 (.slice a l.length c) l) (i : Nat) (x : Ms) (hx : l[i]? = some x) :
   FnE PP w0 sh 87 [hisV a l.length c, .int .i64 i] [] (.tuple #[.agg (List.toArray (msgE x)), .bool true]) [] := by
 obtain ⟨b, off, cc, T, fr, rfl, e2, e3, _⟩ := hl.cells hx
 have hi : i < l.length := (List.getElem?_eq_some_iff.1 hx).1
 refine zep en87 fn87 rfl rfl rfl ?_
 repeat (first|refine zck ?_|refine zcl ?_|refine zcm ?_|refine zcn ?_)
 first|refine zcp (by kernel_rfl) ?_|refine zcq PP_mixed (by kernel_rfl) (by kernel_rfl) ?_
 repeat' (refine zap rfl ?_; first|refine zar (fun t4 => ?_)|refine zan rfl ?_|refine zaq (cs := [_]) rfl (fun nb => ?_))
 all_goals (refine zch ?_; repeat (first|refine zck ?_|refine zcl ?_|refine zcm ?_|refine zcn ?_))
 refine zeb [0] rfl ?_
 repeat (first|refine zck ?_|refine zcl ?_|refine zcm ?_|refine zcn ?_)
 first|refine zcp (by kernel_rfl) ?_|refine zcq PP_mixed (by kernel_rfl) (by kernel_rfl) ?_
 repeat' (refine zap rfl ?_; first|refine zaj rfl ?_|refine zan rfl ?_|refine zaa 0 rfl rfl rfl ?_|refine zce rfl ?_|refine zao rfl ?_|refine zbh rfl rfl (by omega) ?_|refine zbn rfl rfl (by omega) ?_|refine zbv rfl ?_)
 all_goals (refine zch ?_; repeat (first|refine zck ?_|refine zcl ?_|refine zcm ?_|refine zcn ?_))
 refine zcj rfl ?_
 repeat (first|refine zck ?_|refine zcl ?_|refine zcm ?_|refine zcn ?_)
 first|refine zcp (by kernel_rfl) ?_|refine zcq PP_mixed (by kernel_rfl) (by kernel_rfl) ?_
 repeat' (refine zap rfl ?_; first|refine zad rfl (fun hF Γ w h1 h2 => e2 hF Γ w (fun p hp => h1 p (.tail _ hp)) h2) (e3 _ (by omega)) ?_|refine zan rfl ?_|refine zaa 0 rfl rfl rfl ?_|refine zao rfl ?_|refine zae 0 rfl rfl rfl rfl rfl rfl rfl ?_|refine zas rfl rfl (by omega) ?_)
 all_goals (refine zch ?_; repeat (first|refine zck ?_|refine zcl ?_|refine zcm ?_|refine zcn ?_))
 repeat (first|refine zck ?_|refine zcl ?_|refine zcm ?_|refine zcn ?_|refine zco ?_)
 exact zeg (zek (zel [] rfl (zen rfl (zeo 0 rfl rfl rfl) rfl ⟨rfl, rfl, rfl⟩)))
theorem hisLast (sh : Shared) (l : List Ms) (a : Option Addr) (c : Nat) (hl : RdSl w0 sh msgE 5 (.slice a l.length c) l) (x : Ms) (hx : l[l.length - 1]? = some x) (hb : l.length ≤ 1000000) :
   FnE PP w0 sh 152 [hisV a l.length c] [] (.agg (List.toArray (msgE x))) [] := by
 have hi : 0 < l.length := by have := (List.getElem?_eq_some_iff.1 hx).1; omega
 have ha := hisAt w0 sh l a c hl (l.length - 1) x hx
 rw [show ((l.length - 1 : Nat) : Int) = (l.length : Int) - 1 by omega] at ha
 refine zep en152 fn152 rfl rfl rfl ?_
 repeat (first|refine zck ?_|refine zcl ?_|refine zcm ?_|refine zcn ?_)
 first|refine zcp (by kernel_rfl) ?_|refine zcq PP_mixed (by kernel_rfl) (by kernel_rfl) ?_
 repeat' (refine zap rfl ?_; first|refine zar (fun t2 => ?_)|refine zaq (cs := [_]) rfl (fun nb => ?_))
 all_goals (refine zch ?_; repeat (first|refine zck ?_|refine zcl ?_|refine zcm ?_|refine zcn ?_))
 refine zeb [0] rfl ?_
 repeat (first|refine zck ?_|refine zcl ?_|refine zcm ?_|refine zcn ?_)
 first|refine zcp (by kernel_rfl) ?_|refine zcq PP_mixed (by kernel_rfl) (by kernel_rfl) ?_
 repeat' (refine zap rfl ?_; first|refine zar (fun t3 => ?_)|refine zan rfl ?_|refine zaa 0 rfl rfl rfl ?_|refine zce rfl ?_|refine zah [] ha rfl rfl rfl (fun p hp => .tail _ hp) rfl ?_|refine zao rfl ?_|refine zav rfl rfl (by omega) ?_|refine zae 1 rfl rfl rfl rfl rfl rfl rfl ?_)
 all_goals (refine zch ?_; repeat (first|refine zck ?_|refine zcl ?_|refine zcm ?_|refine zcn ?_))
 repeat' (first|refine zcp (by kernel_rfl) ?_|(refine zap rfl ?_; first|refine zab 1 rfl rfl rfl ?_|refine zae 0 rfl rfl rfl rfl rfl rfl rfl ?_)|refine zch ?_)
 first|exact zeg (zek (zel [] rfl (zem rfl (zeo 0 rfl rfl rfl) ⟨rfl, rfl, rfl⟩)))|exact zeg (zek (zel [] rfl (zem rfl (zeo 1 rfl rfl rfl) ⟨rfl, rfl, rfl⟩)))
end Go.Proofs.YtikackodhiollaaGreatDoor
namespace Go.Proofs.YtikackodhiollaaGreatDoor
variable (w0 : World)
open Go.Vc Sim Sim.Tx
set_option maxHeartbeats 4000000
theorem clipM (g : Option Addr) (gl gc : Nat) (h : gl ≤ gc) (hb : gl ≤ 1000000) : FnE PP w0 [] 202 [.slice g gl gc] [] (.slice g gl gl) [] := by
 refine zep en202 fn202 rfl rfl rfl ?_
 repeat' (first|refine zck ?_|refine zcp (by kernel_rfl) ?_|(refine zap rfl ?_; first|refine reg_slice3 rfl rfl rfl (by omega) ?_|refine zan rfl ?_|refine zan rfl ?_|refine zce rfl ?_)|refine zch ?_)
 exact zej rfl ⟨rfl, rfl⟩
theorem hisNew (v : Int) : Vc.Fn PP w0 [] 43 [.agg (List.toArray [.int .i64 v, .int .u32 0, .int .u32 0])] []
   (fun r Γ => ∃ nb, r = hisV (some ⟨nb, 0, none⟩) 1 1 ∧ Γ = [pt nb (.cells (List.toArray (msgE ⟨v, 0, none⟩)) 167 (0, 0))]) := by
 refine zep en43 fn43 rfl rfl rfl ?_
 repeat (first|refine zck ?_|refine zcl ?_|refine zcm ?_|refine zcn ?_)
 first|refine zcp (by kernel_rfl) ?_|refine zcq PP_mixed (by kernel_rfl) (by kernel_rfl) ?_
 repeat' (refine zap rfl ?_; first|refine zar (fun t2 => ?_)|refine zaq (cs := [_, _, _]) rfl (fun nb => ?_))
 all_goals (refine zch ?_; repeat (first|refine zck ?_|refine zcl ?_|refine zcm ?_|refine zcn ?_))
 refine zeb [0] rfl ?_
 repeat (first|refine zck ?_|refine zcl ?_|refine zcm ?_|refine zcn ?_)
 first|refine zcp (by kernel_rfl) ?_|refine zcq PP_mixed (by kernel_rfl) (by kernel_rfl) ?_
 repeat' (refine zap rfl ?_; first|refine zcb rfl ?_|refine zdt rfl rfl rfl rfl rfl rfl (fun nb2 => ?_)|refine zaa 0 rfl rfl rfl ?_|refine zae 0 rfl rfl rfl rfl rfl rfl rfl ?_)
 all_goals (refine zch ?_; repeat (first|refine zck ?_|refine zcl ?_|refine zcm ?_|refine zcn ?_))
 repeat (first|refine zck ?_|refine zcl ?_|refine zcm ?_|refine zcn ?_|refine zco ?_)
 exact zeg (zek (zel [1] rfl (zem rfl (zeo 0 rfl rfl rfl) ⟨rfl, nb2, rfl, rfl⟩)))
theorem hisAdd (sh : Shared) (g : Option Addr) (gl gc : Nat) (cs : List Value) (hg : RdCl w0 sh 5 g gl cs) (hl : gl ≤ gc) (hb : gl ≤ 100000) (x : Ms) :
   Vc.Fn PP w0 sh 193 [hisV g gl gc, .agg (List.toArray (msgE x))] []
     (fun r Γ => ∃ nb cap, r = hisV (some ⟨nb, 0, none⟩) (gl + 1) cap ∧ Γ = [SlA 167 5 (some ⟨nb, 0, none⟩) (gl + 1) cap (cs ++ msgE x)]) := by
 have hc := clipM w0 g gl gc hl (by omega)
 obtain ⟨xv, xt, xw⟩ := x
 refine zep en193 fn193 rfl rfl rfl ?_
 repeat (first|refine zck ?_|refine zcl ?_|refine zcm ?_|refine zcn ?_)
 first|refine zcp (by kernel_rfl) ?_|refine zcq PP_mixed (by kernel_rfl) (by kernel_rfl) ?_
 repeat' (refine zap rfl ?_; first|refine zar (fun t4 => ?_)|refine zaq (cs := [_]) rfl (fun nb => ?_)|refine zaq (cs := [_, _, _, _, _]) rfl (fun nb => ?_))
 all_goals (refine zch ?_; repeat (first|refine zck ?_|refine zcl ?_|refine zcm ?_|refine zcn ?_))
 refine zeb [0] rfl ?_
 refine zeb [0] rfl ?_
 repeat (first|refine zck ?_|refine zcl ?_|refine zcm ?_|refine zcn ?_)
 first|refine zcp (by kernel_rfl) ?_|refine zcq PP_mixed (by kernel_rfl) (by kernel_rfl) ?_
 repeat' (refine zap rfl ?_; first|refine zcb rfl ?_|refine zdt rfl rfl rfl rfl rfl rfl (fun nb2 => ?_)|refine zaa 0 rfl rfl rfl ?_|refine zaa 1 rfl rfl rfl ?_|refine zah [] hc rfl rfl rfl zdj rfl ?_|refine reg_append_full 1 rfl rfl (hg.mono (fun q hq => .tail _ (.tail _ hq))) rfl rfl rfl rfl (by omega) (by omega) (fun nb cap => ?_)|refine zao rfl ?_|refine zae 1 rfl rfl rfl rfl rfl rfl rfl ?_)
 all_goals (refine zch ?_; repeat (first|refine zck ?_|refine zcl ?_|refine zcm ?_|refine zcn ?_))
 repeat (first|refine zck ?_|refine zcl ?_|refine zcm ?_|refine zcn ?_|refine zco ?_)
 exact zeg (zek (zel [0] rfl (zem rfl (zeo 1 rfl rfl rfl) ⟨rfl, nb, cap, rfl, rfl⟩)))
abbrev memV (pa : Option Addr) (pn pc : Nat) (va : Option Addr) (vn vc : Nat) : Value := .agg (List.toArray [.slice pa pn pc, .slice va vn vc])
theorem memSize (pa : Option Addr) (pn pc : Nat) (va : Option Addr) (vn vc : Nat) : FnE PP w0 [] 45 [memV pa pn pc va vn vc] [] (.tuple #[.int .i64 vn, .int .i64 pn]) [] := by
 refine zep en45 fn45 rfl rfl rfl ?_
 repeat (first|refine zck ?_|refine zcl ?_|refine zcm ?_|refine zcn ?_)
 first|refine zcp (by kernel_rfl) ?_|refine zcq PP_mixed (by kernel_rfl) (by kernel_rfl) ?_
 repeat' (refine zap rfl ?_; first|refine zan rfl ?_|refine zaq (cs := [_, _]) rfl (fun nb => ?_))
 all_goals (refine zch ?_; repeat (first|refine zck ?_|refine zcl ?_|refine zcm ?_|refine zcn ?_))
 refine zeb [0] rfl ?_
 repeat (first|refine zck ?_|refine zcl ?_|refine zcm ?_|refine zcn ?_)
 first|refine zcp (by kernel_rfl) ?_|refine zcq PP_mixed (by kernel_rfl) (by kernel_rfl) ?_
 repeat' (refine zap rfl ?_; first|refine zan rfl ?_|refine zaa 0 rfl rfl rfl ?_|refine zce rfl ?_|refine zao rfl ?_)
 all_goals (refine zch ?_; repeat (first|refine zck ?_|refine zcl ?_|refine zcm ?_|refine zcn ?_))
 repeat (first|refine zck ?_|refine zcl ?_|refine zcm ?_|refine zcn ?_|refine zco ?_)
 exact zei rfl ⟨rfl, rfl⟩
theorem memThread (pa : Option Addr) (pn pc : Nat) (va : Option Addr) (vn vc : Nat) (t : Int) (ht : 1 ≤ t ∧ t ≤ vn) : FnE PP w0 [] 127 [memV pa pn pc va vn vc, .int .i64 t] [] (.bool true) [] := by
 refine zep en127 fn127 rfl rfl rfl ?_
 repeat (first|refine zck ?_|refine zcl ?_|refine zcm ?_|refine zcn ?_)
 first|refine zcp (by kernel_rfl) ?_|refine zcq PP_mixed (by kernel_rfl) (by kernel_rfl) ?_
 repeat' (refine zap rfl ?_; first|refine zan rfl ?_|refine zaq (cs := [_, _]) rfl (fun nb => ?_))
 all_goals (refine zch ?_; repeat (first|refine zck ?_|refine zcl ?_|refine zcm ?_|refine zcn ?_))
 refine zeb [0] rfl ?_
 repeat' (first|refine zcp (by kernel_rfl) ?_|(refine zap rfl ?_; first|refine zaj rfl ?_|refine zan rfl ?_|refine zan rfl ?_|refine zaa 0 rfl rfl rfl ?_|refine zce rfl ?_|refine zao rfl ?_|refine zbi rfl rfl (by omega) ?_|refine zbm rfl rfl (by omega) ?_|refine zbu rfl ?_)|refine zch ?_)
 exact zej rfl ⟨rfl, rfl⟩
theorem memPlace (pa : Option Addr) (pn pc : Nat) (va : Option Addr) (vn vc : Nat) (t : Int) (ht : 0 ≤ t ∧ t < pn) : FnE PP w0 [] 125 [memV pa pn pc va vn vc, .int .i64 t] [] (.bool true) [] := by
 refine zep en125 fn125 rfl rfl rfl ?_
 repeat (first|refine zck ?_|refine zcl ?_|refine zcm ?_|refine zcn ?_)
 first|refine zcp (by kernel_rfl) ?_|refine zcq PP_mixed (by kernel_rfl) (by kernel_rfl) ?_
 repeat' (refine zap rfl ?_; first|refine zan rfl ?_|refine zaq (cs := [_, _]) rfl (fun nb => ?_))
 all_goals (refine zch ?_; repeat (first|refine zck ?_|refine zcl ?_|refine zcm ?_|refine zcn ?_))
 refine zeb [0] rfl ?_
 repeat' (first|refine zcp (by kernel_rfl) ?_|(refine zap rfl ?_; first|refine zaj rfl ?_|refine zan rfl ?_|refine zan rfl ?_|refine zaa 0 rfl rfl rfl ?_|refine zce rfl ?_|refine zao rfl ?_|refine zbg rfl rfl (by omega) ?_|refine zbm rfl rfl (by omega) ?_|refine zbu rfl ?_)|refine zch ?_)
 exact zej rfl ⟨rfl, rfl⟩
end Go.Proofs.YtikackodhiollaaGreatDoor
namespace Sim.Tx
open Go Go.Vc Sim
structure Hs where
 a : Option Addr
 n : Nat
 c : Nat
def hsE (x : Hs) : List Value := [.slice x.a x.n x.c]
def vwE (x : Option Nat) : List Value := [.map x]
end Sim.Tx
namespace Go.Proofs.YtikackodhiollaaGreatDoor
variable (w0 : World)
open Go.Vc Sim Sim.Tx
set_option maxHeartbeats 4000000
theorem memHistory (sh : Shared) (pa : Option Addr) (pc : Nat) (va : Option Addr) (vn vc : Nat) (l : List Hs) (hl : RdSl w0 sh hsE 1 (.slice pa l.length pc) l) (i : Nat) (x : Hs) (hx : l[i]? = some x) :
   FnE PP w0 sh 85 [memV pa l.length pc va vn vc, .int .i64 i] [] (.tuple #[hisV x.a x.n x.c, .bool true]) [] := by
 have hi : i < l.length := (List.getElem?_eq_some_iff.1 hx).1
 have hp := memPlace w0 pa l.length pc va vn vc i (by omega)
 obtain ⟨b, off, cc, T, fr, rfl, e2, e3, _⟩ := hl.cells hx
 refine zep en85 fn85 rfl rfl rfl ?_
 repeat (first|refine zck ?_|refine zcl ?_|refine zcm ?_|refine zcn ?_)
 first|refine zcp (by kernel_rfl) ?_|refine zcq PP_mixed (by kernel_rfl) (by kernel_rfl) ?_
 repeat' (refine zap rfl ?_; first|refine zar (fun t4 => ?_)|refine zan rfl ?_|refine zaq (cs := [_, _]) rfl (fun nb => ?_))
 all_goals (refine zch ?_; repeat (first|refine zck ?_|refine zcl ?_|refine zcm ?_|refine zcn ?_))
 refine zeb [0] rfl ?_
 repeat (first|refine zck ?_|refine zcl ?_|refine zcm ?_|refine zcn ?_)
 first|refine zcp (by kernel_rfl) ?_|refine zcq PP_mixed (by kernel_rfl) (by kernel_rfl) ?_
 repeat' (refine zap rfl ?_; first|refine zbx rfl ?_|refine zan rfl ?_|refine zaa 0 rfl rfl rfl ?_|refine zah [] hp rfl rfl rfl zdj rfl ?_)
 all_goals (refine zch ?_; repeat (first|refine zck ?_|refine zcl ?_|refine zcm ?_|refine zcn ?_))
 refine zcj rfl ?_
 repeat (first|refine zck ?_|refine zcl ?_|refine zcm ?_|refine zcn ?_)
 first|refine zcp (by kernel_rfl) ?_|refine zcq PP_mixed (by kernel_rfl) (by kernel_rfl) ?_
 repeat' (refine zap rfl ?_; first|refine zad rfl (fun hF Γ w h1 h2 => e2 hF Γ w (fun p hp => h1 p (.tail _ hp)) h2) (e3 _ (by omega)) ?_|refine zan rfl ?_|refine zaa 0 rfl rfl rfl ?_|refine zao rfl ?_|refine zae 0 rfl rfl rfl rfl rfl rfl rfl ?_|refine zas rfl rfl (by omega) ?_)
 all_goals (refine zch ?_; repeat (first|refine zck ?_|refine zcl ?_|refine zcm ?_|refine zcn ?_))
 repeat (first|refine zck ?_|refine zcl ?_|refine zcm ?_|refine zcn ?_|refine zco ?_)
 exact zeg (zek (zel [] rfl (zen rfl (zeo 0 rfl rfl rfl) rfl ⟨rfl, rfl, rfl⟩)))
theorem memLast (sh : Shared) (pa : Option Addr) (pc : Nat) (va : Option Addr) (vn vc : Nat) (l : List Hs) (hl : RdSl w0 sh hsE 1 (.slice pa l.length pc) l) (i : Nat) (c : Nat) (a : Option Addr) (ms : List Ms) (hx : l[i]? = some ⟨a, ms.length, c⟩)
   (hms : RdSl w0 sh msgE 5 (.slice a ms.length c) ms) (m : Ms) (hm : ms[ms.length - 1]? = some m) (hb : ms.length ≤ 1000000) :
   FnE PP w0 sh 132 [memV pa l.length pc va vn vc, .int .i64 i] [] (.tuple #[.agg (List.toArray [.int .i64 m.v, .int .u32 0, .int .u32 0]), .bool true]) [] := by
 have hh := memHistory w0 sh pa pc va vn vc l hl i _ hx
 have hla := hisLast w0 sh ms a c hms m hm hb
 obtain ⟨mv, mt, mw⟩ := m
 refine zep en132 fn132 rfl rfl rfl ?_
 repeat (first|refine zck ?_|refine zcl ?_|refine zcm ?_|refine zcn ?_)
 first|refine zcp (by kernel_rfl) ?_|refine zcq PP_mixed (by kernel_rfl) (by kernel_rfl) ?_
 repeat' (refine zap rfl ?_; first|refine zar (fun t4 => ?_)|refine zan rfl ?_|refine zaq (cs := [_, _]) rfl (fun nb => ?_))
 all_goals (refine zch ?_; repeat (first|refine zck ?_|refine zcl ?_|refine zcm ?_|refine zcn ?_))
 refine zeb [0] rfl ?_
 repeat (first|refine zck ?_|refine zcl ?_|refine zcm ?_|refine zcn ?_)
 first|refine zcp (by kernel_rfl) ?_|refine zcq PP_mixed (by kernel_rfl) (by kernel_rfl) ?_
 repeat' (refine zap rfl ?_; first|refine zar (fun t6 => ?_)|refine zan rfl ?_|refine zaa 0 rfl rfl rfl ?_|refine zah [] hh rfl rfl rfl (fun p hp => .tail _ hp) rfl ?_|refine zae 1 rfl rfl rfl rfl rfl rfl rfl ?_)
 all_goals (refine zch ?_; repeat (first|refine zck ?_|refine zcl ?_|refine zcm ?_|refine zcn ?_))
 repeat' (first|refine zcp (by kernel_rfl) ?_|(refine zap rfl ?_; first|refine reg_fieldV rfl rfl ?_|refine zan rfl ?_|refine zan rfl ?_|refine zab 1 rfl rfl rfl ?_|refine zah [] hla rfl rfl rfl (fun p hp => .tail _ hp) rfl ?_|refine zae 0 rfl rfl rfl rfl rfl rfl rfl ?_)|refine zch ?_)
 first|exact zeg (zek (zel [] rfl (zen rfl (zeo 0 rfl rfl rfl) rfl ⟨rfl, rfl, rfl⟩)))|exact zeg (zek (zel [] rfl (zen rfl (zeo 1 rfl rfl rfl) rfl ⟨rfl, rfl, rfl⟩)))
abbrev viewV (x : Option Nat) : Value := .agg (List.toArray [.map x])
theorem memSeen (sh : Shared) (pa : Option Addr) (pn pc : Nat) (va : Option Addr) (vc : Nat) (l : List (Option Nat)) (hl : RdSl w0 sh vwE 1 (.slice va l.length vc) l) (i : Nat) (x : Option Nat) (hx : l[i]? = some x) (hb : l.length ≤ 1000) :
   FnE PP w0 sh 89 [memV pa pn pc va l.length vc, .int .i64 ((i : Int) + 1)] [] (viewV x) [] := by
 have hi : i < l.length := (List.getElem?_eq_some_iff.1 hx).1
 have hp := memThread w0 pa pn pc va l.length vc ((i : Int) + 1) (by omega)
 obtain ⟨b, off, cc, T, fr, rfl, e2, e3, _⟩ := hl.cells hx
 refine zep en89 fn89 rfl rfl rfl ?_
 repeat (first|refine zck ?_|refine zcl ?_|refine zcm ?_|refine zcn ?_)
 first|refine zcp (by kernel_rfl) ?_|refine zcq PP_mixed (by kernel_rfl) (by kernel_rfl) ?_
 repeat' (refine zap rfl ?_; first|refine zar (fun t4 => ?_)|refine zaq (cs := [_, _]) rfl (fun nb => ?_))
 all_goals (refine zch ?_; repeat (first|refine zck ?_|refine zcl ?_|refine zcm ?_|refine zcn ?_))
 refine zeb [0] rfl ?_
 repeat (first|refine zck ?_|refine zcl ?_|refine zcm ?_|refine zcn ?_)
 first|refine zcp (by kernel_rfl) ?_|refine zcq PP_mixed (by kernel_rfl) (by kernel_rfl) ?_
 repeat' (refine zap rfl ?_; first|refine zbx rfl ?_|refine zan rfl ?_|refine zaa 0 rfl rfl rfl ?_|refine zah [] hp rfl rfl rfl zdj rfl ?_)
 all_goals (refine zch ?_; repeat (first|refine zck ?_|refine zcl ?_|refine zcm ?_|refine zcn ?_))
 refine zcj rfl ?_
 repeat (first|refine zck ?_|refine zcl ?_|refine zcm ?_|refine zcn ?_)
 first|refine zcp (by kernel_rfl) ?_|refine zcq PP_mixed (by kernel_rfl) (by kernel_rfl) ?_
 repeat' (refine zap rfl ?_; first|refine zad rfl (fun hF Γ w h1 h2 => e2 hF Γ w (fun p hp => h1 p (.tail _ hp)) h2) (e3 _ (by omega)) ?_|refine zan rfl ?_|refine zaa 0 rfl rfl rfl ?_|refine zao rfl ?_|refine zav rfl rfl (by omega) ?_|refine zae 0 rfl rfl rfl rfl rfl rfl rfl ?_|refine zas rfl rfl (by omega) ?_)
 all_goals (refine zch ?_; repeat (first|refine zck ?_|refine zcl ?_|refine zcm ?_|refine zcn ?_))
 repeat (first|refine zck ?_|refine zcl ?_|refine zcm ?_|refine zcn ?_|refine zco ?_)
 exact zeg (zek (zel [] rfl (zem rfl (zeo 0 rfl rfl rfl) ⟨rfl, rfl, rfl⟩)))
end Go.Proofs.YtikackodhiollaaGreatDoor
namespace Sim.Tx
open Go Go.Vc Sim
abbrev kvL : Int → Value := fun x => Value.int .i64 x
def VwOk (ml : GM Int) : Prop := (ml.map (·.1)).Nodup ∧ ∀ p ∈ ml, (p.1 = 0 ∨ p.1 = 1) ∧ ∃ z : Int, p.2 = .int .i64 z ∧ 0 ≤ z ∧ z ≤ 1000000
def RdVw (w0 : World) (sh : Shared) (m : Option Nat) : Prop := ∃ es clock ml, RdV kvL w0 sh m es clock ml ∧ VwOk ml
theorem RdVw.mono {w0 : World} {sh sh' : Shared} {m : Option Nat} (h : RdVw w0 sh m) (hs : ∀ p ∈ sh, p ∈ sh') : RdVw w0 sh' m := by
 obtain ⟨es, c, ml, h1, h2⟩ := h
 exact ⟨es, c, ml, h1.mono hs, h2⟩
theorem RdVw.nil {w0 : World} {sh : Shared} : RdVw w0 sh none := ⟨[], 0, [], RdV.nil, List.nodup_nil, fun p hp => by cases hp⟩
theorem lookG_mem {κ : Type} [DecidableEq κ] : ∀ {ml : GM κ} {a : κ} {v : Value}, lookG ml a = some v → (a, v) ∈ ml
 | [], _, _, h => by cases h
 | (b, u) :: r, a, v, h => by
   simp only [lookG] at h
   split at h
   · rename_i e; cases h; subst e; exact .head _
   · exact .tail _ (lookG_mem h)
theorem insG_fst {κ : Type} [DecidableEq κ] (u : Value) : ∀ (ml : GM κ) (a : κ), (insG ml a u).map (·.1) = if a ∈ ml.map (·.1) then ml.map (·.1) else ml.map (·.1) ++ [a]
 | [], a => by simp [insG]
 | (b, v) :: r, a => by
   simp only [insG]
   by_cases e : b = a
   · subst e; simp
   · have ih := insG_fst u r a
     rw [if_neg e, List.map_cons, ih]
     have e' : ¬ a = b := fun h => e h.symm
     by_cases h : a ∈ r.map (·.1)
     · rw [if_pos h, if_pos (by rw [List.map_cons]; exact .tail _ h), List.map_cons]
     · rw [if_neg h, if_neg (by rw [List.map_cons, List.mem_cons]; rintro (h2 | h2); exact e' h2; exact h h2), List.map_cons, List.cons_append]
theorem insG_mem {κ : Type} [DecidableEq κ] {u : Value} : ∀ {ml : GM κ} {a : κ} {p : κ × Value}, p ∈ insG ml a u → p = (a, u) ∨ p ∈ ml
 | [], _, _, h => .inl (List.mem_singleton.1 h)
 | (b, v) :: r, a, p, h => by
   simp only [insG] at h
   split at h
   · rename_i e
     rcases List.mem_cons.1 h with h | h
     · left; rw [h, e]
     · exact .inr (.tail _ h)
   · rcases List.mem_cons.1 h with h | h
     · exact .inr (h ▸ .head _)
     · exact (insG_mem h).imp id (.tail _)
theorem VwOk.look {ml : GM Int} (h : VwOk ml) (a : Int) : ∃ z : Int, (lookG ml a).getD (.int .i64 0) = .int .i64 z ∧ 0 ≤ z ∧ z ≤ 1000000 := by
 cases hl : lookG ml a with
 | none => exact ⟨0, rfl, by omega, by omega⟩
 | some v =>
   obtain ⟨_, z, e, h1, h2⟩ := h.2 _ (lookG_mem hl)
   exact ⟨z, e, h1, h2⟩
theorem VwOk.ins {ml : GM Int} (h : VwOk ml) {a z : Int} (ha : a = 0 ∨ a = 1) (hz : 0 ≤ z ∧ z ≤ 1000000) : VwOk (insG ml a (.int .i64 z)) := by
 refine ⟨?_, fun p hp => ?_⟩
 · rw [insG_fst]
   split
   · exact h.1
   · rename_i hn
     exact List.nodup_append.2 ⟨h.1, List.nodup_cons.2 ⟨by simp, List.nodup_nil⟩, fun x hx y hy e => by
       rw [List.mem_singleton.1 hy] at e; subst e; exact hn hx⟩
 · rcases insG_mem hp with rfl | hp
   · exact ⟨ha, z, rfl, hz⟩
   · exact h.2 p hp
theorem VwOk.nil : VwOk [] := ⟨List.nodup_nil, fun p hp => by cases hp⟩
theorem mk_map {P : Program} {t kt et : TypeId} [hT : TUnd P t (.map kt et)] (v : Value) (w : World) : (Instr.makeInterface t v).run P w = .ok (.iface t v) w := by
 simp only [Instr.makeInterface, Sem.run_bind, run_underlying hT.und, Result.andThen_ok, Sem.run_pure]
end Sim.Tx
namespace Go.Proofs.YtikackodhiollaaGreatDoor
variable (w0 : World)
open Go.Vc Sim Sim.Tx
set_option maxHeartbeats 4000000
instance keyLoc : KeyK PP 24 kvL := keyK_int (kd := .i64) (by rw [PP_def]; exact Tryz.underlying24)
theorem clone_ext (args : Array Value) (w : World) : (callFunc 67 args).run PP w = ((Extern.MapsClone.clone args).run PP w).andThen fun v w' => .ok (.value v) w' := by
 rw [PP_def]
 exact run_callFunc_extern Tryz.func67 (by kernel_rfl) (by kernel_rfl) (by kernel_rfl) (by kernel_rfl) args w
theorem cloneL_nil : FnE PP w0 [] 201 [.map none] [] (.map none) [] := by
 refine zep en201 fn201 rfl rfl rfl ?_
 repeat (first|refine zck ?_|refine zcl ?_|refine zcm ?_|refine zcn ?_)
 first|refine zcp (by kernel_rfl) ?_|refine zcq PP_mixed (by kernel_rfl) (by kernel_rfl) ?_
 repeat' (refine zap rfl ?_; first|refine zan rfl ?_)
 all_goals (refine zch ?_; repeat (first|refine zck ?_|refine zcl ?_|refine zcm ?_|refine zcn ?_))
 first|refine zcp (by kernel_rfl) ?_|refine zcq PP_mixed (by kernel_rfl) (by kernel_rfl) ?_
 repeat' (refine zap rfl ?_; first|refine reg_eq_mapN rfl rfl ?_|refine zan rfl ?_)
 all_goals (refine zch ?_; repeat (first|refine zck ?_|refine zcl ?_|refine zcm ?_|refine zcn ?_))
 refine zci rfl ?_
 repeat (first|refine zck ?_|refine zcl ?_|refine zcm ?_|refine zcn ?_)
 first|refine zcp (by kernel_rfl) ?_|refine zcq PP_mixed (by kernel_rfl) (by kernel_rfl) ?_
 repeat' (refine zap rfl ?_; first|refine zan rfl ?_)
 all_goals (refine zch ?_; repeat (first|refine zck ?_|refine zcl ?_|refine zcm ?_|refine zcn ?_))
 exact zej rfl ⟨rfl, rfl⟩
theorem cloneL_some (sh : Shared) (r : Nat) (es : List MapEntry) (clock : Nat) (ml : GM Int) (hX : RdG kvL w0 sh r es clock ml) :
   Vc.Fn PP w0 sh 201 [.map (some r)] [] (fun v Γ => ∃ nb, v = .map (some nb) ∧ Γ = [MapG kvL nb ml]) := by
 refine zep en201 fn201 rfl rfl rfl ?_
 repeat (first|refine zck ?_|refine zcl ?_|refine zcm ?_|refine zcn ?_)
 first|refine zcp (by kernel_rfl) ?_|refine zcq PP_mixed (by kernel_rfl) (by kernel_rfl) ?_
 repeat' (refine zap rfl ?_; first|refine zan rfl ?_)
 all_goals (refine zch ?_; repeat (first|refine zck ?_|refine zcl ?_|refine zcm ?_|refine zcn ?_))
 first|refine zcp (by kernel_rfl) ?_|refine zcq PP_mixed (by kernel_rfl) (by kernel_rfl) ?_
 repeat' (refine zap rfl ?_; first|refine reg_eq_mapS rfl rfl ?_|refine zan rfl ?_)
 all_goals (refine zch ?_; repeat (first|refine zck ?_|refine zcl ?_|refine zcm ?_|refine zcn ?_))
 refine zcj rfl ?_
 repeat (first|refine zck ?_|refine zcl ?_|refine zcm ?_|refine zcn ?_)
 first|refine zcp (by kernel_rfl) ?_|refine zcq PP_mixed (by kernel_rfl) (by kernel_rfl) ?_
 repeat' (refine zap rfl ?_; first|refine reg_mkI (mk_map _) rfl ?_|refine reg_assertM rfl ?_|refine zan rfl ?_|refine reg_clone clone_ext rfl rfl hX (fun nb => ?_))
 all_goals (refine zch ?_; repeat (first|refine zck ?_|refine zcl ?_|refine zcm ?_|refine zcn ?_))
 exact zej rfl ⟨nb, rfl, rfl⟩
theorem viewAt (sh : Shared) (m : Option Nat) (es : List MapEntry) (clock : Nat) (ml : GM Int) (hX : RdV kvL w0 sh m es clock ml) (a : Int) :
   FnE PP w0 sh 97 [viewV m, .int .i64 a] [] ((lookG ml a).getD (.int .i64 0)) [] := by
 refine zep en97 fn97 rfl rfl rfl ?_
 repeat (first|refine zck ?_|refine zcl ?_|refine zcm ?_|refine zcn ?_)
 first|refine zcp (by kernel_rfl) ?_|refine zcq PP_mixed (by kernel_rfl) (by kernel_rfl) ?_
 repeat' (refine zap rfl ?_; first|refine zan rfl ?_|refine zaq (cs := [_]) rfl (fun nb => ?_))
 all_goals (refine zch ?_; repeat (first|refine zck ?_|refine zcl ?_|refine zcm ?_|refine zcn ?_))
 refine zeb [0] rfl ?_
 repeat (first|refine zck ?_|refine zcl ?_|refine zcm ?_|refine zcn ?_)
 first|refine zcp (by kernel_rfl) ?_|refine zcq PP_mixed (by kernel_rfl) (by kernel_rfl) ?_
 repeat' (refine zap rfl ?_; first|refine reg_lookupV (hX.mono (fun p hp => .tail _ hp)) rfl rfl rfl ?_|refine zan rfl ?_|refine zaa 0 rfl rfl rfl ?_|refine zao rfl ?_)
 all_goals (refine zch ?_; repeat (first|refine zck ?_|refine zcl ?_|refine zcm ?_|refine zcn ?_))
 exact zej rfl ⟨rfl, rfl⟩
end Go.Proofs.YtikackodhiollaaGreatDoor
