import Derived.Test.YtgdhcgnmffgkiaaGreatDoorPart8
import Derived.Test.YtgdhcgnmffgkiaaGreatDoorPart3
import Derived.Test.YtgdhcgnmffgkiaaGreatDoorPart6
/- Lemmas and walks for the claims of this seat (own work): Rc2 Rc3 Aw2 Cx5 Cl0 Cx6. -/
namespace Go.Vc
open Sim
abbrev encMM (x : ByteArray × Int × Bool) : List Value := [.string x.1, .int .i64 x.2.1, .bool x.2.2]
end Go.Vc
namespace Go.Proofs.YtgdhcgnmffgkiaaGreatDoor
open Go.Vc Sim
theorem methods_val (w0 : World) (k : Int) : Vc.Fn PP w0 [] 37 [.int .i64 k] [] (fun v Γ => ∃ a c, v = .slice a (msK k).length c ∧ Γ = [Rds fun bl => RdSl w0 bl encM 4 (.slice a (msK k).length c) (msK k)]) := by
  refine (methods_spec w0 k).know ?_
  rintro v Γ rfl hst
  obtain ⟨bl, hbl⟩ := Rds.st hst
  obtain ⟨a, c, hv, _⟩ := id hbl
  subst hv
  exact ⟨a, c, rfl, rfl⟩
set_option maxHeartbeats 2000000 in
theorem methodsX_spec (w0 : World) (k : Int) : Vc.Fn PP w0 [] 21 [.int .i64 k] [] (fun v Γ => ∃ a c, v = .slice a (ctMeths k).length c ∧ Γ = [Rds fun bl => RdSl w0 bl encMM 3 (.slice a (ctMeths k).length c) (ctMeths k)]) := by
  have hk := methods_val w0 k
  have hn := msK_len k
  have hrows := msK_rows k
  refine fn_of_run en21 fn21 rfl rfl rfl ?_
  repeat (first | refine zck ?_ | refine zcl ?_ | refine zcm ?_ | refine zcn ?_)
  first | refine zcp (by kernel_rfl) ?_ | refine zcq PP_mixed (by kernel_rfl) (by kernel_rfl) ?_
  repeat' (refine zap rfl ?_; first | refine zan rfl ?_)
  all_goals refine zch ?_
  all_goals repeat (first | refine zck ?_ | refine zcl ?_ | refine zcm ?_ | refine zcn ?_)
  repeat (first | refine zck ?_ | refine zcl ?_ | refine zcm ?_ | refine zcn ?_)
  first | refine zcp (by kernel_rfl) ?_ | refine zcq PP_mixed (by kernel_rfl) (by kernel_rfl) ?_
  repeat' (refine zap rfl ?_; first | refine zan rfl ?_)
  all_goals refine zch ?_
  all_goals repeat (first | refine zck ?_ | refine zcl ?_ | refine zcm ?_ | refine zcn ?_)
  repeat (first | refine zck ?_ | refine zcl ?_ | refine zcm ?_ | refine zcn ?_)
  first | refine zcp (by kernel_rfl) ?_ | refine zcq PP_mixed (by kernel_rfl) (by kernel_rfl) ?_
  repeat' (refine zap rfl ?_; first | refine zan rfl ?_ | refine zce rfl ?_ | (refine zai [] hk rfl rfl rfl sub_nil ?_; rintro v Γ ⟨av, cv, rfl, rfl⟩))
  all_goals refine zch ?_
  all_goals repeat (first | refine zck ?_ | refine zcl ?_ | refine zcm ?_ | refine zcn ?_)
  refine run_shareB [0] rfl (fun bl hbl => ?_)
  refine run_nilslice 57 3 ?_
  refine run_loop (S := Nat × Option Addr × Nat) (fun s => [(3, .slice s.2.1 s.1 s.2.2), (7, .slice av (msK k).length cv), (8, .int .i64 (msK k).length), (9, .int .i64 s.1)])
    (fun s Γ => Γ = [SlA 57 3 s.2.1 s.1 s.2.2 ((((msK k).take s.1).map (·.1)).flatMap encMM)] ∧ s.1 ≤ (msK k).length) (fun s => (msK k).length - s.1) (0, none, 0)
    ⟨rfl, rfl, rfl, rfl, trivial⟩ ⟨rfl, Nat.zero_le _⟩ ?_
  rintro ⟨j, a, c⟩ Γ junk ⟨rfl, g1⟩
  dsimp only at g1 ⊢
  by_cases hj : j < (msK k).length
  · obtain ⟨x, hx⟩ : ∃ x, (msK k)[j]? = some x := ⟨_, List.getElem?_eq_getElem hj⟩
    obtain ⟨b, off, cc, T, fr, rfl, e2, e3, _⟩ := hbl.cells hx
    have hm := method_spec w0 x.1 (.func (.func x.2) #[] #[])
    repeat (first | refine zck ?_ | refine zcl ?_ | refine zcm ?_ | refine zcn ?_)
    first | refine zcp (by kernel_rfl) ?_ | refine zcq PP_mixed (by kernel_rfl) (by kernel_rfl) ?_
    repeat' (refine zap rfl ?_; first | refine zbg rfl rfl (by omega) ?_)
    all_goals refine zch ?_
    all_goals repeat (first | refine zck ?_ | refine zcl ?_ | refine zcm ?_ | refine zcn ?_)
    refine zci rfl ?_
    repeat (first | refine zck ?_ | refine zcl ?_ | refine zcm ?_ | refine zcn ?_)
    first | refine zcp (by kernel_rfl) ?_ | refine zcq PP_mixed (by kernel_rfl) (by kernel_rfl) ?_
    repeat' (refine zap rfl ?_; first | refine zad rfl (fun hF Γ w h1 h2 => e2 hF Γ w (fun p hp => h1 p (by simp [hp])) h2) (e3 _ (by omega)) ?_ | refine zae 1 rfl rfl rfl rfl rfl rfl rfl ?_ | refine zas rfl rfl (by omega) ?_ | refine zar (fun nb => ?_))
    all_goals refine zch ?_
    all_goals repeat (first | refine zck ?_ | refine zcl ?_ | refine zcm ?_ | refine zcn ?_)
    repeat (first | refine zck ?_ | refine zcl ?_ | refine zcm ?_ | refine zcn ?_)
    first | refine zcp (by kernel_rfl) ?_ | refine zcq PP_mixed (by kernel_rfl) (by kernel_rfl) ?_
    repeat' (refine zap rfl ?_; first | refine reg_buildSlice rfl rfl rfl rfl rfl rfl (fun nb9 => ?_) | refine zan rfl ?_ | refine zan rfl ?_ | refine zab 1 rfl rfl rfl ?_ | refine zah [] hm rfl rfl rfl sub_nil rfl ?_ | refine reg_append 0 2 rfl rfl rfl rfl rfl rfl rfl rfl (by omega) (fun _ _ => rfl) (fun a5 c5 => ?_))
    all_goals refine zch ?_
    all_goals repeat (first | refine zck ?_ | refine zcl ?_ | refine zcm ?_ | refine zcn ?_)
    refine run_take [0] rfl ?_
    repeat' (first | refine zcp (by kernel_rfl) ?_ | (refine zap rfl ?_; first | refine zan rfl ?_ | refine zau rfl rfl (by omega) ?_) | refine zch ?_)
    refine cut_end ⟨rfl, (j + 1, a5, c5), ⟨rfl, rfl, rfl, int_eq (by dsimp only; omega), trivial⟩, ⟨?_, by dsimp only; omega⟩, by dsimp only; omega⟩
    dsimp only
    rw [take_snoc hx, List.map_append, List.flatMap_append]
    rfl
  · repeat (first | refine zck ?_ | refine zcl ?_ | refine zcm ?_ | refine zcn ?_)
    first | refine zcp (by kernel_rfl) ?_ | refine zcq PP_mixed (by kernel_rfl) (by kernel_rfl) ?_
    repeat' (refine zap rfl ?_; first | refine zbh rfl rfl (by omega) ?_)
    all_goals refine zch ?_
    all_goals repeat (first | refine zck ?_ | refine zcl ?_ | refine zcm ?_ | refine zcn ?_)
    refine zcj rfl ?_
    refine cut_exit rfl rfl ?_
    have hjl : j = (msK k).length := by omega
    subst hjl
    have hl : (ctMeths k).length = (msK k).length := by rw [← hrows, List.length_map]
    rw [hl]
    refine run_slR encMM 0 (l := ctMeths k) rfl (by rw [List.take_of_length_le (Nat.le_refl _), hrows]) (fun _ _ => rfl) hl rfl ?_
    repeat' (first | refine zck ?_ | refine zcp (by kernel_rfl) ?_ | (refine zap rfl ?_; first | refine zan rfl ?_ | refine zan rfl ?_) | refine zch ?_)
    exact ret_tmp1 rfl ⟨a, c, rfl, rfl⟩
set_option maxHeartbeats 4000000
section
variable {w0 : World} {n : Nat} {sh : Shared} {Q : Exit → Env → List Deferred → List Asn → Prop} {k : List Item} {ρ : Env} {df : List Deferred} {Γ : List Asn}
variable {ops : Array Oper} {l : List (Fl × Nat × Oper)} {bf : Fl} {i d : Nat} {ty : TypeId} {pos : String} {aft : Array Edge} {x y : Operand} {yt : TypeId} {m m' : ByteArray × Int × Bool}
end
section
variable {w0 : World} {n : Nat} {sh : Shared} {Q : Exit → Env → List Deferred → List Asn → Prop} {k : List Item} {ρ : Env} {df : List Deferred} {Γ : List Asn}
variable {ops : Array Oper} {l : List (Fl × Nat × Oper)} {bf : Fl} {i d : Nat} {ty : TypeId} {pos : String} {aft : Array Edge} {x y : Operand} {yt : TypeId} {m m' : ByteArray × Int × Bool}
end
end Go.Proofs.YtgdhcgnmffgkiaaGreatDoor

namespace Sim
open Go Go.Vc
end Sim
namespace Go.Proofs.YtgdhcgnmffgkiaaGreatDoor
open Go.Vc Sim
set_option maxHeartbeats 1600000
end Go.Proofs.YtgdhcgnmffgkiaaGreatDoor

namespace Go.Proofs.YtgdhcgnmffgkiaaGreatDoor
open Go.Vc Sim
set_option maxHeartbeats 16000000
theorem awake_spec (w0 : World) : FnE PP w0 [] 8 [] [] (.bool true) [] := by
  have hpl := plan_spec w0
  have r2 := root_spec w0 2 false (by decide)
  have r4 := root_spec w0 4 false (by decide)
  refine fn_of_run en8 fn8 rfl rfl rfl ?_
  repeat (first | refine zck ?_ | refine zcl ?_ | refine zcm ?_ | refine zcn ?_)
  first | refine zcp (by kernel_rfl) ?_ | refine zcq PP_mixed (by kernel_rfl) (by kernel_rfl) ?_
  repeat' (refine zap rfl ?_; first | refine zan rfl ?_)
  all_goals refine zch ?_
  all_goals repeat (first | refine zck ?_ | refine zcl ?_ | refine zcm ?_ | refine zcn ?_)
  repeat (first | refine zck ?_ | refine zcl ?_ | refine zcm ?_ | refine zcn ?_)
  first | refine zcp (by kernel_rfl) ?_ | refine zcq PP_mixed (by kernel_rfl) (by kernel_rfl) ?_
  repeat' (refine zap rfl ?_; first | refine zan rfl ?_ | (refine zai [] (empty_spec w0) rfl rfl rfl sub_nil ?_; rintro v Γ ⟨p, s0, rfl, rfl, h0⟩))
  all_goals refine zch ?_
  all_goals repeat (first | refine zck ?_ | refine zcl ?_ | refine zcm ?_ | refine zcn ?_)
  repeat (first | refine zck ?_ | refine zcl ?_ | refine zcm ?_ | refine zcn ?_)
  first | refine zcp (by kernel_rfl) ?_ | refine zcq PP_mixed (by kernel_rfl) (by kernel_rfl) ?_
  repeat' (refine zap rfl ?_; first | refine zar (fun t3 => ?_) | refine zah [] r2 rfl rfl rfl sub_nil rfl ?_ | refine zah [] r4 rfl rfl rfl sub_nil rfl ?_ | refine zae 1 rfl rfl rfl rfl rfl rfl rfl ?_ | refine zae 2 rfl rfl rfl rfl rfl rfl rfl ?_)
  all_goals refine zch ?_
  all_goals repeat (first | refine zck ?_ | refine zcl ?_ | refine zcm ?_ | refine zcn ?_)
  refine run_share [1] rfl ?_
  refine run_share [1] rfl ?_
  repeat (first | refine zck ?_ | refine zcl ?_ | refine zcm ?_ | refine zcn ?_ | refine zco ?_)
  repeat (first | refine zck ?_ | refine zcl ?_ | refine zcm ?_ | refine zcn ?_)
  first | refine zcp (by kernel_rfl) ?_ | refine zcr [(.quiet, 0), (.loud, 1), (.quiet, 2), (.loud, 3), (.loud, 4), (.quiet, 5), (.quiet, 6), (.quiet, 7), (.quiet, 8), (.quiet, 9)] PP_mixed (by kernel_rfl) (by kernel_rfl) ?_ | refine run_drawR PP_mixed (by kernel_rfl) (by kernel_rfl) ?_
  repeat' (refine zap rfl ?_; first | refine reg_buildSlice rfl rfl rfl rfl rfl rfl (fun nb => ?_) | refine zan rfl ?_ | refine zan rfl ?_ | refine zaa 1 rfl rfl rfl ?_ | refine zah [] hpl rfl rfl rfl sub_nil rfl ?_ | (refine zai [1, 0] (aw0_spec w0 p _ s0 h0) rfl rfl rfl sub_nil ?_; rintro v Γ ⟨rfl, s1, rfl, h1⟩) | refine zan rfl ?_)
  all_goals refine zch ?_
  all_goals repeat (first | refine zck ?_ | refine zcl ?_ | refine zcm ?_ | refine zcn ?_)
  refine run_take [0] rfl ?_
  repeat (first | refine zck ?_ | refine zcl ?_ | refine zcm ?_ | refine zcn ?_ | refine zco ?_)
  repeat (first | refine zck ?_ | refine zcl ?_ | refine zcm ?_ | refine zcn ?_)
  first | refine zcp (by kernel_rfl) ?_ | refine zcr [(.quiet, 0), (.loud, 1), (.quiet, 2), (.loud, 3), (.loud, 4), (.quiet, 5), (.quiet, 6), (.quiet, 7), (.quiet, 8), (.quiet, 9)] PP_mixed (by kernel_rfl) (by kernel_rfl) ?_ | refine run_drawR PP_mixed (by kernel_rfl) (by kernel_rfl) ?_
  repeat' (refine zap rfl ?_; first | refine reg_buildSlice rfl rfl rfl rfl rfl rfl (fun nb => ?_) | refine zan rfl ?_ | refine zan rfl ?_ | refine zaa 1 rfl rfl rfl ?_ | refine zah [] hpl rfl rfl rfl sub_nil rfl ?_ | (refine zai [1, 0] (aw1_spec w0 p _ s1 h1) rfl rfl rfl sub_nil ?_; rintro v Γ ⟨rfl, s2, rfl, h2⟩) | refine zan rfl ?_)
  all_goals refine zch ?_
  all_goals repeat (first | refine zck ?_ | refine zcl ?_ | refine zcm ?_ | refine zcn ?_)
  refine run_take [0] rfl ?_
  repeat (first | refine zck ?_ | refine zcl ?_ | refine zcm ?_ | refine zcn ?_ | refine zco ?_)
  repeat (first | refine zck ?_ | refine zcl ?_ | refine zcm ?_ | refine zcn ?_)
  first | refine zcp (by kernel_rfl) ?_ | refine zcr [(.quiet, 0), (.loud, 1), (.quiet, 2), (.loud, 3), (.quiet, 4), (.quiet, 5), (.quiet, 6), (.quiet, 7), (.quiet, 8)] PP_mixed (by kernel_rfl) (by kernel_rfl) ?_ | refine run_drawR PP_mixed (by kernel_rfl) (by kernel_rfl) ?_
  repeat' (refine zap rfl ?_; first | refine zan rfl ?_ | refine zan rfl ?_ | refine zaa 1 rfl rfl rfl ?_ | refine zah [] hpl rfl rfl rfl sub_nil rfl ?_ | (refine zai [0] (aw2_spec w0 p s2 h2) rfl rfl rfl sub_nil ?_; rintro v Γ ⟨rfl, s3, rfl, h3⟩) | refine zan rfl ?_)
  all_goals refine zch ?_
  all_goals repeat (first | refine zck ?_ | refine zcl ?_ | refine zcm ?_ | refine zcn ?_)
  repeat (first | refine zck ?_ | refine zcl ?_ | refine zcm ?_ | refine zcn ?_)
  first | refine zcp (by kernel_rfl) ?_ | refine zcr [(.quiet, 0), (.loud, 1), (.quiet, 2), (.loud, 3), (.quiet, 4), (.quiet, 5), (.quiet, 6), (.quiet, 7), (.quiet, 8)] PP_mixed (by kernel_rfl) (by kernel_rfl) ?_ | refine run_drawR PP_mixed (by kernel_rfl) (by kernel_rfl) ?_
  repeat' (refine zap rfl ?_; first | refine zan rfl ?_ | refine zan rfl ?_ | refine zaa 1 rfl rfl rfl ?_ | refine zah [] hpl rfl rfl rfl sub_nil rfl ?_ | (refine zai [0] (aw3_spec w0 p s3 h3) rfl rfl rfl sub_nil ?_; rintro v Γ ⟨rfl, s4, rfl, h4⟩) | refine zan rfl ?_)
  all_goals refine zch ?_
  all_goals repeat (first | refine zck ?_ | refine zcl ?_ | refine zcm ?_ | refine zcn ?_)
  repeat (first | refine zck ?_ | refine zcl ?_ | refine zcm ?_ | refine zcn ?_)
  first | refine zcp (by kernel_rfl) ?_ | refine zcr [(.quiet, 0), (.loud, 1), (.quiet, 2), (.loud, 3), (.quiet, 4), (.quiet, 5), (.quiet, 6), (.quiet, 7), (.quiet, 8)] PP_mixed (by kernel_rfl) (by kernel_rfl) ?_ | refine run_drawR PP_mixed (by kernel_rfl) (by kernel_rfl) ?_
  repeat' (refine zap rfl ?_; first | refine zan rfl ?_ | refine zan rfl ?_ | refine zaa 1 rfl rfl rfl ?_ | refine zah [] hpl rfl rfl rfl sub_nil rfl ?_ | (refine zai [0] (aw4_spec w0 p s4 h4) rfl rfl rfl sub_nil ?_; rintro v Γ ⟨rfl, s5, rfl, h5⟩) | refine zan rfl ?_)
  all_goals refine zch ?_
  all_goals repeat (first | refine zck ?_ | refine zcl ?_ | refine zcm ?_ | refine zcn ?_)
  repeat (first | refine zck ?_ | refine zcl ?_ | refine zcm ?_ | refine zcn ?_)
  first | refine zcp (by kernel_rfl) ?_ | refine zcr [(.quiet, 0), (.loud, 1), (.quiet, 2), (.loud, 3), (.loud, 4), (.quiet, 5), (.quiet, 6), (.quiet, 7), (.quiet, 8), (.quiet, 9)] PP_mixed (by kernel_rfl) (by kernel_rfl) ?_ | refine run_drawR PP_mixed (by kernel_rfl) (by kernel_rfl) ?_
  repeat' (refine zap rfl ?_; first | refine reg_buildSlice rfl rfl rfl rfl rfl rfl (fun nb => ?_) | refine zan rfl ?_ | refine zan rfl ?_ | refine zaa 0 rfl rfl rfl ?_ | refine zah [] hpl rfl rfl rfl sub_nil rfl ?_ | (refine zai [1, 0] (aw5_spec w0 p _ s5 h5) rfl rfl rfl sub_nil ?_; rintro v Γ ⟨rfl, s6, rfl, h6⟩) | refine zan rfl ?_)
  all_goals refine zch ?_
  all_goals repeat (first | refine zck ?_ | refine zcl ?_ | refine zcm ?_ | refine zcn ?_)
  refine run_take [0] rfl ?_
  repeat (first | refine zck ?_ | refine zcl ?_ | refine zcm ?_ | refine zcn ?_ | refine zco ?_)
  repeat (first | refine zck ?_ | refine zcl ?_ | refine zcm ?_ | refine zcn ?_)
  first | refine zcp (by kernel_rfl) ?_ | refine zcr [(.quiet, 0), (.loud, 1), (.quiet, 2), (.loud, 3), (.loud, 4), (.quiet, 5), (.quiet, 6), (.quiet, 7), (.quiet, 8), (.quiet, 9)] PP_mixed (by kernel_rfl) (by kernel_rfl) ?_ | refine run_drawR PP_mixed (by kernel_rfl) (by kernel_rfl) ?_
  repeat' (refine zap rfl ?_; first | refine reg_buildSlice rfl rfl rfl rfl rfl rfl (fun nb => ?_) | refine zan rfl ?_ | refine zan rfl ?_ | refine zaa 0 rfl rfl rfl ?_ | refine zah [] hpl rfl rfl rfl sub_nil rfl ?_ | (refine zai [1, 0] (aw6_spec w0 p _ s6 h6) rfl rfl rfl sub_nil ?_; rintro v Γ ⟨rfl, s7, rfl, h7⟩) | refine zan rfl ?_)
  all_goals refine zch ?_
  all_goals repeat (first | refine zck ?_ | refine zcl ?_ | refine zcm ?_ | refine zcn ?_)
  refine run_take [0] rfl ?_
  repeat (first | refine zck ?_ | refine zcl ?_ | refine zcm ?_ | refine zcn ?_ | refine zco ?_)
  repeat (first | refine zck ?_ | refine zcl ?_ | refine zcm ?_ | refine zcn ?_)
  first | refine zcp (by kernel_rfl) ?_ | refine zcr [(.quiet, 0), (.loud, 1), (.quiet, 2), (.loud, 3), (.loud, 4), (.quiet, 5), (.quiet, 6), (.quiet, 7), (.quiet, 8), (.quiet, 9)] PP_mixed (by kernel_rfl) (by kernel_rfl) ?_ | refine run_drawR PP_mixed (by kernel_rfl) (by kernel_rfl) ?_
  repeat' (refine zap rfl ?_; first | refine reg_buildSlice rfl rfl rfl rfl rfl rfl (fun nb => ?_) | refine zan rfl ?_ | refine zan rfl ?_ | refine zaa 0 rfl rfl rfl ?_ | refine zah [] hpl rfl rfl rfl sub_nil rfl ?_ | (refine zai [1, 0] (aw7_spec w0 p _ s7 h7) rfl rfl rfl sub_nil ?_; rintro v Γ ⟨rfl, s8, rfl, h8⟩) | refine zan rfl ?_)
  all_goals refine zch ?_
  all_goals repeat (first | refine zck ?_ | refine zcl ?_ | refine zcm ?_ | refine zcn ?_)
  refine run_take [] rfl ?_
  repeat (first | refine zck ?_ | refine zcl ?_ | refine zcm ?_ | refine zcn ?_ | refine zco ?_)
  refine run_slots [(4, .int .i64 0), (5, .int .i64 0), (6, .int .i64 0), (7, .int .i64 0), (8, .int .i64 5), (9, .int .i64 0), (10, .int .i64 1), (11, .int .i64 0), (12, .int .i64 6), (13, .int .i64 0), (14, .int .i64 0), (15, .int .i64 0), (16, .int .i64 1), (17, .int .i64 0), (18, .int .i64 0), (19, .int .i64 10)] ⟨rfl, rfl, rfl, rfl, rfl, rfl, rfl, rfl, rfl, rfl, rfl, rfl, rfl, rfl, rfl, rfl, trivial⟩ (fun junk => ?_)
  repeat' (first | refine zcp (by kernel_rfl) ?_ | (refine zap rfl ?_; first | refine zaj rfl ?_ | refine zan rfl ?_ | refine zan rfl ?_ | refine zbc rfl rfl (by omega) ?_ | refine zbu rfl ?_) | refine zch ?_)
  exact ret_tmp1 rfl ⟨rfl, rfl⟩
end Go.Proofs.YtgdhcgnmffgkiaaGreatDoor

namespace Go.Proofs.YtgdhcgnmffgkiaaGreatDoor
open Go.Vc Sim
set_option maxHeartbeats 4000000
set_option maxRecDepth 20000
theorem st_aPop (w0 : World) (hw : PowOk w0) (p : Nat) (two : Bool) (s : Sp) (hs : Eqv s awS) : StartOk w0 p 7 two ((bs [112, 111, 112], 0, true), 216) s := by
  cases two with
  | false => exact st_aPop_false w0 hw p s hs
  | true => exact st_aPop_true w0 hw p s hs
def StartN (w0 : World) (k : Int) (m : ByteArray × Int × Bool) : Prop := (∀ p two s, Eqv s awS → StartOk w0 p k two (m, 0) s) ∧ FnE PP w0 [] 22 [.string m.1] [] (encI2 (firstQ m.1)) []
theorem starts_0 (w0 : World) : ∀ (i : Nat) (m : ByteArray × Int × Bool), (ctMeths 0)[i]? = some m → m.2.1 = 0 → StartN w0 0 m := by
  have e : ctMeths 0 = [(bs [103, 101, 116], 0, false), (bs [97, 100, 100], 1, true), (bs [115, 101, 116], 1, true)] := rfl
  intro i m hm h0
  rw [e] at hm
  match i, hm with
  | 0, hm => cases hm; exact ⟨fun p two s hs => st_cGet w0 p two s hs, first_get w0⟩
  | 1, hm => cases hm; exact absurd h0 (by decide)
  | 2, hm => cases hm; exact absurd h0 (by decide)
  | i + 3, hm => cases hm
theorem starts_1 (w0 : World) : ∀ (i : Nat) (m : ByteArray × Int × Bool), (ctMeths 1)[i]? = some m → m.2.1 = 0 → StartN w0 1 m := by
  have e : ctMeths 1 = [(bs [112, 117, 115, 104], 1, true), (bs [112, 111, 112], 0, true), (bs [116, 111, 112], 0, false), (bs [108, 101, 110], 0, false)] := rfl
  intro i m hm h0
  rw [e] at hm
  match i, hm with
  | 0, hm => cases hm; exact absurd h0 (by decide)
  | 1, hm => cases hm; exact ⟨fun p two s hs => st_sPop w0 p two s hs, first_pop w0⟩
  | 2, hm => cases hm; exact ⟨fun p two s hs => st_sTop w0 p two s hs, first_top w0⟩
  | 3, hm => cases hm; exact ⟨fun p two s hs => st_sLen w0 p two s hs, first_len w0⟩
  | i + 4, hm => cases hm
theorem starts_2 (w0 : World) : ∀ (i : Nat) (m : ByteArray × Int × Bool), (ctMeths 2)[i]? = some m → m.2.1 = 0 → StartN w0 2 m := by
  have e : ctMeths 2 = [(bs [112, 117, 116], 1, true), (bs [116, 97, 107, 101], 0, true), (bs [102, 105, 114, 115, 116], 0, false), (bs [108, 101, 110], 0, false)] := rfl
  intro i m hm h0
  rw [e] at hm
  match i, hm with
  | 0, hm => cases hm; exact absurd h0 (by decide)
  | 1, hm => cases hm; exact ⟨fun p two s hs => st_qTake w0 p two s hs, first_take w0⟩
  | 2, hm => cases hm; exact ⟨fun p two s hs => st_qFirst w0 p two s hs, first_first w0⟩
  | 3, hm => cases hm; exact ⟨fun p two s hs => st_qLen w0 p two s hs, first_len w0⟩
  | i + 4, hm => cases hm
theorem starts_3 (w0 : World) : ∀ (i : Nat) (m : ByteArray × Int × Bool), (ctMeths 3)[i]? = some m → m.2.1 = 0 → StartN w0 3 m := by
  have e : ctMeths 3 = [(bs [112, 117, 115, 104, 95, 108, 101, 102, 116], 1, true), (bs [112, 117, 115, 104, 95, 114, 105, 103, 104, 116], 1, true), (bs [112, 111, 112, 95, 108, 101, 102, 116], 0, true), (bs [112, 111, 112, 95, 114, 105, 103, 104, 116], 0, true), (bs [108, 101, 102, 116], 0, false), (bs [114, 105, 103, 104, 116], 0, false), (bs [108, 101, 110], 0, false)] := rfl
  intro i m hm h0
  rw [e] at hm
  match i, hm with
  | 0, hm => cases hm; exact absurd h0 (by decide)
  | 1, hm => cases hm; exact absurd h0 (by decide)
  | 2, hm => cases hm; exact ⟨fun p two s hs => st_dPopL w0 p two s hs, first_pop_left w0⟩
  | 3, hm => cases hm; exact ⟨fun p two s hs => st_dPopR w0 p two s hs, first_pop_right w0⟩
  | 4, hm => cases hm; exact ⟨fun p two s hs => st_dLeft w0 p two s hs, first_left w0⟩
  | 5, hm => cases hm; exact ⟨fun p two s hs => st_dRight w0 p two s hs, first_right w0⟩
  | 6, hm => cases hm; exact ⟨fun p two s hs => st_dLen w0 p two s hs, first_len w0⟩
  | i + 7, hm => cases hm
theorem starts_4 (w0 : World) : ∀ (i : Nat) (m : ByteArray × Int × Bool), (ctMeths 4)[i]? = some m → m.2.1 = 0 → StartN w0 4 m := by
  have e : ctMeths 4 = [(bs [112, 117, 116], 2, true), (bs [103, 101, 116], 1, false), (bs [104, 97, 115], 1, false), (bs [100, 114, 111, 112], 1, true), (bs [108, 101, 110], 0, false)] := rfl
  intro i m hm h0
  rw [e] at hm
  match i, hm with
  | 0, hm => cases hm; exact absurd h0 (by decide)
  | 1, hm => cases hm; exact absurd h0 (by decide)
  | 2, hm => cases hm; exact absurd h0 (by decide)
  | 3, hm => cases hm; exact absurd h0 (by decide)
  | 4, hm => cases hm; exact ⟨fun p two s hs => st_mLen w0 p two s hs, first_len w0⟩
  | i + 5, hm => cases hm
theorem starts_5 (w0 : World) : ∀ (i : Nat) (m : ByteArray × Int × Bool), (ctMeths 5)[i]? = some m → m.2.1 = 0 → StartN w0 5 m := by
  have e : ctMeths 5 = [(bs [112, 117, 116], 2, true), (bs [103, 101, 116], 1, false), (bs [104, 97, 115], 1, false), (bs [100, 114, 111, 112], 1, true), (bs [115, 117, 109], 2, false), (bs [99, 111, 117, 110, 116], 2, false), (bs [110, 101, 120, 116], 1, false), (bs [110, 116, 104], 1, false), (bs [108, 101, 110], 0, false)] := rfl
  intro i m hm h0
  rw [e] at hm
  match i, hm with
  | 0, hm => cases hm; exact absurd h0 (by decide)
  | 1, hm => cases hm; exact absurd h0 (by decide)
  | 2, hm => cases hm; exact absurd h0 (by decide)
  | 3, hm => cases hm; exact absurd h0 (by decide)
  | 4, hm => cases hm; exact absurd h0 (by decide)
  | 5, hm => cases hm; exact absurd h0 (by decide)
  | 6, hm => cases hm; exact absurd h0 (by decide)
  | 7, hm => cases hm; exact absurd h0 (by decide)
  | 8, hm => cases hm; exact ⟨fun p two s hs => st_tLen w0 p two s hs, first_len w0⟩
  | i + 9, hm => cases hm
theorem starts_6 (w0 : World) : ∀ (i : Nat) (m : ByteArray × Int × Bool), (ctMeths 6)[i]? = some m → m.2.1 = 0 → StartN w0 6 m := by
  have e : ctMeths 6 = [(bs [112, 117, 115, 104], 2, true), (bs [112, 111, 112], 0, true), (bs [109, 105, 110], 0, false), (bs [108, 101, 97, 115, 116], 0, false), (bs [108, 111, 119, 101, 114], 2, true), (bs [100, 114, 111, 112], 1, true), (bs [108, 101, 110], 0, false)] := rfl
  intro i m hm h0
  rw [e] at hm
  match i, hm with
  | 0, hm => cases hm; exact absurd h0 (by decide)
  | 1, hm => cases hm; exact ⟨fun p two s hs => st_hPop w0 p two s hs, first_pop w0⟩
  | 2, hm => cases hm; exact ⟨fun p two s hs => st_hMin w0 p two s hs, first_min w0⟩
  | 3, hm => cases hm; exact ⟨fun p two s hs => st_hLeast w0 p two s hs, first_least w0⟩
  | 4, hm => cases hm; exact absurd h0 (by decide)
  | 5, hm => cases hm; exact absurd h0 (by decide)
  | 6, hm => cases hm; exact ⟨fun p two s hs => st_hLen w0 p two s hs, first_len w0⟩
  | i + 7, hm => cases hm
theorem starts_7 (w0 : World) (hw : PowOk w0) : ∀ (i : Nat) (m : ByteArray × Int × Bool), (ctMeths 7)[i]? = some m → m.2.1 = 0 → StartN w0 7 m := by
  have e : ctMeths 7 = [(bs [112, 117, 115, 104], 1, true), (bs [112, 111, 112], 0, true), (bs [103, 101, 116], 1, false), (bs [115, 101, 116], 2, true), (bs [115, 119, 97, 112], 2, true), (bs [108, 101, 110], 0, false)] := rfl
  intro i m hm h0
  rw [e] at hm
  match i, hm with
  | 0, hm => cases hm; exact absurd h0 (by decide)
  | 1, hm => cases hm; exact ⟨fun p two s hs => st_aPop w0 hw p two s hs, first_pop w0⟩
  | 2, hm => cases hm; exact absurd h0 (by decide)
  | 3, hm => cases hm; exact absurd h0 (by decide)
  | 4, hm => cases hm; exact absurd h0 (by decide)
  | 5, hm => cases hm; exact ⟨fun p two s hs => st_aLen w0 p two s hs, first_len w0⟩
  | i + 6, hm => cases hm
theorem starts_8 (w0 : World) : ∀ (i : Nat) (m : ByteArray × Int × Bool), (ctMeths 8)[i]? = some m → m.2.1 = 0 → StartN w0 8 m := by
  have e : ctMeths 8 = [(bs [97, 100, 100], 1, true), (bs [108, 105, 110, 107], 3, true), (bs [99, 117, 116], 1, true), (bs [100, 114, 111, 112], 1, true), (bs [119, 101, 105, 103, 104, 116], 2, false), (bs [108, 97, 98, 101, 108], 1, false), (bs [111, 117, 116, 115], 1, false), (bs [105, 110, 115], 1, false), (bs [118, 101, 114, 116, 105, 99, 101, 115], 0, false), (bs [101, 100, 103, 101, 115], 0, false)] := rfl
  intro i m hm h0
  rw [e] at hm
  match i, hm with
  | 0, hm => cases hm; exact absurd h0 (by decide)
  | 1, hm => cases hm; exact absurd h0 (by decide)
  | 2, hm => cases hm; exact absurd h0 (by decide)
  | 3, hm => cases hm; exact absurd h0 (by decide)
  | 4, hm => cases hm; exact absurd h0 (by decide)
  | 5, hm => cases hm; exact absurd h0 (by decide)
  | 6, hm => cases hm; exact absurd h0 (by decide)
  | 7, hm => cases hm; exact absurd h0 (by decide)
  | 8, hm => cases hm; exact ⟨fun p two s hs => st_gVerts w0 p two s hs, first_vertices w0⟩
  | 9, hm => cases hm; exact ⟨fun p two s hs => st_gEdges w0 p two s hs, first_edges w0⟩
  | i + 10, hm => cases hm
theorem starts_9 (w0 : World) : ∀ (i : Nat) (m : ByteArray × Int × Bool), (ctMeths 9)[i]? = some m → m.2.1 = 0 → StartN w0 9 m := by
  have e : ctMeths 9 = [(bs [109, 97, 107, 101], 0, true), (bs [102, 105, 110, 100], 1, false), (bs [117, 110, 105, 111, 110], 2, true), (bs [117, 110, 100, 111], 0, true), (bs [115, 97, 109, 101], 2, false), (bs [115, 105, 122, 101], 1, false), (bs [115, 101, 116, 115], 0, false)] := rfl
  intro i m hm h0
  rw [e] at hm
  match i, hm with
  | 0, hm => cases hm; exact ⟨fun p two s hs => st_fMake w0 p two s hs, first_make w0⟩
  | 1, hm => cases hm; exact absurd h0 (by decide)
  | 2, hm => cases hm; exact absurd h0 (by decide)
  | 3, hm => cases hm; exact ⟨fun p two s hs => st_fUndo w0 p two s hs, first_undo w0⟩
  | 4, hm => cases hm; exact absurd h0 (by decide)
  | 5, hm => cases hm; exact absurd h0 (by decide)
  | 6, hm => cases hm; exact ⟨fun p two s hs => st_fSets w0 p two s hs, first_sets w0⟩
  | i + 7, hm => cases hm
theorem starts_all (w0 : World) (hw : PowOk w0) (k : Int) (hk : 0 ≤ k ∧ k ≤ 9) : ∀ (i : Nat) (m : ByteArray × Int × Bool), (ctMeths k)[i]? = some m → m.2.1 = 0 → StartN w0 k m := by
  rcases (by omega : k = 0 ∨ k = 1 ∨ k = 2 ∨ k = 3 ∨ k = 4 ∨ k = 5 ∨ k = 6 ∨ k = 7 ∨ k = 8 ∨ k = 9) with rfl | rfl | rfl | rfl | rfl | rfl | rfl | rfl | rfl | rfl
  · exact starts_0 w0
  · exact starts_1 w0
  · exact starts_2 w0
  · exact starts_3 w0
  · exact starts_4 w0
  · exact starts_5 w0
  · exact starts_6 w0
  · exact starts_7 w0 hw
  · exact starts_8 w0
  · exact starts_9 w0
end Go.Proofs.YtgdhcgnmffgkiaaGreatDoor

namespace Sim
open Go Go.Vc
theorem ctMeths_pos : ∀ k : Nat, k < 10 → 0 < (ctMeths (k : Int)).length := by decide +kernel
end Sim
namespace Go.Vc
section
variable {P : Program} {w0 : World} {n : Nat} {sh : Shared} {Q : Exit → Env → List Deferred → List Asn → Prop} {k : List Item} {ρ : Env} {df : List Deferred} {Γ : List Asn}
variable {ops : Array Oper} {l : List (Fl × Nat × Oper)} {b : Fl} {i d : Nat} {ty t yt : TypeId} {pos : String} {aft : Array Edge} {x y : Operand}
end
end Go.Vc
namespace Go.Proofs.YtgdhcgnmffgkiaaGreatDoor
open Go.Vc Sim
set_option maxHeartbeats 4000000
end Go.Proofs.YtgdhcgnmffgkiaaGreatDoor

namespace Go.Proofs.YtgdhcgnmffgkiaaGreatDoor
open Go.Vc Sim
set_option maxHeartbeats 4000000
set_option maxRecDepth 20000
theorem catalogStarts_spec (w0 : World) (hw : PowOk w0) (x y : Int) (hx : 0 ≤ x ∧ x ≤ 255) (hy : 0 ≤ y ∧ y ≤ 255) (two : Bool) : FnE PP w0 [] 6 [.int .u8 x, .int .u8 y, .bool two] [] (.bool true) [] := by
  obtain ⟨k, hk⟩ : ∃ k : Nat, x.tmod 10 = (k : Int) := ⟨(x.tmod 10).toNat, by rw [Int.tmod_eq_emod_of_nonneg hx.1]; omega⟩
  have hk10 : k < 10 := by rw [Int.tmod_eq_emod_of_nonneg hx.1] at hk; omega
  have hpos := ctMeths_pos k hk10
  have haw := awake_spec w0
  have hme := methodsX_spec w0 (k : Int)
  have hpl := plan_spec w0
  have hro := root_spec w0 (k : Int) two (by omega)
  refine fn_of_run en6 fn6 rfl rfl rfl ?_
  repeat (first | refine zck ?_ | refine zcl ?_ | refine zcm ?_ | refine zcn ?_)
  first | refine zcp (by kernel_rfl) ?_ | refine zcq PP_mixed (by kernel_rfl) (by kernel_rfl) ?_
  repeat' (refine zap rfl ?_; first | refine zan rfl ?_)
  all_goals refine zch ?_
  all_goals repeat (first | refine zck ?_ | refine zcl ?_ | refine zcm ?_ | refine zcn ?_)
  repeat (first | refine zck ?_ | refine zcl ?_ | refine zcm ?_ | refine zcn ?_)
  first | refine zcp (by kernel_rfl) ?_ | refine zcq PP_mixed (by kernel_rfl) (by kernel_rfl) ?_
  repeat' (refine zap rfl ?_; first | refine zbx rfl ?_ | refine zah [] haw rfl rfl rfl sub_nil rfl ?_)
  all_goals refine zch ?_
  all_goals repeat (first | refine zck ?_ | refine zcl ?_ | refine zcm ?_ | refine zcn ?_)
  refine zcj rfl ?_
  repeat (first | refine zck ?_ | refine zcl ?_ | refine zcm ?_ | refine zcn ?_ | refine zco ?_)
  repeat (first | refine zck ?_ | refine zcl ?_ | refine zcm ?_ | refine zcn ?_)
  first | refine zcp (by kernel_rfl) ?_ | refine zcq PP_mixed (by kernel_rfl) (by kernel_rfl) ?_
  repeat' (refine zap rfl ?_; first | refine reg_remE rfl rfl (by decide) hk ?_ | refine zbz rfl (by omega) ?_ | refine zan rfl ?_ | refine zan rfl ?_)
  all_goals refine zch ?_
  all_goals repeat (first | refine zck ?_ | refine zcl ?_ | refine zcm ?_ | refine zcn ?_)
  repeat (first | refine zck ?_ | refine zcl ?_ | refine zcm ?_ | refine zcn ?_)
  first | refine zcp (by kernel_rfl) ?_ | refine zcq PP_mixed (by kernel_rfl) (by kernel_rfl) ?_
  repeat' (refine zap rfl ?_; first | refine zan rfl ?_ | refine zan rfl ?_ | refine zai [] hme rfl rfl rfl sub_nil (fun | _, _, ⟨a, c, rfl, rfl⟩ => ?_))
  all_goals refine zch ?_
  all_goals repeat (first | refine zck ?_ | refine zcl ?_ | refine zcm ?_ | refine zcn ?_)
  refine run_shareR [0] rfl ?_
  intro sh' bl hs1 hs2 hR0
  have hR0 := hR0.mono hs2
  have hlen : (ctMeths (k : Int)).length ≤ 10 := by
    have h := msK_len (k : Int)
    rw [← msK_rows (k : Int), List.length_map]
    exact h
  generalize hL : (ctMeths (k : Int)).length = L at hpos hlen hR0
  obtain ⟨i, hi⟩ : ∃ i : Nat, y.tmod (L : Int) = (i : Int) := ⟨(y.tmod (L : Int)).toNat, by rw [Int.tmod_eq_emod_of_nonneg hy.1]; have := Int.emod_nonneg y (show (L : Int) ≠ 0 by omega); omega⟩
  have hiL : i < L := by rw [Int.tmod_eq_emod_of_nonneg hy.1] at hi; have := Int.emod_lt_of_pos y (show (0 : Int) < L by omega); omega
  obtain ⟨m, hm⟩ : ∃ m, (ctMeths (k : Int))[i]? = some m := ⟨_, List.getElem?_eq_getElem (by omega)⟩
  obtain ⟨b, off, cc, T, fr, rfl, e2, e3, _⟩ := hR0.cells hm
  obtain ⟨mn, ma, mw⟩ := m
  repeat (first | refine zck ?_ | refine zcl ?_ | refine zcm ?_ | refine zcn ?_ | refine zco ?_)
  repeat (first | refine zck ?_ | refine zcl ?_ | refine zcm ?_ | refine zcn ?_)
  first | refine zcp (by kernel_rfl) ?_ | refine zcq PP_mixed (by kernel_rfl) (by kernel_rfl) ?_
  repeat' (refine zap rfl ?_; first | refine zan rfl ?_ | refine zce rfl ?_ | refine zbd rfl rfl (by omega) ?_)
  all_goals refine zch ?_
  all_goals repeat (first | refine zck ?_ | refine zcl ?_ | refine zcm ?_ | refine zcn ?_)
  refine zcj rfl ?_
  repeat (first | refine zck ?_ | refine zcl ?_ | refine zcm ?_ | refine zcn ?_ | refine zco ?_)
  repeat (first | refine zck ?_ | refine zcl ?_ | refine zcm ?_ | refine zcn ?_)
  first | refine zcp (by kernel_rfl) ?_ | refine zcq PP_mixed (by kernel_rfl) (by kernel_rfl) ?_
  repeat' (refine zap rfl ?_; first | refine reg_remE rfl rfl (by omega) hi ?_ | refine zbz rfl (by omega) ?_ | refine zad rfl e2 (e3 _ (by omega)) ?_ | refine zar (fun q => ?_) | refine zan rfl ?_ | refine zce rfl ?_ | refine zae 0 rfl rfl rfl rfl rfl rfl rfl ?_ | refine zas rfl rfl (by omega) ?_)
  all_goals refine zch ?_
  all_goals repeat (first | refine zck ?_ | refine zcl ?_ | refine zcm ?_ | refine zcn ?_)
  refine run_exch 0 (pt q (.cells (List.toArray [.string mn, .int .i64 ma, .bool mw]) 57 (0, 0))) rfl (fun g hg => hg) rfl ?_
  refine run_share [0] rfl ?_
  repeat (first | refine zck ?_ | refine zcl ?_ | refine zcm ?_ | refine zcn ?_ | refine zco ?_)
  by_cases hma : ma = 0
  rotate_left
  · repeat' (first | refine zck ?_ | refine zcp (by kernel_rfl) ?_ | (refine zap rfl ?_; first | refine zan rfl ?_ | refine zaa 0 rfl rfl rfl ?_ | refine zao rfl ?_ | refine zbe rfl rfl (by omega) ?_) | refine zch ?_ | refine zci rfl ?_)
    exact ret_tmp1 rfl ⟨rfl, rfl⟩
  subst hma
  obtain ⟨hst, hfi⟩ := starts_all w0 hw (k : Int) (by omega) i _ hm rfl
  repeat (first | refine zck ?_ | refine zcl ?_ | refine zcm ?_ | refine zcn ?_)
  first | refine zcp (by kernel_rfl) ?_ | refine zcq PP_mixed (by kernel_rfl) (by kernel_rfl) ?_
  repeat' (refine zap rfl ?_; first | refine zaa 0 rfl rfl rfl ?_ | refine zao rfl ?_ | refine zbf rfl rfl (by omega) ?_)
  all_goals refine zch ?_
  all_goals repeat (first | refine zck ?_ | refine zcl ?_ | refine zcm ?_ | refine zcn ?_)
  refine zcj rfl ?_
  repeat (first | refine zck ?_ | refine zcl ?_ | refine zcm ?_ | refine zcn ?_ | refine zco ?_)
  repeat (first | refine zck ?_ | refine zcl ?_ | refine zcm ?_ | refine zcn ?_)
  first | refine zcp (by kernel_rfl) ?_ | refine zcq PP_mixed (by kernel_rfl) (by kernel_rfl) ?_
  repeat' (refine zap rfl ?_; first | refine zan rfl ?_ | refine zai [] (empty_spec w0) rfl rfl rfl sub_nil (fun | _, _, ⟨p, s0, rfl, rfl, h0⟩ => ?_))
  all_goals refine zch ?_
  all_goals repeat (first | refine zck ?_ | refine zcl ?_ | refine zcm ?_ | refine zcn ?_)
  obtain ⟨s1, hdo, hen, hor⟩ := hst p two s0 h0
  have hend := ended_spec w0 p s1
  have hmk := mark_spec w0 p s1
  rw [hen] at hend
  dsimp only at hdo hfi hor
  generalize firstQ mn = fq at hdo hfi hor
  obtain ⟨fv, fe⟩ := fq
  repeat (first | refine zck ?_ | refine zcl ?_ | refine zcm ?_ | refine zcn ?_)
  first | refine zcp (by kernel_rfl) ?_ | refine zcr [(.quiet, 0), (.loud, 1), (.quiet, 2), (.quiet, 3), (.loud, 4), (.quiet, 5), (.quiet, 6), (.loud, 7), (.quiet, 8), (.quiet, 9), (.quiet, 10), (.quiet, 11), (.quiet, 12)] PP_mixed (by kernel_rfl) (by kernel_rfl) ?_ | refine run_drawR PP_mixed (by kernel_rfl) (by kernel_rfl) ?_
  repeat' (refine zap rfl ?_; first | refine zan rfl ?_ | refine zan rfl ?_ | refine zaa 0 rfl rfl rfl ?_ | refine zah [] hpl rfl rfl rfl sub_nil rfl ?_ | refine zah [] hro rfl rfl rfl sub_nil rfl ?_ | refine zah [0] hdo rfl rfl rfl sub_nil rfl ?_ | refine zao rfl ?_ | refine zan rfl ?_)
  all_goals refine zch ?_
  all_goals repeat (first | refine zck ?_ | refine zcl ?_ | refine zcm ?_ | refine zcn ?_)
  repeat (first | refine zck ?_ | refine zcl ?_ | refine zcm ?_ | refine zcn ?_)
  first | refine zcp (by kernel_rfl) ?_ | refine zcq PP_mixed (by kernel_rfl) (by kernel_rfl) ?_
  repeat' (refine zap rfl ?_; first | refine zan rfl ?_ | refine zan rfl ?_ | refine zaa 0 rfl rfl rfl ?_ | refine zah [] hfi rfl rfl rfl sub_nil rfl ?_ | refine zao rfl ?_ | refine zan rfl ?_)
  all_goals refine zch ?_
  all_goals repeat (first | refine zck ?_ | refine zcl ?_ | refine zcm ?_ | refine zcn ?_)
  repeat (first | refine zck ?_ | refine zcl ?_ | refine zcm ?_ | refine zcn ?_)
  first | refine zcp (by kernel_rfl) ?_ | refine zcq PP_mixed (by kernel_rfl) (by kernel_rfl) ?_
  repeat' (refine zap rfl ?_; first | refine zaj rfl ?_ | refine zan rfl ?_ | refine zah [0] hend rfl rfl rfl sub_nil rfl ?_ | refine zbf rfl rfl (by omega) ?_ | refine zbv rfl ?_)
  all_goals refine zch ?_
  all_goals repeat (first | refine zck ?_ | refine zcl ?_ | refine zcm ?_ | refine zcn ?_)
  refine zcj rfl ?_
  repeat (first | refine zck ?_ | refine zcl ?_ | refine zcm ?_ | refine zcn ?_ | refine zco ?_)
  cases mw with
  | false =>
    have hp : s1.puts = [] := hor.resolve_left (fun h => by cases h.1)
    rw [hp] at hmk
    repeat' (first | refine zcp (by kernel_rfl) ?_ | (refine zap rfl ?_; first | refine zaj rfl ?_ | refine zak rfl ?_ | refine zan rfl ?_ | refine zan rfl ?_ | refine zaa 0 rfl rfl rfl ?_ | refine zah [0] hmk rfl rfl rfl sub_nil rfl ?_ | refine zao rfl ?_ | refine zbo rfl rfl ?_ | refine zbv rfl ?_) | refine zch ?_)
    refine run_take [] rfl ?_
    exact ret_tmp1 rfl ⟨rfl, rfl⟩
  | true =>
    by_cases hfe : fe = 0
    · repeat' (first | refine zcp (by kernel_rfl) ?_ | (refine zap rfl ?_; first | refine zaj rfl ?_ | refine zak rfl ?_ | refine zan rfl ?_ | refine zan rfl ?_ | refine zaa 0 rfl rfl rfl ?_ | refine zao rfl ?_ | refine zbc rfl rfl (by omega) ?_ | refine zbu rfl ?_) | refine zch ?_)
      refine run_take [] rfl ?_
      exact ret_tmp1 rfl ⟨rfl, rfl⟩
    · have hp : s1.puts = [] := hor.resolve_left (fun h => hfe h.2)
      rw [hp] at hmk
      repeat' (first | refine zcp (by kernel_rfl) ?_ | (refine zap rfl ?_; first | refine zaj rfl ?_ | refine zan rfl ?_ | refine zan rfl ?_ | refine zaa 0 rfl rfl rfl ?_ | refine zah [0] hmk rfl rfl rfl sub_nil rfl ?_ | refine zao rfl ?_ | refine zbd rfl rfl (by omega) ?_ | refine zbo rfl rfl ?_ | refine zbu rfl ?_ | refine zbv rfl ?_) | refine zch ?_)
      refine run_take [] rfl ?_
      exact ret_tmp1 rfl ⟨rfl, rfl⟩
end Go.Proofs.YtgdhcgnmffgkiaaGreatDoor

