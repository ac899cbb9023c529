import Derived.Test.YtilnknokgflkjaaDoorPart3
import Derived.Test.YtilnknokgflkjaaDoorKit
/- Lemmas and walks for the claims of this seat (own work): Ar10 Ar11 Ar12. -/
/- The walk of Push. -/
namespace Go.Proofs.YtilnknokgflkjaaDoor
open Go.Vc Sim
set_option maxHeartbeats 4000000
abbrev eV (eb : Nat) (e : Int) : Asn := pt eb (.cells (List.toArray [.int .i64 e]) 37 (0, 0))
abbrev ptr (b : Nat) : Value := .pointer (some ⟨b, 0, none⟩)

theorem back_specD (w0 : World) (p : Nat) (s : Sp) (m : Int) (eb : Nat) (e : Int) : FnD PP w0 [] 25 [spP p, .int .i64 m, ptr eb] [SpaceA p s, eV eb e]
    fun v Γ' => v = .tuple #[] ∧ Γ' = [SpaceA p (if e ≠ 0 then s.back m else s), eV eb e] := by
  refine fnD_of_run en25 fn25 rfl rfl rfl ?_
  repeat' (first
    | refine run_seq ?_
    | refine run_region (by kernel_rfl) ?_
    | refine run_drawA PP_mixed (by kernel_rfl) (by kernel_rfl) ?_
    | refine run_skip ?_
    | refine run_block ?_
    | refine run_inBlock ?_
    | refine run_inLoop ?_
    | refine run_exit rfl ?_
    | (refine reg_cons rfl ?_; first
        | ((with_reducible refine tag_guard ?_); first | refine reg_guard_in rfl ?_ | refine reg_guard_out rfl ?_ | refine reg_guard_none rfl ?_ | refine reg_guard rfl rfl (fun _ => ?_) (fun _ => ?_))
        | ((with_reducible refine tag_move ?_); refine reg_pure rfl ?_)
        | ((with_reducible refine tag_assign ?_); refine reg_pure rfl ?_)
        | ((with_reducible refine tag_load ?_); first | refine reg_load_sh 0 rfl rfl rfl ?_ | refine reg_load_sh 1 rfl rfl rfl ?_ | refine reg_load_sh 2 rfl rfl rfl ?_ | refine reg_load_sh 3 rfl rfl rfl ?_ | refine reg_load_sh 4 rfl rfl rfl ?_ | refine reg_load_sh 5 rfl rfl rfl ?_ | refine reg_load_pt 0 rfl rfl rfl ?_ | refine reg_load_pt 1 rfl rfl rfl ?_ | refine reg_load_pt 2 rfl rfl rfl ?_ | refine reg_load_pt 3 rfl rfl rfl ?_ | refine reg_load_pt 4 rfl rfl rfl ?_ | refine reg_load_pt 5 rfl rfl rfl ?_)
        | ((with_reducible refine tag_call ?_); first | refine reg_len_slice rfl ?_ | refine reg_max rfl rfl ?_ | refine reg_min rfl rfl ?_)
        | ((with_reducible refine tag_field ?_); refine reg_field rfl ?_)
        | ((with_reducible refine tag_extract ?_); refine reg_pure rfl ?_)
        | ((with_reducible refine tag_bin ?_); first | refine reg_add64 rfl rfl (by omega) ?_ | refine reg_sub64 rfl rfl (by omega) ?_ | refine reg_mul64 rfl rfl (by omega) ?_ | refine reg_eql rfl rfl ?_ | refine reg_neq rfl rfl ?_ | refine reg_lss rfl rfl ?_ | refine reg_leq rfl rfl ?_ | refine reg_gtr rfl rfl ?_ | refine reg_geq rfl rfl ?_ | refine reg_quo64 rfl rfl (by omega) ?_ | refine reg_rem64 rfl rfl (by omega) ?_ | refine reg_eq_nil rfl rfl ?_ | refine reg_eqB rfl rfl ?_ | refine reg_ne_nil rfl rfl ?_)
        | ((with_reducible refine tag_un ?_); first | refine reg_not rfl ?_ | refine reg_notB rfl ?_ | refine reg_neg64 rfl (by omega) ?_)
        | ((with_reducible refine tag_pick ?_); first | refine reg_pickT rfl ?_ | refine reg_pickF rfl ?_ | refine reg_pick rfl rfl rfl ?_)
        | ((with_reducible refine tag_store ?_); first | refine reg_store 0 rfl rfl rfl rfl rfl rfl rfl ?_ | refine reg_store 1 rfl rfl rfl rfl rfl rfl rfl ?_ | refine reg_store 2 rfl rfl rfl rfl rfl rfl rfl ?_ | refine reg_store 3 rfl rfl rfl rfl rfl rfl rfl ?_ | refine reg_store 4 rfl rfl rfl rfl rfl rfl rfl ?_ | refine reg_store 5 rfl rfl rfl rfl rfl rfl rfl ?_)
        | ((with_reducible refine tag_nilc ?_); refine reg_pure rfl ?_)
        | ((with_reducible refine tag_index ?_); first | refine reg_index_slice rfl rfl (by omega) ?_ | refine reg_index_array rfl rfl (by omega) ?_)
        | ((with_reducible refine tag_box ?_); first | refine reg_box (cs := [_]) rfl (fun nb => ?_) | refine reg_box (cs := [_, _]) rfl (fun nb => ?_) | refine reg_box (cs := [_, _, _]) rfl (fun nb => ?_) | refine reg_box (cs := [_, _, _, _]) rfl (fun nb => ?_) | refine reg_box (cs := [_, _, _, _, _]) rfl (fun nb => ?_) | refine reg_box (cs := [_, _, _, _, _, _]) rfl (fun nb => ?_) | refine reg_box (cs := [_, _, _, _, _, _, _]) rfl (fun nb => ?_) | refine reg_box (cs := [_, _, _, _, _, _, _, _]) rfl (fun nb => ?_))
        | ((with_reducible refine tag_alloc ?_); refine reg_alloc (fun nb => ?_))
        | refine reg_makeMap (fun nb => ?_)
        | refine reg_build rfl ?_
        | refine reg_defer rfl rfl ?_
        | ((with_reducible refine tag_conv ?_); first | refine reg_conv64 rfl (by omega) ?_ | refine reg_conv rfl ?_))
    | refine reg_nil ?_
    | refine run_condT rfl ?_
    | refine run_condF rfl ?_)
  refine run_cond rfl (fun hE => ?_) (fun hE => ?_)
  · repeat' (first
      | refine run_seq ?_
      | refine run_region (by kernel_rfl) ?_
      | refine run_drawA PP_mixed (by kernel_rfl) (by kernel_rfl) ?_
      | refine run_skip ?_
      | refine run_block ?_
      | refine run_inBlock ?_
      | refine run_inLoop ?_
      | refine run_exit rfl ?_
      | (refine reg_cons rfl ?_; first
          | ((with_reducible refine tag_guard ?_); first | refine reg_guard_in rfl ?_ | refine reg_guard_out rfl ?_ | refine reg_guard_none rfl ?_ | refine reg_guard rfl rfl (fun _ => ?_) (fun _ => ?_))
          | ((with_reducible refine tag_move ?_); refine reg_pure rfl ?_)
          | ((with_reducible refine tag_assign ?_); refine reg_pure rfl ?_)
          | ((with_reducible refine tag_load ?_); first | refine reg_load_sh 0 rfl rfl rfl ?_ | refine reg_load_sh 1 rfl rfl rfl ?_ | refine reg_load_sh 2 rfl rfl rfl ?_ | refine reg_load_sh 3 rfl rfl rfl ?_ | refine reg_load_sh 4 rfl rfl rfl ?_ | refine reg_load_sh 5 rfl rfl rfl ?_ | refine reg_load_pt 0 rfl rfl rfl ?_ | refine reg_load_pt 1 rfl rfl rfl ?_ | refine reg_load_pt 2 rfl rfl rfl ?_ | refine reg_load_pt 3 rfl rfl rfl ?_ | refine reg_load_pt 4 rfl rfl rfl ?_ | refine reg_load_pt 5 rfl rfl rfl ?_)
          | ((with_reducible refine tag_call ?_); first | refine reg_callE [0] (back_spec w0 p s m) rfl rfl rfl sub_nil rfl ?_ | refine reg_len_slice rfl ?_ | refine reg_max rfl rfl ?_ | refine reg_min rfl rfl ?_)
          | ((with_reducible refine tag_field ?_); refine reg_field rfl ?_)
          | ((with_reducible refine tag_extract ?_); refine reg_pure rfl ?_)
          | ((with_reducible refine tag_bin ?_); first | refine reg_add64 rfl rfl (by omega) ?_ | refine reg_sub64 rfl rfl (by omega) ?_ | refine reg_mul64 rfl rfl (by omega) ?_ | refine reg_eql rfl rfl ?_ | refine reg_neq rfl rfl ?_ | refine reg_lss rfl rfl ?_ | refine reg_leq rfl rfl ?_ | refine reg_gtr rfl rfl ?_ | refine reg_geq rfl rfl ?_ | refine reg_quo64 rfl rfl (by omega) ?_ | refine reg_rem64 rfl rfl (by omega) ?_ | refine reg_eq_nil rfl rfl ?_ | refine reg_eqB rfl rfl ?_ | refine reg_ne_nil rfl rfl ?_)
          | ((with_reducible refine tag_un ?_); first | refine reg_not rfl ?_ | refine reg_notB rfl ?_ | refine reg_neg64 rfl (by omega) ?_)
          | ((with_reducible refine tag_pick ?_); first | refine reg_pickT rfl ?_ | refine reg_pickF rfl ?_ | refine reg_pick rfl rfl rfl ?_)
          | ((with_reducible refine tag_store ?_); first | refine reg_store 0 rfl rfl rfl rfl rfl rfl rfl ?_ | refine reg_store 1 rfl rfl rfl rfl rfl rfl rfl ?_ | refine reg_store 2 rfl rfl rfl rfl rfl rfl rfl ?_ | refine reg_store 3 rfl rfl rfl rfl rfl rfl rfl ?_ | refine reg_store 4 rfl rfl rfl rfl rfl rfl rfl ?_ | refine reg_store 5 rfl rfl rfl rfl rfl rfl rfl ?_)
          | ((with_reducible refine tag_nilc ?_); refine reg_pure rfl ?_)
          | ((with_reducible refine tag_index ?_); first | refine reg_index_slice rfl rfl (by omega) ?_ | refine reg_index_array rfl rfl (by omega) ?_)
          | ((with_reducible refine tag_box ?_); first | refine reg_box (cs := [_]) rfl (fun nb => ?_) | refine reg_box (cs := [_, _]) rfl (fun nb => ?_) | refine reg_box (cs := [_, _, _]) rfl (fun nb => ?_) | refine reg_box (cs := [_, _, _, _]) rfl (fun nb => ?_) | refine reg_box (cs := [_, _, _, _, _]) rfl (fun nb => ?_) | refine reg_box (cs := [_, _, _, _, _, _]) rfl (fun nb => ?_) | refine reg_box (cs := [_, _, _, _, _, _, _]) rfl (fun nb => ?_) | refine reg_box (cs := [_, _, _, _, _, _, _, _]) rfl (fun nb => ?_))
          | ((with_reducible refine tag_alloc ?_); refine reg_alloc (fun nb => ?_))
          | refine reg_makeMap (fun nb => ?_)
          | refine reg_build rfl ?_
          | refine reg_defer rfl rfl ?_
          | ((with_reducible refine tag_conv ?_); first | refine reg_conv64 rfl (by omega) ?_ | refine reg_conv rfl ?_))
      | refine reg_nil ?_
      | refine run_condT rfl ?_
      | refine run_condF rfl ?_)
    refine run_nil ⟨rfl, ends_none rfl ?_⟩
    rw [if_pos hE]; exact ⟨rfl, rfl⟩
  · repeat' (first
      | refine run_seq ?_
      | refine run_region (by kernel_rfl) ?_
      | refine run_drawA PP_mixed (by kernel_rfl) (by kernel_rfl) ?_
      | refine run_skip ?_
      | refine run_block ?_
      | refine run_inBlock ?_
      | refine run_inLoop ?_
      | refine run_exit rfl ?_
      | (refine reg_cons rfl ?_; first
          | ((with_reducible refine tag_guard ?_); first | refine reg_guard_in rfl ?_ | refine reg_guard_out rfl ?_ | refine reg_guard_none rfl ?_ | refine reg_guard rfl rfl (fun _ => ?_) (fun _ => ?_))
          | ((with_reducible refine tag_move ?_); refine reg_pure rfl ?_)
          | ((with_reducible refine tag_assign ?_); refine reg_pure rfl ?_)
          | ((with_reducible refine tag_load ?_); first | refine reg_load_sh 0 rfl rfl rfl ?_ | refine reg_load_sh 1 rfl rfl rfl ?_ | refine reg_load_sh 2 rfl rfl rfl ?_ | refine reg_load_sh 3 rfl rfl rfl ?_ | refine reg_load_sh 4 rfl rfl rfl ?_ | refine reg_load_sh 5 rfl rfl rfl ?_ | refine reg_load_pt 0 rfl rfl rfl ?_ | refine reg_load_pt 1 rfl rfl rfl ?_ | refine reg_load_pt 2 rfl rfl rfl ?_ | refine reg_load_pt 3 rfl rfl rfl ?_ | refine reg_load_pt 4 rfl rfl rfl ?_ | refine reg_load_pt 5 rfl rfl rfl ?_)
          | ((with_reducible refine tag_call ?_); first | refine reg_len_slice rfl ?_ | refine reg_max rfl rfl ?_ | refine reg_min rfl rfl ?_)
          | ((with_reducible refine tag_field ?_); refine reg_field rfl ?_)
          | ((with_reducible refine tag_extract ?_); refine reg_pure rfl ?_)
          | ((with_reducible refine tag_bin ?_); first | refine reg_add64 rfl rfl (by omega) ?_ | refine reg_sub64 rfl rfl (by omega) ?_ | refine reg_mul64 rfl rfl (by omega) ?_ | refine reg_eql rfl rfl ?_ | refine reg_neq rfl rfl ?_ | refine reg_lss rfl rfl ?_ | refine reg_leq rfl rfl ?_ | refine reg_gtr rfl rfl ?_ | refine reg_geq rfl rfl ?_ | refine reg_quo64 rfl rfl (by omega) ?_ | refine reg_rem64 rfl rfl (by omega) ?_ | refine reg_eq_nil rfl rfl ?_ | refine reg_eqB rfl rfl ?_ | refine reg_ne_nil rfl rfl ?_)
          | ((with_reducible refine tag_un ?_); first | refine reg_not rfl ?_ | refine reg_notB rfl ?_ | refine reg_neg64 rfl (by omega) ?_)
          | ((with_reducible refine tag_pick ?_); first | refine reg_pickT rfl ?_ | refine reg_pickF rfl ?_ | refine reg_pick rfl rfl rfl ?_)
          | ((with_reducible refine tag_store ?_); first | refine reg_store 0 rfl rfl rfl rfl rfl rfl rfl ?_ | refine reg_store 1 rfl rfl rfl rfl rfl rfl rfl ?_ | refine reg_store 2 rfl rfl rfl rfl rfl rfl rfl ?_ | refine reg_store 3 rfl rfl rfl rfl rfl rfl rfl ?_ | refine reg_store 4 rfl rfl rfl rfl rfl rfl rfl ?_ | refine reg_store 5 rfl rfl rfl rfl rfl rfl rfl ?_)
          | ((with_reducible refine tag_nilc ?_); refine reg_pure rfl ?_)
          | ((with_reducible refine tag_index ?_); first | refine reg_index_slice rfl rfl (by omega) ?_ | refine reg_index_array rfl rfl (by omega) ?_)
          | ((with_reducible refine tag_box ?_); first | refine reg_box (cs := [_]) rfl (fun nb => ?_) | refine reg_box (cs := [_, _]) rfl (fun nb => ?_) | refine reg_box (cs := [_, _, _]) rfl (fun nb => ?_) | refine reg_box (cs := [_, _, _, _]) rfl (fun nb => ?_) | refine reg_box (cs := [_, _, _, _, _]) rfl (fun nb => ?_) | refine reg_box (cs := [_, _, _, _, _, _]) rfl (fun nb => ?_) | refine reg_box (cs := [_, _, _, _, _, _, _]) rfl (fun nb => ?_) | refine reg_box (cs := [_, _, _, _, _, _, _, _]) rfl (fun nb => ?_))
          | ((with_reducible refine tag_alloc ?_); refine reg_alloc (fun nb => ?_))
          | refine reg_makeMap (fun nb => ?_)
          | refine reg_build rfl ?_
          | refine reg_defer rfl rfl ?_
          | ((with_reducible refine tag_conv ?_); first | refine reg_conv64 rfl (by omega) ?_ | refine reg_conv rfl ?_))
      | refine reg_nil ?_
      | refine run_condT rfl ?_
      | refine run_condF rfl ?_)
    refine run_nil ⟨rfl, ends_none rfl ?_⟩
    rw [if_neg hE]; exact ⟨rfl, rfl⟩

def pushD (p eb : Nat) (m : Int) : Deferred := { target := .fn (.func 25) #[], args := List.toArray [spP p, .int .i64 m, ptr eb] }
def pushRV (p : Nat) (r : Int × Int × Sp) (v' : Value) (Γ'' : List Asn) : Prop := v' = .tuple #[.int .i64 r.1, .int .i64 r.2.1] ∧ Γ'' = [SpaceA p r.2.2]

theorem push_fin (w0 : World) (p eb : Nat) (mk : Int) (r : Int × Int × Sp) (i e : Int) (s' : Sp) (ρ : Env) (h6 : ρ 6 = .int .i64 i) (h7 : ρ 7 = ptr eb) (hr : r = (i, e, s')) :
    LeavesS PP w0 [] Tryd.f11 ρ [pushD p eb mk] [SpaceA p s', eV eb e] (pushRV p (Ar.undo mk r)) := by
  subst hr
  refine leaves_defer1 [0, 0] (back_specD w0 p s' mk eb e) rfl rfl sub_nil ?_
  refine leaves_nil (ends_take [0] rfl (ends_two rfl h6 (resOk_pt 1 h7 rfl rfl) ?_))
  exact ⟨rfl, rfl, rfl⟩

theorem push_spec (w0 : World) (hw : PowOk w0) (p : Nat) (A : Ar) (hA : A.Ok) (s : Sp) (v : Int) (hsm : Sm s 24) :
    Vc.Fn PP w0 [] 11 [arrV A, spP p, .int .i64 v] [SpaceA p s] (pushRV p (A.push s v)) := by
  obtain ⟨_, h1, h2⟩ := id hA
  obtain ⟨T, fr, hw2⟩ := id hw
  generalize hm : A.many s = m
  have hsm2 : Sm m.2.2.2 24 := hm ▸ sm_many hsm
  have hM := many_spec w0 hw p A hA s (hsm.mono (by decide))
  rw [hm] at hM
  have hmo := many_ok (A := A) (s := s)
  rw [hm] at hmo
  refine fn_of_run en11 fn11 rfl rfl rfl ?_ -- @@FN 11
  repeat (first | refine run_seq ?_ | refine run_block ?_ | refine run_skip ?_ | refine run_inBlock ?_)
  first | refine run_region (by kernel_rfl) ?_ | refine run_drawA PP_mixed (by kernel_rfl) (by kernel_rfl) ?_
  repeat' (refine reg_cons rfl ?_; first
        | ((with_reducible refine tag_move ?_); refine reg_pure rfl ?_)
        | ((with_reducible refine tag_assign ?_); refine reg_pure rfl ?_)
        | ((with_reducible refine tag_load ?_); first | refine reg_load_sh 0 rfl rfl rfl ?_ | refine reg_load_sh 1 rfl rfl rfl ?_ | refine reg_load_sh 2 rfl rfl rfl ?_ | refine reg_load_sh 3 rfl rfl rfl ?_ | refine reg_load_sh 4 rfl rfl rfl ?_ | refine reg_load_sh 5 rfl rfl rfl ?_ | refine reg_load_pt 0 rfl rfl rfl ?_ | refine reg_load_pt 1 rfl rfl rfl ?_ | refine reg_load_pt 2 rfl rfl rfl ?_ | refine reg_load_pt 3 rfl rfl rfl ?_ | refine reg_load_pt 4 rfl rfl rfl ?_ | refine reg_load_pt 5 rfl rfl rfl ?_)
        | ((with_reducible refine tag_field ?_); refine reg_field rfl ?_)
        | ((with_reducible refine tag_extract ?_); refine reg_pure rfl ?_)
        | ((with_reducible refine tag_bin ?_); first | refine reg_add64 rfl rfl (by omega) ?_ | refine reg_sub64 rfl rfl (by omega) ?_ | refine reg_eql rfl rfl ?_ | refine reg_neq rfl rfl ?_ | refine reg_gtr rfl rfl ?_ | refine reg_rem64 rfl rfl (by omega) ?_ | refine reg_eq_nil rfl rfl ?_ | refine reg_eqB rfl rfl ?_ | refine reg_ne_nil rfl rfl ?_)
        | ((with_reducible refine tag_un ?_); first | refine reg_not rfl ?_ | refine reg_notB rfl ?_)
        | ((with_reducible refine tag_store ?_); first | refine reg_store 0 rfl rfl rfl rfl rfl rfl rfl ?_ | refine reg_store 1 rfl rfl rfl rfl rfl rfl rfl ?_ | refine reg_store 2 rfl rfl rfl rfl rfl rfl rfl ?_ | refine reg_store 3 rfl rfl rfl rfl rfl rfl rfl ?_ | refine reg_store 4 rfl rfl rfl rfl rfl rfl rfl ?_ | refine reg_store 5 rfl rfl rfl rfl rfl rfl rfl ?_)
        | ((with_reducible refine tag_index ?_); first | refine reg_index_slice rfl rfl (by omega) ?_ | refine reg_index_array rfl rfl (by omega) ?_)
        | ((with_reducible refine tag_box ?_); first | refine reg_box (cs := [_]) rfl (fun nb => ?_) | refine reg_box (cs := [_, _]) rfl (fun nb => ?_) | refine reg_box (cs := [_, _, _]) rfl (fun nb => ?_) | refine reg_box (cs := [_, _, _, _]) rfl (fun nb => ?_) | refine reg_box (cs := [_, _, _, _, _]) rfl (fun nb => ?_) | refine reg_box (cs := [_, _, _, _, _, _]) rfl (fun nb => ?_) | refine reg_box (cs := [_, _, _, _, _, _, _]) rfl (fun nb => ?_) | refine reg_box (cs := [_, _, _, _, _, _, _, _]) rfl (fun nb => ?_))
        | ((with_reducible refine tag_alloc ?_); refine reg_alloc (fun nb => ?_))
        | refine reg_defer rfl rfl ?_)
  all_goals refine reg_nil ?_
  all_goals repeat (first | refine run_seq ?_ | refine run_block ?_ | refine run_skip ?_ | refine run_inBlock ?_)
  refine run_share [1] rfl ?_
  rename_i bx
  repeat (first | refine run_seq ?_ | refine run_block ?_ | refine run_skip ?_ | refine run_inBlock ?_)
  first | refine run_region (by kernel_rfl) ?_ | refine run_drawA PP_mixed (by kernel_rfl) (by kernel_rfl) ?_
  repeat' (refine reg_cons rfl ?_; first
        | ((with_reducible refine tag_move ?_); refine reg_pure rfl ?_)
        | ((with_reducible refine tag_assign ?_); refine reg_pure rfl ?_)
        | ((with_reducible refine tag_load ?_); first | refine reg_load_sh 0 rfl rfl rfl ?_ | refine reg_load_sh 1 rfl rfl rfl ?_ | refine reg_load_sh 2 rfl rfl rfl ?_ | refine reg_load_sh 3 rfl rfl rfl ?_ | refine reg_load_sh 4 rfl rfl rfl ?_ | refine reg_load_sh 5 rfl rfl rfl ?_ | refine reg_load_pt 0 rfl rfl rfl ?_ | refine reg_load_pt 1 rfl rfl rfl ?_ | refine reg_load_pt 2 rfl rfl rfl ?_ | refine reg_load_pt 3 rfl rfl rfl ?_ | refine reg_load_pt 4 rfl rfl rfl ?_ | refine reg_load_pt 5 rfl rfl rfl ?_)
        | ((with_reducible refine tag_call ?_); refine reg_callE [0] hM rfl rfl rfl sub_nil rfl ?_)
        | ((with_reducible refine tag_field ?_); refine reg_field rfl ?_)
        | ((with_reducible refine tag_extract ?_); refine reg_pure rfl ?_)
        | ((with_reducible refine tag_bin ?_); first | refine reg_add64 rfl rfl (by omega) ?_ | refine reg_sub64 rfl rfl (by omega) ?_ | refine reg_eql rfl rfl ?_ | refine reg_neq rfl rfl ?_ | refine reg_gtr rfl rfl ?_ | refine reg_rem64 rfl rfl (by omega) ?_ | refine reg_eq_nil rfl rfl ?_ | refine reg_eqB rfl rfl ?_ | refine reg_ne_nil rfl rfl ?_)
        | ((with_reducible refine tag_un ?_); first | refine reg_not rfl ?_ | refine reg_notB rfl ?_)
        | ((with_reducible refine tag_store ?_); first | refine reg_store 0 rfl rfl rfl rfl rfl rfl rfl ?_ | refine reg_store 1 rfl rfl rfl rfl rfl rfl rfl ?_ | refine reg_store 2 rfl rfl rfl rfl rfl rfl rfl ?_ | refine reg_store 3 rfl rfl rfl rfl rfl rfl rfl ?_ | refine reg_store 4 rfl rfl rfl rfl rfl rfl rfl ?_ | refine reg_store 5 rfl rfl rfl rfl rfl rfl rfl ?_)
        | ((with_reducible refine tag_index ?_); first | refine reg_index_slice rfl rfl (by omega) ?_ | refine reg_index_array rfl rfl (by omega) ?_)
        | ((with_reducible refine tag_box ?_); first | refine reg_box (cs := [_]) rfl (fun nb => ?_) | refine reg_box (cs := [_, _]) rfl (fun nb => ?_) | refine reg_box (cs := [_, _, _]) rfl (fun nb => ?_) | refine reg_box (cs := [_, _, _, _]) rfl (fun nb => ?_) | refine reg_box (cs := [_, _, _, _, _]) rfl (fun nb => ?_) | refine reg_box (cs := [_, _, _, _, _, _]) rfl (fun nb => ?_) | refine reg_box (cs := [_, _, _, _, _, _, _]) rfl (fun nb => ?_) | refine reg_box (cs := [_, _, _, _, _, _, _, _]) rfl (fun nb => ?_))
        | ((with_reducible refine tag_alloc ?_); refine reg_alloc (fun nb => ?_))
        | refine reg_defer rfl rfl ?_)
  all_goals refine reg_nil ?_
  all_goals repeat (first | refine run_seq ?_ | refine run_block ?_ | refine run_skip ?_ | refine run_inBlock ?_)
  repeat (first | refine run_seq ?_ | refine run_block ?_ | refine run_skip ?_ | refine run_inBlock ?_)
  first | refine run_region (by kernel_rfl) ?_ | refine run_drawA PP_mixed (by kernel_rfl) (by kernel_rfl) ?_
  repeat' (refine reg_cons rfl ?_; first
        | ((with_reducible refine tag_move ?_); refine reg_pure rfl ?_)
        | ((with_reducible refine tag_assign ?_); refine reg_pure rfl ?_)
        | ((with_reducible refine tag_load ?_); first | refine reg_load_sh 0 rfl rfl rfl ?_ | refine reg_load_sh 1 rfl rfl rfl ?_ | refine reg_load_sh 2 rfl rfl rfl ?_ | refine reg_load_sh 3 rfl rfl rfl ?_ | refine reg_load_sh 4 rfl rfl rfl ?_ | refine reg_load_sh 5 rfl rfl rfl ?_ | refine reg_load_pt 0 rfl rfl rfl ?_ | refine reg_load_pt 1 rfl rfl rfl ?_ | refine reg_load_pt 2 rfl rfl rfl ?_ | refine reg_load_pt 3 rfl rfl rfl ?_ | refine reg_load_pt 4 rfl rfl rfl ?_ | refine reg_load_pt 5 rfl rfl rfl ?_)
        | ((with_reducible refine tag_field ?_); refine reg_field rfl ?_)
        | ((with_reducible refine tag_extract ?_); refine reg_pure rfl ?_)
        | ((with_reducible refine tag_bin ?_); first | refine reg_add64 rfl rfl (by omega) ?_ | refine reg_sub64 rfl rfl (by omega) ?_ | refine reg_eql rfl rfl ?_ | refine reg_neq rfl rfl ?_ | refine reg_gtr rfl rfl ?_ | refine reg_rem64 rfl rfl (by omega) ?_ | refine reg_eq_nil rfl rfl ?_ | refine reg_eqB rfl rfl ?_ | refine reg_ne_nil rfl rfl ?_)
        | ((with_reducible refine tag_un ?_); first | refine reg_not rfl ?_ | refine reg_notB rfl ?_)
        | ((with_reducible refine tag_store ?_); first | refine reg_store 0 rfl rfl rfl rfl rfl rfl rfl ?_ | refine reg_store 1 rfl rfl rfl rfl rfl rfl rfl ?_ | refine reg_store 2 rfl rfl rfl rfl rfl rfl rfl ?_ | refine reg_store 3 rfl rfl rfl rfl rfl rfl rfl ?_ | refine reg_store 4 rfl rfl rfl rfl rfl rfl rfl ?_ | refine reg_store 5 rfl rfl rfl rfl rfl rfl rfl ?_)
        | ((with_reducible refine tag_index ?_); first | refine reg_index_slice rfl rfl (by omega) ?_ | refine reg_index_array rfl rfl (by omega) ?_)
        | ((with_reducible refine tag_box ?_); first | refine reg_box (cs := [_]) rfl (fun nb => ?_) | refine reg_box (cs := [_, _]) rfl (fun nb => ?_) | refine reg_box (cs := [_, _, _]) rfl (fun nb => ?_) | refine reg_box (cs := [_, _, _, _]) rfl (fun nb => ?_) | refine reg_box (cs := [_, _, _, _, _]) rfl (fun nb => ?_) | refine reg_box (cs := [_, _, _, _, _, _]) rfl (fun nb => ?_) | refine reg_box (cs := [_, _, _, _, _, _, _]) rfl (fun nb => ?_) | refine reg_box (cs := [_, _, _, _, _, _, _, _]) rfl (fun nb => ?_))
        | ((with_reducible refine tag_alloc ?_); refine reg_alloc (fun nb => ?_))
        | refine reg_defer rfl rfl ?_)
  all_goals refine reg_nil ?_
  all_goals repeat (first | refine run_seq ?_ | refine run_block ?_ | refine run_skip ?_ | refine run_inBlock ?_)
  refine run_slots [(1, spP p), (2, .int .i64 v), (3, ptr bx), (7, ptr nb), (8, .int .i64 m.1), (9, .int .i64 m.2.1), (10, .bool m.2.2.1), (28, .bool (!m.2.2.1))] ⟨rfl, rfl, rfl, rfl, rfl, rfl, rfl, rfl, trivial⟩ (fun junk => ?_)
  refine run_condV rfl (fun hE => ?_) (fun hE => ?_)
  · have hE : m.2.2.1 = false := by simpa using hE
    have e : A.push s v = (0, 24, m.2.2.2) := by simp [Ar.push, hm, hE]
    repeat' (first
      | refine run_seq ?_
      | refine run_region (by kernel_rfl) ?_
      | refine run_drawA PP_mixed (by kernel_rfl) (by kernel_rfl) ?_
      | refine run_skip ?_
      | refine run_block ?_
      | refine run_inBlock ?_
      | refine run_inLoop ?_
      | refine run_exit rfl ?_
      | (refine reg_cons rfl ?_; first
          | ((with_reducible refine tag_move ?_); refine reg_pure rfl ?_)
          | ((with_reducible refine tag_assign ?_); refine reg_pure rfl ?_)
          | ((with_reducible refine tag_load ?_); first | refine reg_load_sh 0 rfl rfl rfl ?_ | refine reg_load_sh 1 rfl rfl rfl ?_ | refine reg_load_sh 2 rfl rfl rfl ?_ | refine reg_load_sh 3 rfl rfl rfl ?_ | refine reg_load_sh 4 rfl rfl rfl ?_ | refine reg_load_sh 5 rfl rfl rfl ?_ | refine reg_load_pt 0 rfl rfl rfl ?_ | refine reg_load_pt 1 rfl rfl rfl ?_ | refine reg_load_pt 2 rfl rfl rfl ?_ | refine reg_load_pt 3 rfl rfl rfl ?_ | refine reg_load_pt 4 rfl rfl rfl ?_ | refine reg_load_pt 5 rfl rfl rfl ?_)
          | ((with_reducible refine tag_field ?_); refine reg_field rfl ?_)
          | ((with_reducible refine tag_extract ?_); refine reg_pure rfl ?_)
          | ((with_reducible refine tag_bin ?_); first | refine reg_add64 rfl rfl (by omega) ?_ | refine reg_sub64 rfl rfl (by omega) ?_ | refine reg_eql rfl rfl ?_ | refine reg_neq rfl rfl ?_ | refine reg_gtr rfl rfl ?_ | refine reg_rem64 rfl rfl (by omega) ?_ | refine reg_eq_nil rfl rfl ?_ | refine reg_eqB rfl rfl ?_ | refine reg_ne_nil rfl rfl ?_)
          | ((with_reducible refine tag_un ?_); first | refine reg_not rfl ?_ | refine reg_notB rfl ?_)
          | ((with_reducible refine tag_store ?_); first | refine reg_store 0 rfl rfl rfl rfl rfl rfl rfl ?_ | refine reg_store 1 rfl rfl rfl rfl rfl rfl rfl ?_ | refine reg_store 2 rfl rfl rfl rfl rfl rfl rfl ?_ | refine reg_store 3 rfl rfl rfl rfl rfl rfl rfl ?_ | refine reg_store 4 rfl rfl rfl rfl rfl rfl rfl ?_ | refine reg_store 5 rfl rfl rfl rfl rfl rfl rfl ?_)
          | ((with_reducible refine tag_index ?_); first | refine reg_index_slice rfl rfl (by omega) ?_ | refine reg_index_array rfl rfl (by omega) ?_)
          | ((with_reducible refine tag_box ?_); first | refine reg_box (cs := [_]) rfl (fun nb => ?_) | refine reg_box (cs := [_, _]) rfl (fun nb => ?_) | refine reg_box (cs := [_, _, _]) rfl (fun nb => ?_) | refine reg_box (cs := [_, _, _, _]) rfl (fun nb => ?_) | refine reg_box (cs := [_, _, _, _, _]) rfl (fun nb => ?_) | refine reg_box (cs := [_, _, _, _, _, _]) rfl (fun nb => ?_) | refine reg_box (cs := [_, _, _, _, _, _, _]) rfl (fun nb => ?_) | refine reg_box (cs := [_, _, _, _, _, _, _, _]) rfl (fun nb => ?_))
          | ((with_reducible refine tag_alloc ?_); refine reg_alloc (fun nb => ?_))
          | refine reg_defer rfl rfl ?_)
      | refine reg_nil ?_
      | refine run_condT rfl ?_
      | refine run_condF rfl ?_)
    rw [e]
    exact run_ret (leaves_nil (ends_take [0] rfl (ends_two rfl rfl (resOk_pt 1 rfl rfl rfl) ⟨rfl, rfl, rfl⟩)))
  have hE : m.2.2.1 = true := by simpa using hE
  obtain ⟨_, hn0, hn1, hn2⟩ := hmo hE
  repeat (first | refine run_seq ?_ | refine run_block ?_ | refine run_skip ?_ | refine run_inBlock ?_)
  first | refine run_region (by kernel_rfl) ?_ | refine run_drawA PP_mixed (by kernel_rfl) (by kernel_rfl) ?_
  repeat' (refine reg_cons rfl ?_; first
        | refine reg_load_base rfl hw2 (powL_rd 4 (by decide) _ rfl) ?_
        | ((with_reducible refine tag_move ?_); refine reg_pure rfl ?_)
        | ((with_reducible refine tag_assign ?_); refine reg_pure rfl ?_)
        | ((with_reducible refine tag_load ?_); first | refine reg_load_sh 0 rfl rfl rfl ?_ | refine reg_load_sh 1 rfl rfl rfl ?_ | refine reg_load_sh 2 rfl rfl rfl ?_ | refine reg_load_sh 3 rfl rfl rfl ?_ | refine reg_load_sh 4 rfl rfl rfl ?_ | refine reg_load_sh 5 rfl rfl rfl ?_ | refine reg_load_pt 0 rfl rfl rfl ?_ | refine reg_load_pt 1 rfl rfl rfl ?_ | refine reg_load_pt 2 rfl rfl rfl ?_ | refine reg_load_pt 3 rfl rfl rfl ?_ | refine reg_load_pt 4 rfl rfl rfl ?_ | refine reg_load_pt 5 rfl rfl rfl ?_)
        | ((with_reducible refine tag_field ?_); refine reg_field rfl ?_)
        | ((with_reducible refine tag_extract ?_); refine reg_pure rfl ?_)
        | ((with_reducible refine tag_bin ?_); first | refine reg_add64 rfl rfl (by omega) ?_ | refine reg_sub64 rfl rfl (by omega) ?_ | refine reg_eql rfl rfl ?_ | refine reg_neq rfl rfl ?_ | refine reg_gtr rfl rfl ?_ | refine reg_rem64 rfl rfl (by omega) ?_ | refine reg_eq_nil rfl rfl ?_ | refine reg_eqB rfl rfl ?_ | refine reg_ne_nil rfl rfl ?_)
        | ((with_reducible refine tag_un ?_); first | refine reg_not rfl ?_ | refine reg_notB rfl ?_)
        | ((with_reducible refine tag_store ?_); first | refine reg_store 0 rfl rfl rfl rfl rfl rfl rfl ?_ | refine reg_store 1 rfl rfl rfl rfl rfl rfl rfl ?_ | refine reg_store 2 rfl rfl rfl rfl rfl rfl rfl ?_ | refine reg_store 3 rfl rfl rfl rfl rfl rfl rfl ?_ | refine reg_store 4 rfl rfl rfl rfl rfl rfl rfl ?_ | refine reg_store 5 rfl rfl rfl rfl rfl rfl rfl ?_)
        | ((with_reducible refine tag_index ?_); first | refine reg_index_slice rfl rfl (by omega) ?_ | refine reg_index_array rfl rfl (by omega) ?_)
        | ((with_reducible refine tag_box ?_); first | refine reg_box (cs := [_]) rfl (fun nb => ?_) | refine reg_box (cs := [_, _]) rfl (fun nb => ?_) | refine reg_box (cs := [_, _, _]) rfl (fun nb => ?_) | refine reg_box (cs := [_, _, _, _]) rfl (fun nb => ?_) | refine reg_box (cs := [_, _, _, _, _]) rfl (fun nb => ?_) | refine reg_box (cs := [_, _, _, _, _, _]) rfl (fun nb => ?_) | refine reg_box (cs := [_, _, _, _, _, _, _]) rfl (fun nb => ?_) | refine reg_box (cs := [_, _, _, _, _, _, _, _]) rfl (fun nb => ?_))
        | ((with_reducible refine tag_alloc ?_); refine reg_alloc (fun nb => ?_))
        | refine reg_defer rfl rfl ?_)
  all_goals refine reg_nil ?_
  all_goals repeat (first | refine run_seq ?_ | refine run_block ?_ | refine run_skip ?_ | refine run_inBlock ?_)
  refine run_cond rfl (fun hZ => ?_) (fun hZ => ?_)
  · have hZ : m.1 = 4096 := hZ
    have e : A.push s v = (0, 9, m.2.2.2) := by simp only [Ar.push, hm]; rw [if_pos hE, if_pos hZ]
    repeat' (first
      | refine run_seq ?_
      | refine run_region (by kernel_rfl) ?_
      | refine run_drawA PP_mixed (by kernel_rfl) (by kernel_rfl) ?_
      | refine run_skip ?_
      | refine run_block ?_
      | refine run_inBlock ?_
      | refine run_inLoop ?_
      | refine run_exit rfl ?_
      | (refine reg_cons rfl ?_; first
          | ((with_reducible refine tag_move ?_); refine reg_pure rfl ?_)
          | ((with_reducible refine tag_assign ?_); refine reg_pure rfl ?_)
          | ((with_reducible refine tag_load ?_); first | refine reg_load_sh 0 rfl rfl rfl ?_ | refine reg_load_sh 1 rfl rfl rfl ?_ | refine reg_load_sh 2 rfl rfl rfl ?_ | refine reg_load_sh 3 rfl rfl rfl ?_ | refine reg_load_sh 4 rfl rfl rfl ?_ | refine reg_load_sh 5 rfl rfl rfl ?_ | refine reg_load_pt 0 rfl rfl rfl ?_ | refine reg_load_pt 1 rfl rfl rfl ?_ | refine reg_load_pt 2 rfl rfl rfl ?_ | refine reg_load_pt 3 rfl rfl rfl ?_ | refine reg_load_pt 4 rfl rfl rfl ?_ | refine reg_load_pt 5 rfl rfl rfl ?_)
          | ((with_reducible refine tag_field ?_); refine reg_field rfl ?_)
          | ((with_reducible refine tag_extract ?_); refine reg_pure rfl ?_)
          | ((with_reducible refine tag_bin ?_); first | refine reg_add64 rfl rfl (by omega) ?_ | refine reg_sub64 rfl rfl (by omega) ?_ | refine reg_eql rfl rfl ?_ | refine reg_neq rfl rfl ?_ | refine reg_gtr rfl rfl ?_ | refine reg_rem64 rfl rfl (by omega) ?_ | refine reg_eq_nil rfl rfl ?_ | refine reg_eqB rfl rfl ?_ | refine reg_ne_nil rfl rfl ?_)
          | ((with_reducible refine tag_un ?_); first | refine reg_not rfl ?_ | refine reg_notB rfl ?_)
          | ((with_reducible refine tag_store ?_); first | refine reg_store 0 rfl rfl rfl rfl rfl rfl rfl ?_ | refine reg_store 1 rfl rfl rfl rfl rfl rfl rfl ?_ | refine reg_store 2 rfl rfl rfl rfl rfl rfl rfl ?_ | refine reg_store 3 rfl rfl rfl rfl rfl rfl rfl ?_ | refine reg_store 4 rfl rfl rfl rfl rfl rfl rfl ?_ | refine reg_store 5 rfl rfl rfl rfl rfl rfl rfl ?_)
          | ((with_reducible refine tag_index ?_); first | refine reg_index_slice rfl rfl (by omega) ?_ | refine reg_index_array rfl rfl (by omega) ?_)
          | ((with_reducible refine tag_box ?_); first | refine reg_box (cs := [_]) rfl (fun nb => ?_) | refine reg_box (cs := [_, _]) rfl (fun nb => ?_) | refine reg_box (cs := [_, _, _]) rfl (fun nb => ?_) | refine reg_box (cs := [_, _, _, _]) rfl (fun nb => ?_) | refine reg_box (cs := [_, _, _, _, _]) rfl (fun nb => ?_) | refine reg_box (cs := [_, _, _, _, _, _]) rfl (fun nb => ?_) | refine reg_box (cs := [_, _, _, _, _, _, _]) rfl (fun nb => ?_) | refine reg_box (cs := [_, _, _, _, _, _, _, _]) rfl (fun nb => ?_))
          | ((with_reducible refine tag_alloc ?_); refine reg_alloc (fun nb => ?_))
          | refine reg_defer rfl rfl ?_)
      | refine reg_nil ?_
      | refine run_condT rfl ?_
      | refine run_condF rfl ?_)
    rw [e]
    exact run_ret (leaves_nil (ends_take [0] rfl (ends_two rfl rfl (resOk_pt 1 rfl rfl rfl) ⟨rfl, rfl, rfl⟩)))
  have hZ : m.1 ≠ 4096 := hZ
  have e : A.push s v = Ar.undo m.2.2.2.puts.length (A.pushIn m.1 v m.2.1.toNat m.2.2.2) := by simp only [Ar.push, hm]; rw [if_pos hE, if_neg hZ]
  rw [e]
  have hd4 := dep_le m.1
  have hd5 := dep_le (m.1 + 1)
  have hd6 : 0 < dep (m.1 + 1) := by unfold dep; (repeat' split) <;> omega
  have hd7 : dep m.1 ≤ dep (m.1 + 1) := by unfold dep; (repeat' split) <;> omega
  have hdd : m.2.1.toNat = dep m.1 := by omega
  rw [hdd, hn2]
  generalize hmk : m.2.2.2.puts.length = mk
  generalize dep m.1 = d at *
  generalize hnn : m.1 = n at *
  generalize hss : m.2.2.2 = t at *
  have fin := push_fin w0 p nb mk (A.pushIn n v d t)
  have hMk := mark_spec w0 p t
  rw [hmk] at hMk
  repeat (first | refine run_seq ?_ | refine run_block ?_ | refine run_skip ?_ | refine run_inBlock ?_)
  first | refine run_region (by kernel_rfl) ?_ | refine run_drawA PP_mixed (by kernel_rfl) (by kernel_rfl) ?_
  repeat' (refine reg_cons rfl ?_; first
        | refine reg_defer rfl rfl ?_
        | ((with_reducible refine tag_move ?_); refine reg_pure rfl ?_)
        | ((with_reducible refine tag_assign ?_); refine reg_pure rfl ?_)
        | ((with_reducible refine tag_load ?_); first | refine reg_load_sh 0 rfl rfl rfl ?_ | refine reg_load_sh 1 rfl rfl rfl ?_ | refine reg_load_sh 2 rfl rfl rfl ?_ | refine reg_load_sh 3 rfl rfl rfl ?_ | refine reg_load_sh 4 rfl rfl rfl ?_ | refine reg_load_sh 5 rfl rfl rfl ?_ | refine reg_load_pt 0 rfl rfl rfl ?_ | refine reg_load_pt 1 rfl rfl rfl ?_ | refine reg_load_pt 2 rfl rfl rfl ?_ | refine reg_load_pt 3 rfl rfl rfl ?_ | refine reg_load_pt 4 rfl rfl rfl ?_ | refine reg_load_pt 5 rfl rfl rfl ?_)
        | ((with_reducible refine tag_call ?_); refine reg_callE [0] hMk rfl rfl rfl sub_nil rfl ?_)
        | ((with_reducible refine tag_field ?_); refine reg_field rfl ?_)
        | ((with_reducible refine tag_extract ?_); refine reg_pure rfl ?_)
        | ((with_reducible refine tag_bin ?_); first | refine reg_add64 rfl rfl (by omega) ?_ | refine reg_sub64 rfl rfl (by omega) ?_ | refine reg_eql rfl rfl ?_ | refine reg_neq rfl rfl ?_ | refine reg_gtr rfl rfl ?_ | refine reg_rem64 rfl rfl (by omega) ?_ | refine reg_eq_nil rfl rfl ?_ | refine reg_eqB rfl rfl ?_ | refine reg_ne_nil rfl rfl ?_)
        | ((with_reducible refine tag_un ?_); first | refine reg_not rfl ?_ | refine reg_notB rfl ?_)
        | ((with_reducible refine tag_store ?_); first | refine reg_store 0 rfl rfl rfl rfl rfl rfl rfl ?_ | refine reg_store 1 rfl rfl rfl rfl rfl rfl rfl ?_ | refine reg_store 2 rfl rfl rfl rfl rfl rfl rfl ?_ | refine reg_store 3 rfl rfl rfl rfl rfl rfl rfl ?_ | refine reg_store 4 rfl rfl rfl rfl rfl rfl rfl ?_ | refine reg_store 5 rfl rfl rfl rfl rfl rfl rfl ?_)
        | ((with_reducible refine tag_index ?_); first | refine reg_index_slice rfl rfl (by omega) ?_ | refine reg_index_array rfl rfl (by omega) ?_)
        | ((with_reducible refine tag_box ?_); first | refine reg_box (cs := [_]) rfl (fun nb => ?_) | refine reg_box (cs := [_, _]) rfl (fun nb => ?_) | refine reg_box (cs := [_, _, _]) rfl (fun nb => ?_) | refine reg_box (cs := [_, _, _, _]) rfl (fun nb => ?_) | refine reg_box (cs := [_, _, _, _, _]) rfl (fun nb => ?_) | refine reg_box (cs := [_, _, _, _, _, _]) rfl (fun nb => ?_) | refine reg_box (cs := [_, _, _, _, _, _, _]) rfl (fun nb => ?_) | refine reg_box (cs := [_, _, _, _, _, _, _, _]) rfl (fun nb => ?_))
        | ((with_reducible refine tag_alloc ?_); refine reg_alloc (fun nb => ?_))
        | refine reg_defer rfl rfl ?_)
  all_goals refine reg_nil ?_
  all_goals repeat (first | refine run_seq ?_ | refine run_block ?_ | refine run_skip ?_ | refine run_inBlock ?_)
  repeat (first | refine run_seq ?_ | refine run_block ?_ | refine run_skip ?_ | refine run_inBlock ?_)
  first | refine run_region (by kernel_rfl) ?_ | refine run_drawA PP_mixed (by kernel_rfl) (by kernel_rfl) ?_
  repeat' (refine reg_cons rfl ?_; first
        | ((with_reducible refine tag_move ?_); refine reg_pure rfl ?_)
        | ((with_reducible refine tag_assign ?_); refine reg_pure rfl ?_)
        | ((with_reducible refine tag_load ?_); first | refine reg_load_sh 0 rfl rfl rfl ?_ | refine reg_load_sh 1 rfl rfl rfl ?_ | refine reg_load_sh 2 rfl rfl rfl ?_ | refine reg_load_sh 3 rfl rfl rfl ?_ | refine reg_load_sh 4 rfl rfl rfl ?_ | refine reg_load_sh 5 rfl rfl rfl ?_ | refine reg_load_pt 0 rfl rfl rfl ?_ | refine reg_load_pt 1 rfl rfl rfl ?_ | refine reg_load_pt 2 rfl rfl rfl ?_ | refine reg_load_pt 3 rfl rfl rfl ?_ | refine reg_load_pt 4 rfl rfl rfl ?_ | refine reg_load_pt 5 rfl rfl rfl ?_)
        | ((with_reducible refine tag_call ?_); refine reg_callE [] (depth_spec w0 hw _) rfl rfl rfl sub_nil rfl ?_)
        | ((with_reducible refine tag_field ?_); refine reg_field rfl ?_)
        | ((with_reducible refine tag_extract ?_); refine reg_pure rfl ?_)
        | ((with_reducible refine tag_bin ?_); first | refine reg_add64 rfl rfl (by omega) ?_ | refine reg_sub64 rfl rfl (by omega) ?_ | refine reg_eql rfl rfl ?_ | refine reg_neq rfl rfl ?_ | refine reg_gtr rfl rfl ?_ | refine reg_rem64 rfl rfl (by omega) ?_ | refine reg_eq_nil rfl rfl ?_ | refine reg_eqB rfl rfl ?_ | refine reg_ne_nil rfl rfl ?_)
        | ((with_reducible refine tag_un ?_); first | refine reg_not rfl ?_ | refine reg_notB rfl ?_)
        | ((with_reducible refine tag_store ?_); first | refine reg_store 0 rfl rfl rfl rfl rfl rfl rfl ?_ | refine reg_store 1 rfl rfl rfl rfl rfl rfl rfl ?_ | refine reg_store 2 rfl rfl rfl rfl rfl rfl rfl ?_ | refine reg_store 3 rfl rfl rfl rfl rfl rfl rfl ?_ | refine reg_store 4 rfl rfl rfl rfl rfl rfl rfl ?_ | refine reg_store 5 rfl rfl rfl rfl rfl rfl rfl ?_)
        | ((with_reducible refine tag_index ?_); first | refine reg_index_slice rfl rfl (by omega) ?_ | refine reg_index_array rfl rfl (by omega) ?_)
        | ((with_reducible refine tag_box ?_); first | refine reg_box (cs := [_]) rfl (fun nb => ?_) | refine reg_box (cs := [_, _]) rfl (fun nb => ?_) | refine reg_box (cs := [_, _, _]) rfl (fun nb => ?_) | refine reg_box (cs := [_, _, _, _]) rfl (fun nb => ?_) | refine reg_box (cs := [_, _, _, _, _]) rfl (fun nb => ?_) | refine reg_box (cs := [_, _, _, _, _, _]) rfl (fun nb => ?_) | refine reg_box (cs := [_, _, _, _, _, _, _]) rfl (fun nb => ?_) | refine reg_box (cs := [_, _, _, _, _, _, _, _]) rfl (fun nb => ?_))
        | ((with_reducible refine tag_alloc ?_); refine reg_alloc (fun nb => ?_))
        | refine reg_defer rfl rfl ?_)
  all_goals refine reg_nil ?_
  all_goals repeat (first | refine run_seq ?_ | refine run_block ?_ | refine run_skip ?_ | refine run_inBlock ?_)
  repeat (first | refine run_seq ?_ | refine run_block ?_ | refine run_skip ?_ | refine run_inBlock ?_)
  first | refine run_region (by kernel_rfl) ?_ | refine run_drawA PP_mixed (by kernel_rfl) (by kernel_rfl) ?_
  repeat' (refine reg_cons rfl ?_; first
        | ((with_reducible refine tag_move ?_); refine reg_pure rfl ?_)
        | ((with_reducible refine tag_assign ?_); refine reg_pure rfl ?_)
        | ((with_reducible refine tag_load ?_); first | refine reg_load_sh 0 rfl rfl rfl ?_ | refine reg_load_sh 1 rfl rfl rfl ?_ | refine reg_load_sh 2 rfl rfl rfl ?_ | refine reg_load_sh 3 rfl rfl rfl ?_ | refine reg_load_sh 4 rfl rfl rfl ?_ | refine reg_load_sh 5 rfl rfl rfl ?_ | refine reg_load_pt 0 rfl rfl rfl ?_ | refine reg_load_pt 1 rfl rfl rfl ?_ | refine reg_load_pt 2 rfl rfl rfl ?_ | refine reg_load_pt 3 rfl rfl rfl ?_ | refine reg_load_pt 4 rfl rfl rfl ?_ | refine reg_load_pt 5 rfl rfl rfl ?_)
        | ((with_reducible refine tag_field ?_); refine reg_field rfl ?_)
        | ((with_reducible refine tag_extract ?_); refine reg_pure rfl ?_)
        | ((with_reducible refine tag_bin ?_); first | refine reg_add64 rfl rfl (by omega) ?_ | refine reg_sub64 rfl rfl (by omega) ?_ | refine reg_eql rfl rfl ?_ | refine reg_neq rfl rfl ?_ | refine reg_gtr rfl rfl ?_ | refine reg_rem64 rfl rfl (by omega) ?_ | refine reg_eq_nil rfl rfl ?_ | refine reg_eqB rfl rfl ?_ | refine reg_ne_nil rfl rfl ?_)
        | ((with_reducible refine tag_un ?_); first | refine reg_not rfl ?_ | refine reg_notB rfl ?_)
        | ((with_reducible refine tag_store ?_); first | refine reg_store 0 rfl rfl rfl rfl rfl rfl rfl ?_ | refine reg_store 1 rfl rfl rfl rfl rfl rfl rfl ?_ | refine reg_store 2 rfl rfl rfl rfl rfl rfl rfl ?_ | refine reg_store 3 rfl rfl rfl rfl rfl rfl rfl ?_ | refine reg_store 4 rfl rfl rfl rfl rfl rfl rfl ?_ | refine reg_store 5 rfl rfl rfl rfl rfl rfl rfl ?_)
        | ((with_reducible refine tag_index ?_); first | refine reg_index_slice rfl rfl (by omega) ?_ | refine reg_index_array rfl rfl (by omega) ?_)
        | ((with_reducible refine tag_box ?_); first | refine reg_box (cs := [_]) rfl (fun nb => ?_) | refine reg_box (cs := [_, _]) rfl (fun nb => ?_) | refine reg_box (cs := [_, _, _]) rfl (fun nb => ?_) | refine reg_box (cs := [_, _, _, _]) rfl (fun nb => ?_) | refine reg_box (cs := [_, _, _, _, _]) rfl (fun nb => ?_) | refine reg_box (cs := [_, _, _, _, _, _]) rfl (fun nb => ?_) | refine reg_box (cs := [_, _, _, _, _, _, _]) rfl (fun nb => ?_) | refine reg_box (cs := [_, _, _, _, _, _, _, _]) rfl (fun nb => ?_))
        | ((with_reducible refine tag_alloc ?_); refine reg_alloc (fun nb => ?_))
        | refine reg_defer rfl rfl ?_)
  all_goals refine reg_nil ?_
  all_goals repeat (first | refine run_seq ?_ | refine run_block ?_ | refine run_skip ?_ | refine run_inBlock ?_)
  refine run_slots [(1, spP p), (2, .int .i64 v), (3, ptr bx), (7, ptr nb), (8, .int .i64 n), (9, .int .i64 d), (11, .int .i64 (dep (n + 1))), (44, .bool (decide ((d : Int) < dep (n + 1))))] ⟨rfl, rfl, rfl, rfl, rfl, rfl, rfl, rfl, trivial⟩ (fun junk => ?_)
  show Run PP w0 _ _ _ _ _ [pushD p nb mk] _
  refine run_join (S := Nat × Sp) (fun st => [(1, spP p), (2, .int .i64 v), (3, ptr bx), (7, ptr nb), (8, .int .i64 n), (9, .int .i64 (st.1 : Int))])
    (fun st Γ => Γ = [SpaceA p st.2, eV nb 0] ∧ st.1 ≤ 4 ∧ 1 ≤ st.1 ∧ Sm st.2 18 ∧ A.pushIn n v d t = A.rest n v st.1 st.2) ?_ ?_
  · by_cases hlt : d < dep (n + 1)
    rotate_left
    · refine run_condF (bool_eq (decide_eq_false (by omega))) ?_
      repeat (first | refine run_seq ?_ | refine run_block ?_ | refine run_skip ?_ | refine run_inBlock ?_ | refine run_inLoop ?_)
      have hpi : A.pushIn n v d t = A.rest n v d t := by simp only [Ar.pushIn]; rw [if_neg hlt]
      refine cut_end ⟨rfl, (d, t), ⟨rfl, rfl, rfl, rfl, rfl, rfl, trivial⟩, ⟨rfl, hd4, by dsimp only; omega, hsm2.mono (by decide), hpi⟩⟩
    refine run_condT (bool_eq (decide_eq_true (by omega))) ?_
    have hgOk : ∀ s', A.grow n d t = (0, s') → A.pushIn n v d t = A.rest n v (dep (n + 1)) s' := fun s' h => by
      simp only [Ar.pushIn]; rw [if_pos hlt, h]; rfl
    have hgNo : ∀ e s', A.grow n d t = (e, s') → e ≠ 0 → A.pushIn n v d t = (0, e, s') := fun e s' h he => by
      simp only [Ar.pushIn]; rw [if_pos hlt, h, if_neg he]
    have hgr : A.grow n d t = A.grow n d t := rfl
    conv at hgr => rhs; simp only [Ar.grow]
    have hG := getS w0 p t A.root (hsm2.mono (by decide))
    have hsm3 : Sm (t.get A.root).2 24 := sm_get hsm2
    generalize t.get A.root = g at hgr hG hsm3
    repeat (first | refine run_seq ?_ | refine run_block ?_ | refine run_skip ?_ | refine run_inBlock ?_)
    first | refine run_region (by kernel_rfl) ?_ | refine run_drawA PP_mixed (by kernel_rfl) (by kernel_rfl) ?_
    repeat' (refine reg_cons rfl ?_; first
          | (refine reg_add64 rfl rfl (by omega) ?_; rw [Int.add_zero])
          | ((with_reducible refine tag_move ?_); refine reg_pure rfl ?_)
          | ((with_reducible refine tag_assign ?_); refine reg_pure rfl ?_)
          | ((with_reducible refine tag_load ?_); first | refine reg_load_sh 0 rfl rfl rfl ?_ | refine reg_load_sh 1 rfl rfl rfl ?_ | refine reg_load_sh 2 rfl rfl rfl ?_ | refine reg_load_sh 3 rfl rfl rfl ?_ | refine reg_load_sh 4 rfl rfl rfl ?_ | refine reg_load_sh 5 rfl rfl rfl ?_ | refine reg_load_pt 0 rfl rfl rfl ?_ | refine reg_load_pt 1 rfl rfl rfl ?_ | refine reg_load_pt 2 rfl rfl rfl ?_ | refine reg_load_pt 3 rfl rfl rfl ?_ | refine reg_load_pt 4 rfl rfl rfl ?_ | refine reg_load_pt 5 rfl rfl rfl ?_)
          | ((with_reducible refine tag_call ?_); refine reg_callE [0] hG rfl rfl rfl sub_nil rfl ?_)
          | ((with_reducible refine tag_field ?_); refine reg_field rfl ?_)
          | ((with_reducible refine tag_extract ?_); refine reg_pure rfl ?_)
          | ((with_reducible refine tag_bin ?_); first | refine reg_add64 rfl rfl (by omega) ?_ | refine reg_sub64 rfl rfl (by omega) ?_ | refine reg_eql rfl rfl ?_ | refine reg_neq rfl rfl ?_ | refine reg_gtr rfl rfl ?_ | refine reg_rem64 rfl rfl (by omega) ?_ | refine reg_eq_nil rfl rfl ?_ | refine reg_eqB rfl rfl ?_ | refine reg_ne_nil rfl rfl ?_)
          | ((with_reducible refine tag_un ?_); first | refine reg_not rfl ?_ | refine reg_notB rfl ?_)
          | ((with_reducible refine tag_store ?_); first | refine reg_store 0 rfl rfl rfl rfl rfl rfl rfl ?_ | refine reg_store 1 rfl rfl rfl rfl rfl rfl rfl ?_ | refine reg_store 2 rfl rfl rfl rfl rfl rfl rfl ?_ | refine reg_store 3 rfl rfl rfl rfl rfl rfl rfl ?_ | refine reg_store 4 rfl rfl rfl rfl rfl rfl rfl ?_ | refine reg_store 5 rfl rfl rfl rfl rfl rfl rfl ?_)
          | ((with_reducible refine tag_index ?_); first | refine reg_index_slice rfl rfl (by omega) ?_ | refine reg_index_array rfl rfl (by omega) ?_)
          | ((with_reducible refine tag_box ?_); first | refine reg_box (cs := [_]) rfl (fun nb => ?_) | refine reg_box (cs := [_, _]) rfl (fun nb => ?_) | refine reg_box (cs := [_, _, _]) rfl (fun nb => ?_) | refine reg_box (cs := [_, _, _, _]) rfl (fun nb => ?_) | refine reg_box (cs := [_, _, _, _, _]) rfl (fun nb => ?_) | refine reg_box (cs := [_, _, _, _, _, _]) rfl (fun nb => ?_) | refine reg_box (cs := [_, _, _, _, _, _, _]) rfl (fun nb => ?_) | refine reg_box (cs := [_, _, _, _, _, _, _, _]) rfl (fun nb => ?_))
          | ((with_reducible refine tag_alloc ?_); refine reg_alloc (fun nb => ?_))
          | refine reg_defer rfl rfl ?_)
    all_goals refine reg_nil ?_
    all_goals repeat (first | refine run_seq ?_ | refine run_block ?_ | refine run_skip ?_ | refine run_inBlock ?_)
    repeat (first | refine run_seq ?_ | refine run_block ?_ | refine run_skip ?_ | refine run_inBlock ?_)
    first | refine run_region (by kernel_rfl) ?_ | refine run_drawA PP_mixed (by kernel_rfl) (by kernel_rfl) ?_
    repeat' (refine reg_cons rfl ?_; first
          | ((with_reducible refine tag_move ?_); refine reg_pure rfl ?_)
          | ((with_reducible refine tag_assign ?_); refine reg_pure rfl ?_)
          | ((with_reducible refine tag_load ?_); first | refine reg_load_sh 0 rfl rfl rfl ?_ | refine reg_load_sh 1 rfl rfl rfl ?_ | refine reg_load_sh 2 rfl rfl rfl ?_ | refine reg_load_sh 3 rfl rfl rfl ?_ | refine reg_load_sh 4 rfl rfl rfl ?_ | refine reg_load_sh 5 rfl rfl rfl ?_ | refine reg_load_pt 0 rfl rfl rfl ?_ | refine reg_load_pt 1 rfl rfl rfl ?_ | refine reg_load_pt 2 rfl rfl rfl ?_ | refine reg_load_pt 3 rfl rfl rfl ?_ | refine reg_load_pt 4 rfl rfl rfl ?_ | refine reg_load_pt 5 rfl rfl rfl ?_)
          | ((with_reducible refine tag_field ?_); refine reg_field rfl ?_)
          | ((with_reducible refine tag_extract ?_); refine reg_pure rfl ?_)
          | ((with_reducible refine tag_bin ?_); first | refine reg_add64 rfl rfl (by omega) ?_ | refine reg_sub64 rfl rfl (by omega) ?_ | refine reg_eql rfl rfl ?_ | refine reg_neq rfl rfl ?_ | refine reg_gtr rfl rfl ?_ | refine reg_rem64 rfl rfl (by omega) ?_ | refine reg_eq_nil rfl rfl ?_ | refine reg_eqB rfl rfl ?_ | refine reg_ne_nil rfl rfl ?_)
          | ((with_reducible refine tag_un ?_); first | refine reg_not rfl ?_ | refine reg_notB rfl ?_)
          | ((with_reducible refine tag_store ?_); first | refine reg_store 0 rfl rfl rfl rfl rfl rfl rfl ?_ | refine reg_store 1 rfl rfl rfl rfl rfl rfl rfl ?_ | refine reg_store 2 rfl rfl rfl rfl rfl rfl rfl ?_ | refine reg_store 3 rfl rfl rfl rfl rfl rfl rfl ?_ | refine reg_store 4 rfl rfl rfl rfl rfl rfl rfl ?_ | refine reg_store 5 rfl rfl rfl rfl rfl rfl rfl ?_)
          | ((with_reducible refine tag_index ?_); first | refine reg_index_slice rfl rfl (by omega) ?_ | refine reg_index_array rfl rfl (by omega) ?_)
          | ((with_reducible refine tag_box ?_); first | refine reg_box (cs := [_]) rfl (fun nb => ?_) | refine reg_box (cs := [_, _]) rfl (fun nb => ?_) | refine reg_box (cs := [_, _, _]) rfl (fun nb => ?_) | refine reg_box (cs := [_, _, _, _]) rfl (fun nb => ?_) | refine reg_box (cs := [_, _, _, _, _]) rfl (fun nb => ?_) | refine reg_box (cs := [_, _, _, _, _, _]) rfl (fun nb => ?_) | refine reg_box (cs := [_, _, _, _, _, _, _]) rfl (fun nb => ?_) | refine reg_box (cs := [_, _, _, _, _, _, _, _]) rfl (fun nb => ?_))
          | ((with_reducible refine tag_alloc ?_); refine reg_alloc (fun nb => ?_))
          | refine reg_defer rfl rfl ?_)
    all_goals refine reg_nil ?_
    all_goals repeat (first | refine run_seq ?_ | refine run_block ?_ | refine run_skip ?_ | refine run_inBlock ?_)
    refine run_slots [(1, spP p), (2, .int .i64 v), (3, ptr bx), (7, ptr nb), (8, .int .i64 n), (9, .int .i64 d), (11, .int .i64 (dep (n + 1))), (12, .int .i64 g.1), (51, .bool (decide (0 < d)))] ⟨rfl, rfl, rfl, rfl, rfl, rfl, rfl, rfl, bool_eq (dec_eq (by omega)), trivial⟩ (fun junk => ?_)
    refine run_join (S := Int × Sp) (fun st => [(1, spP p), (2, .int .i64 v), (3, ptr bx), (7, ptr nb), (8, .int .i64 n), (9, .int .i64 d), (11, .int .i64 (dep (n + 1))), (12, .int .i64 g.1)])
      (fun st Γ => Γ = [SpaceA p st.2, eV nb 0] ∧ Sm st.2 24 ∧ (if 0 < d then A.node g.2 A.root else (0, true, g.2)) = (st.1, true, st.2)) ?_ ?_
    · by_cases hd0 : 0 < d
      · refine run_condT (bool_eq (decide_eq_true hd0)) ?_
        rw [if_pos hd0] at hgr
        have hN := anode_spec w0 p A hA g.2 A.root (hsm3.mono (by decide))
        have hsm4 : Sm (A.node g.2 A.root).2.2 24 := sm_node hsm3
        rw [if_pos hd0]
        generalize A.node g.2 A.root = c at hgr hN hsm4
        repeat (first | refine run_seq ?_ | refine run_block ?_ | refine run_skip ?_ | refine run_inBlock ?_)
        first | refine run_region (by kernel_rfl) ?_ | refine run_drawA PP_mixed (by kernel_rfl) (by kernel_rfl) ?_
        repeat' (refine reg_cons rfl ?_; first
              | (refine reg_add64 rfl rfl (by omega) ?_; rw [Int.add_zero])
              | ((with_reducible refine tag_move ?_); refine reg_pure rfl ?_)
              | ((with_reducible refine tag_assign ?_); refine reg_pure rfl ?_)
              | ((with_reducible refine tag_load ?_); first | refine reg_load_sh 0 rfl rfl rfl ?_ | refine reg_load_sh 1 rfl rfl rfl ?_ | refine reg_load_sh 2 rfl rfl rfl ?_ | refine reg_load_sh 3 rfl rfl rfl ?_ | refine reg_load_sh 4 rfl rfl rfl ?_ | refine reg_load_sh 5 rfl rfl rfl ?_ | refine reg_load_pt 0 rfl rfl rfl ?_ | refine reg_load_pt 1 rfl rfl rfl ?_ | refine reg_load_pt 2 rfl rfl rfl ?_ | refine reg_load_pt 3 rfl rfl rfl ?_ | refine reg_load_pt 4 rfl rfl rfl ?_ | refine reg_load_pt 5 rfl rfl rfl ?_)
              | ((with_reducible refine tag_call ?_); refine reg_callE [0] hN rfl rfl rfl sub_nil rfl ?_)
              | ((with_reducible refine tag_field ?_); refine reg_field rfl ?_)
              | ((with_reducible refine tag_extract ?_); refine reg_pure rfl ?_)
              | ((with_reducible refine tag_bin ?_); first | refine reg_add64 rfl rfl (by omega) ?_ | refine reg_sub64 rfl rfl (by omega) ?_ | refine reg_eql rfl rfl ?_ | refine reg_neq rfl rfl ?_ | refine reg_gtr rfl rfl ?_ | refine reg_rem64 rfl rfl (by omega) ?_ | refine reg_eq_nil rfl rfl ?_ | refine reg_eqB rfl rfl ?_ | refine reg_ne_nil rfl rfl ?_)
              | ((with_reducible refine tag_un ?_); first | refine reg_not rfl ?_ | refine reg_notB rfl ?_)
              | ((with_reducible refine tag_store ?_); first | refine reg_store 0 rfl rfl rfl rfl rfl rfl rfl ?_ | refine reg_store 1 rfl rfl rfl rfl rfl rfl rfl ?_ | refine reg_store 2 rfl rfl rfl rfl rfl rfl rfl ?_ | refine reg_store 3 rfl rfl rfl rfl rfl rfl rfl ?_ | refine reg_store 4 rfl rfl rfl rfl rfl rfl rfl ?_ | refine reg_store 5 rfl rfl rfl rfl rfl rfl rfl ?_)
              | ((with_reducible refine tag_index ?_); first | refine reg_index_slice rfl rfl (by omega) ?_ | refine reg_index_array rfl rfl (by omega) ?_)
              | ((with_reducible refine tag_box ?_); first | refine reg_box (cs := [_]) rfl (fun nb => ?_) | refine reg_box (cs := [_, _]) rfl (fun nb => ?_) | refine reg_box (cs := [_, _, _]) rfl (fun nb => ?_) | refine reg_box (cs := [_, _, _, _]) rfl (fun nb => ?_) | refine reg_box (cs := [_, _, _, _, _]) rfl (fun nb => ?_) | refine reg_box (cs := [_, _, _, _, _, _]) rfl (fun nb => ?_) | refine reg_box (cs := [_, _, _, _, _, _, _]) rfl (fun nb => ?_) | refine reg_box (cs := [_, _, _, _, _, _, _, _]) rfl (fun nb => ?_))
              | ((with_reducible refine tag_alloc ?_); refine reg_alloc (fun nb => ?_))
              | refine reg_defer rfl rfl ?_)
        all_goals refine reg_nil ?_
        all_goals repeat (first | refine run_seq ?_ | refine run_block ?_ | refine run_skip ?_ | refine run_inBlock ?_)
        repeat (first | refine run_seq ?_ | refine run_block ?_ | refine run_skip ?_ | refine run_inBlock ?_)
        first | refine run_region (by kernel_rfl) ?_ | refine run_drawA PP_mixed (by kernel_rfl) (by kernel_rfl) ?_
        repeat' (refine reg_cons rfl ?_; first
              | ((with_reducible refine tag_move ?_); refine reg_pure rfl ?_)
              | ((with_reducible refine tag_assign ?_); refine reg_pure rfl ?_)
              | ((with_reducible refine tag_load ?_); first | refine reg_load_sh 0 rfl rfl rfl ?_ | refine reg_load_sh 1 rfl rfl rfl ?_ | refine reg_load_sh 2 rfl rfl rfl ?_ | refine reg_load_sh 3 rfl rfl rfl ?_ | refine reg_load_sh 4 rfl rfl rfl ?_ | refine reg_load_sh 5 rfl rfl rfl ?_ | refine reg_load_pt 0 rfl rfl rfl ?_ | refine reg_load_pt 1 rfl rfl rfl ?_ | refine reg_load_pt 2 rfl rfl rfl ?_ | refine reg_load_pt 3 rfl rfl rfl ?_ | refine reg_load_pt 4 rfl rfl rfl ?_ | refine reg_load_pt 5 rfl rfl rfl ?_)
              | ((with_reducible refine tag_field ?_); refine reg_field rfl ?_)
              | ((with_reducible refine tag_extract ?_); refine reg_pure rfl ?_)
              | ((with_reducible refine tag_bin ?_); first | refine reg_add64 rfl rfl (by omega) ?_ | refine reg_sub64 rfl rfl (by omega) ?_ | refine reg_eql rfl rfl ?_ | refine reg_neq rfl rfl ?_ | refine reg_gtr rfl rfl ?_ | refine reg_rem64 rfl rfl (by omega) ?_ | refine reg_eq_nil rfl rfl ?_ | refine reg_eqB rfl rfl ?_ | refine reg_ne_nil rfl rfl ?_)
              | ((with_reducible refine tag_un ?_); first | refine reg_not rfl ?_ | refine reg_notB rfl ?_)
              | ((with_reducible refine tag_store ?_); first | refine reg_store 0 rfl rfl rfl rfl rfl rfl rfl ?_ | refine reg_store 1 rfl rfl rfl rfl rfl rfl rfl ?_ | refine reg_store 2 rfl rfl rfl rfl rfl rfl rfl ?_ | refine reg_store 3 rfl rfl rfl rfl rfl rfl rfl ?_ | refine reg_store 4 rfl rfl rfl rfl rfl rfl rfl ?_ | refine reg_store 5 rfl rfl rfl rfl rfl rfl rfl ?_)
              | ((with_reducible refine tag_index ?_); first | refine reg_index_slice rfl rfl (by omega) ?_ | refine reg_index_array rfl rfl (by omega) ?_)
              | ((with_reducible refine tag_box ?_); first | refine reg_box (cs := [_]) rfl (fun nb => ?_) | refine reg_box (cs := [_, _]) rfl (fun nb => ?_) | refine reg_box (cs := [_, _, _]) rfl (fun nb => ?_) | refine reg_box (cs := [_, _, _, _]) rfl (fun nb => ?_) | refine reg_box (cs := [_, _, _, _, _]) rfl (fun nb => ?_) | refine reg_box (cs := [_, _, _, _, _, _]) rfl (fun nb => ?_) | refine reg_box (cs := [_, _, _, _, _, _, _]) rfl (fun nb => ?_) | refine reg_box (cs := [_, _, _, _, _, _, _, _]) rfl (fun nb => ?_))
              | ((with_reducible refine tag_alloc ?_); refine reg_alloc (fun nb => ?_))
              | refine reg_defer rfl rfl ?_)
        all_goals refine reg_nil ?_
        all_goals repeat (first | refine run_seq ?_ | refine run_block ?_ | refine run_skip ?_ | refine run_inBlock ?_)
        refine run_condV rfl (fun hE => ?_) (fun hE => ?_)
        · have hE : c.2.1 = false := by simpa using hE
          rw [hE, if_neg (by decide)] at hgr
          repeat' (first
            | refine run_seq ?_
            | refine run_region (by kernel_rfl) ?_
            | refine run_drawA PP_mixed (by kernel_rfl) (by kernel_rfl) ?_
            | refine run_skip ?_
            | refine run_block ?_
            | refine run_inBlock ?_
            | refine run_inLoop ?_
            | refine run_exit rfl ?_
            | (refine reg_cons rfl ?_; first
                | ((with_reducible refine tag_move ?_); refine reg_pure rfl ?_)
                | ((with_reducible refine tag_assign ?_); refine reg_pure rfl ?_)
                | ((with_reducible refine tag_load ?_); first | refine reg_load_sh 0 rfl rfl rfl ?_ | refine reg_load_sh 1 rfl rfl rfl ?_ | refine reg_load_sh 2 rfl rfl rfl ?_ | refine reg_load_sh 3 rfl rfl rfl ?_ | refine reg_load_sh 4 rfl rfl rfl ?_ | refine reg_load_sh 5 rfl rfl rfl ?_ | refine reg_load_pt 0 rfl rfl rfl ?_ | refine reg_load_pt 1 rfl rfl rfl ?_ | refine reg_load_pt 2 rfl rfl rfl ?_ | refine reg_load_pt 3 rfl rfl rfl ?_ | refine reg_load_pt 4 rfl rfl rfl ?_ | refine reg_load_pt 5 rfl rfl rfl ?_)
                | ((with_reducible refine tag_field ?_); refine reg_field rfl ?_)
                | ((with_reducible refine tag_extract ?_); refine reg_pure rfl ?_)
                | ((with_reducible refine tag_bin ?_); first | refine reg_add64 rfl rfl (by omega) ?_ | refine reg_sub64 rfl rfl (by omega) ?_ | refine reg_eql rfl rfl ?_ | refine reg_neq rfl rfl ?_ | refine reg_gtr rfl rfl ?_ | refine reg_rem64 rfl rfl (by omega) ?_ | refine reg_eq_nil rfl rfl ?_ | refine reg_eqB rfl rfl ?_ | refine reg_ne_nil rfl rfl ?_)
                | ((with_reducible refine tag_un ?_); first | refine reg_not rfl ?_ | refine reg_notB rfl ?_)
                | ((with_reducible refine tag_store ?_); first | refine reg_store 0 rfl rfl rfl rfl rfl rfl rfl ?_ | refine reg_store 1 rfl rfl rfl rfl rfl rfl rfl ?_ | refine reg_store 2 rfl rfl rfl rfl rfl rfl rfl ?_ | refine reg_store 3 rfl rfl rfl rfl rfl rfl rfl ?_ | refine reg_store 4 rfl rfl rfl rfl rfl rfl rfl ?_ | refine reg_store 5 rfl rfl rfl rfl rfl rfl rfl ?_)
                | ((with_reducible refine tag_index ?_); first | refine reg_index_slice rfl rfl (by omega) ?_ | refine reg_index_array rfl rfl (by omega) ?_)
                | ((with_reducible refine tag_box ?_); first | refine reg_box (cs := [_]) rfl (fun nb => ?_) | refine reg_box (cs := [_, _]) rfl (fun nb => ?_) | refine reg_box (cs := [_, _, _]) rfl (fun nb => ?_) | refine reg_box (cs := [_, _, _, _]) rfl (fun nb => ?_) | refine reg_box (cs := [_, _, _, _, _]) rfl (fun nb => ?_) | refine reg_box (cs := [_, _, _, _, _, _]) rfl (fun nb => ?_) | refine reg_box (cs := [_, _, _, _, _, _, _]) rfl (fun nb => ?_) | refine reg_box (cs := [_, _, _, _, _, _, _, _]) rfl (fun nb => ?_))
                | ((with_reducible refine tag_alloc ?_); refine reg_alloc (fun nb => ?_))
                | refine reg_defer rfl rfl ?_)
            | refine reg_nil ?_
            | refine run_condT rfl ?_
            | refine run_condF rfl ?_)
          exact qret rfl (fun _ _ h => h) (fin _ _ _ _ rfl rfl (hgNo _ _ hgr (by decide)))
        · have hE : c.2.1 = true := by simpa using hE
          repeat (first | refine run_seq ?_ | refine run_block ?_ | refine run_skip ?_ | refine run_inBlock ?_ | refine run_inLoop ?_)
          exact cut_end ⟨rfl, (c.1, c.2.2), ⟨rfl, rfl, rfl, rfl, rfl, rfl, rfl, rfl, trivial⟩, ⟨rfl, hsm4, by rw [← hE]⟩⟩
      · refine run_condF (bool_eq (decide_eq_false hd0)) ?_
        repeat (first | refine run_seq ?_ | refine run_block ?_ | refine run_skip ?_ | refine run_inBlock ?_ | refine run_inLoop ?_)
        exact cut_end ⟨rfl, (0, g.2), ⟨rfl, rfl, rfl, rfl, rfl, rfl, rfl, rfl, trivial⟩, ⟨rfl, hsm3, by rw [if_neg hd0]⟩⟩
    rintro ⟨ca, s1⟩ Γ' junk ⟨rfl, hsm4, hc⟩
    dsimp only at hsm4 hc ⊢
    rw [hc] at hgr
    rw [if_pos rfl] at hgr
    have hT := atake_spec w0 p A hA s1 (hsm4.mono (by decide))
    have hsm5 : Sm (A.take s1).2.2 21 := sm_take hsm4
    dsimp only at hgr
    generalize A.take s1 = k1 at hgr hT hsm5
    repeat (first | refine run_seq ?_ | refine run_block ?_ | refine run_skip ?_ | refine run_inBlock ?_)
    first | refine run_region (by kernel_rfl) ?_ | refine run_drawA PP_mixed (by kernel_rfl) (by kernel_rfl) ?_
    repeat' (refine reg_cons rfl ?_; first
          | ((with_reducible refine tag_move ?_); refine reg_pure rfl ?_)
          | ((with_reducible refine tag_assign ?_); refine reg_pure rfl ?_)
          | ((with_reducible refine tag_load ?_); first | refine reg_load_sh 0 rfl rfl rfl ?_ | refine reg_load_sh 1 rfl rfl rfl ?_ | refine reg_load_sh 2 rfl rfl rfl ?_ | refine reg_load_sh 3 rfl rfl rfl ?_ | refine reg_load_sh 4 rfl rfl rfl ?_ | refine reg_load_sh 5 rfl rfl rfl ?_ | refine reg_load_pt 0 rfl rfl rfl ?_ | refine reg_load_pt 1 rfl rfl rfl ?_ | refine reg_load_pt 2 rfl rfl rfl ?_ | refine reg_load_pt 3 rfl rfl rfl ?_ | refine reg_load_pt 4 rfl rfl rfl ?_ | refine reg_load_pt 5 rfl rfl rfl ?_)
          | ((with_reducible refine tag_call ?_); refine reg_callE [0] hT rfl rfl rfl sub_nil rfl ?_)
          | ((with_reducible refine tag_field ?_); refine reg_field rfl ?_)
          | ((with_reducible refine tag_extract ?_); refine reg_pure rfl ?_)
          | ((with_reducible refine tag_bin ?_); first | refine reg_add64 rfl rfl (by omega) ?_ | refine reg_sub64 rfl rfl (by omega) ?_ | refine reg_eql rfl rfl ?_ | refine reg_neq rfl rfl ?_ | refine reg_gtr rfl rfl ?_ | refine reg_rem64 rfl rfl (by omega) ?_ | refine reg_eq_nil rfl rfl ?_ | refine reg_eqB rfl rfl ?_ | refine reg_ne_nil rfl rfl ?_)
          | ((with_reducible refine tag_un ?_); first | refine reg_not rfl ?_ | refine reg_notB rfl ?_)
          | ((with_reducible refine tag_store ?_); first | refine reg_store 0 rfl rfl rfl rfl rfl rfl rfl ?_ | refine reg_store 1 rfl rfl rfl rfl rfl rfl rfl ?_ | refine reg_store 2 rfl rfl rfl rfl rfl rfl rfl ?_ | refine reg_store 3 rfl rfl rfl rfl rfl rfl rfl ?_ | refine reg_store 4 rfl rfl rfl rfl rfl rfl rfl ?_ | refine reg_store 5 rfl rfl rfl rfl rfl rfl rfl ?_)
          | ((with_reducible refine tag_index ?_); first | refine reg_index_slice rfl rfl (by omega) ?_ | refine reg_index_array rfl rfl (by omega) ?_)
          | ((with_reducible refine tag_box ?_); first | refine reg_box (cs := [_]) rfl (fun nb => ?_) | refine reg_box (cs := [_, _]) rfl (fun nb => ?_) | refine reg_box (cs := [_, _, _]) rfl (fun nb => ?_) | refine reg_box (cs := [_, _, _, _]) rfl (fun nb => ?_) | refine reg_box (cs := [_, _, _, _, _]) rfl (fun nb => ?_) | refine reg_box (cs := [_, _, _, _, _, _]) rfl (fun nb => ?_) | refine reg_box (cs := [_, _, _, _, _, _, _]) rfl (fun nb => ?_) | refine reg_box (cs := [_, _, _, _, _, _, _, _]) rfl (fun nb => ?_))
          | ((with_reducible refine tag_alloc ?_); refine reg_alloc (fun nb => ?_))
          | refine reg_defer rfl rfl ?_)
    all_goals refine reg_nil ?_
    all_goals repeat (first | refine run_seq ?_ | refine run_block ?_ | refine run_skip ?_ | refine run_inBlock ?_)
    repeat (first | refine run_seq ?_ | refine run_block ?_ | refine run_skip ?_ | refine run_inBlock ?_)
    first | refine run_region (by kernel_rfl) ?_ | refine run_drawA PP_mixed (by kernel_rfl) (by kernel_rfl) ?_
    repeat' (refine reg_cons rfl ?_; first
          | ((with_reducible refine tag_move ?_); refine reg_pure rfl ?_)
          | ((with_reducible refine tag_assign ?_); refine reg_pure rfl ?_)
          | ((with_reducible refine tag_load ?_); first | refine reg_load_sh 0 rfl rfl rfl ?_ | refine reg_load_sh 1 rfl rfl rfl ?_ | refine reg_load_sh 2 rfl rfl rfl ?_ | refine reg_load_sh 3 rfl rfl rfl ?_ | refine reg_load_sh 4 rfl rfl rfl ?_ | refine reg_load_sh 5 rfl rfl rfl ?_ | refine reg_load_pt 0 rfl rfl rfl ?_ | refine reg_load_pt 1 rfl rfl rfl ?_ | refine reg_load_pt 2 rfl rfl rfl ?_ | refine reg_load_pt 3 rfl rfl rfl ?_ | refine reg_load_pt 4 rfl rfl rfl ?_ | refine reg_load_pt 5 rfl rfl rfl ?_)
          | ((with_reducible refine tag_field ?_); refine reg_field rfl ?_)
          | ((with_reducible refine tag_extract ?_); refine reg_pure rfl ?_)
          | ((with_reducible refine tag_bin ?_); first | refine reg_add64 rfl rfl (by omega) ?_ | refine reg_sub64 rfl rfl (by omega) ?_ | refine reg_eql rfl rfl ?_ | refine reg_neq rfl rfl ?_ | refine reg_gtr rfl rfl ?_ | refine reg_rem64 rfl rfl (by omega) ?_ | refine reg_eq_nil rfl rfl ?_ | refine reg_eqB rfl rfl ?_ | refine reg_ne_nil rfl rfl ?_)
          | ((with_reducible refine tag_un ?_); first | refine reg_not rfl ?_ | refine reg_notB rfl ?_)
          | ((with_reducible refine tag_store ?_); first | refine reg_store 0 rfl rfl rfl rfl rfl rfl rfl ?_ | refine reg_store 1 rfl rfl rfl rfl rfl rfl rfl ?_ | refine reg_store 2 rfl rfl rfl rfl rfl rfl rfl ?_ | refine reg_store 3 rfl rfl rfl rfl rfl rfl rfl ?_ | refine reg_store 4 rfl rfl rfl rfl rfl rfl rfl ?_ | refine reg_store 5 rfl rfl rfl rfl rfl rfl rfl ?_)
          | ((with_reducible refine tag_index ?_); first | refine reg_index_slice rfl rfl (by omega) ?_ | refine reg_index_array rfl rfl (by omega) ?_)
          | ((with_reducible refine tag_box ?_); first | refine reg_box (cs := [_]) rfl (fun nb => ?_) | refine reg_box (cs := [_, _]) rfl (fun nb => ?_) | refine reg_box (cs := [_, _, _]) rfl (fun nb => ?_) | refine reg_box (cs := [_, _, _, _]) rfl (fun nb => ?_) | refine reg_box (cs := [_, _, _, _, _]) rfl (fun nb => ?_) | refine reg_box (cs := [_, _, _, _, _, _]) rfl (fun nb => ?_) | refine reg_box (cs := [_, _, _, _, _, _, _]) rfl (fun nb => ?_) | refine reg_box (cs := [_, _, _, _, _, _, _, _]) rfl (fun nb => ?_))
          | ((with_reducible refine tag_alloc ?_); refine reg_alloc (fun nb => ?_))
          | refine reg_defer rfl rfl ?_)
    all_goals refine reg_nil ?_
    all_goals repeat (first | refine run_seq ?_ | refine run_block ?_ | refine run_skip ?_ | refine run_inBlock ?_)
    refine run_cond rfl (fun hE => ?_) (fun hE => ?_)
    · rw [if_neg hE] at hgr
      repeat' (first
        | refine run_seq ?_
        | refine run_region (by kernel_rfl) ?_
        | refine run_drawA PP_mixed (by kernel_rfl) (by kernel_rfl) ?_
        | refine run_skip ?_
        | refine run_block ?_
        | refine run_inBlock ?_
        | refine run_inLoop ?_
        | refine run_exit rfl ?_
        | (refine reg_cons rfl ?_; first
            | ((with_reducible refine tag_move ?_); refine reg_pure rfl ?_)
            | ((with_reducible refine tag_assign ?_); refine reg_pure rfl ?_)
            | ((with_reducible refine tag_load ?_); first | refine reg_load_sh 0 rfl rfl rfl ?_ | refine reg_load_sh 1 rfl rfl rfl ?_ | refine reg_load_sh 2 rfl rfl rfl ?_ | refine reg_load_sh 3 rfl rfl rfl ?_ | refine reg_load_sh 4 rfl rfl rfl ?_ | refine reg_load_sh 5 rfl rfl rfl ?_ | refine reg_load_pt 0 rfl rfl rfl ?_ | refine reg_load_pt 1 rfl rfl rfl ?_ | refine reg_load_pt 2 rfl rfl rfl ?_ | refine reg_load_pt 3 rfl rfl rfl ?_ | refine reg_load_pt 4 rfl rfl rfl ?_ | refine reg_load_pt 5 rfl rfl rfl ?_)
            | ((with_reducible refine tag_field ?_); refine reg_field rfl ?_)
            | ((with_reducible refine tag_extract ?_); refine reg_pure rfl ?_)
            | ((with_reducible refine tag_bin ?_); first | refine reg_add64 rfl rfl (by omega) ?_ | refine reg_sub64 rfl rfl (by omega) ?_ | refine reg_eql rfl rfl ?_ | refine reg_neq rfl rfl ?_ | refine reg_gtr rfl rfl ?_ | refine reg_rem64 rfl rfl (by omega) ?_ | refine reg_eq_nil rfl rfl ?_ | refine reg_eqB rfl rfl ?_ | refine reg_ne_nil rfl rfl ?_)
            | ((with_reducible refine tag_un ?_); first | refine reg_not rfl ?_ | refine reg_notB rfl ?_)
            | ((with_reducible refine tag_store ?_); first | refine reg_store 0 rfl rfl rfl rfl rfl rfl rfl ?_ | refine reg_store 1 rfl rfl rfl rfl rfl rfl rfl ?_ | refine reg_store 2 rfl rfl rfl rfl rfl rfl rfl ?_ | refine reg_store 3 rfl rfl rfl rfl rfl rfl rfl ?_ | refine reg_store 4 rfl rfl rfl rfl rfl rfl rfl ?_ | refine reg_store 5 rfl rfl rfl rfl rfl rfl rfl ?_)
            | ((with_reducible refine tag_index ?_); first | refine reg_index_slice rfl rfl (by omega) ?_ | refine reg_index_array rfl rfl (by omega) ?_)
            | ((with_reducible refine tag_box ?_); first | refine reg_box (cs := [_]) rfl (fun nb => ?_) | refine reg_box (cs := [_, _]) rfl (fun nb => ?_) | refine reg_box (cs := [_, _, _]) rfl (fun nb => ?_) | refine reg_box (cs := [_, _, _, _]) rfl (fun nb => ?_) | refine reg_box (cs := [_, _, _, _, _]) rfl (fun nb => ?_) | refine reg_box (cs := [_, _, _, _, _, _]) rfl (fun nb => ?_) | refine reg_box (cs := [_, _, _, _, _, _, _]) rfl (fun nb => ?_) | refine reg_box (cs := [_, _, _, _, _, _, _, _]) rfl (fun nb => ?_))
            | ((with_reducible refine tag_alloc ?_); refine reg_alloc (fun nb => ?_))
            | refine reg_defer rfl rfl ?_)
        | refine reg_nil ?_
        | refine run_condT rfl ?_
        | refine run_condF rfl ?_)
      exact qret rfl (fun _ _ h => h) (fin _ _ _ _ rfl rfl (hgNo _ _ hgr hE))
    have hE : k1.2.1 = 0 := Decidable.of_not_not hE
    rw [if_pos hE] at hgr
    repeat (first | refine run_seq ?_ | refine run_block ?_ | refine run_skip ?_ | refine run_inBlock ?_)
    first | refine run_region (by kernel_rfl) ?_ | refine run_drawA PP_mixed (by kernel_rfl) (by kernel_rfl) ?_
    repeat' (refine reg_cons rfl ?_; first
          | ((with_reducible refine tag_move ?_); refine reg_pure rfl ?_)
          | ((with_reducible refine tag_assign ?_); refine reg_pure rfl ?_)
          | ((with_reducible refine tag_load ?_); first | refine reg_load_sh 0 rfl rfl rfl ?_ | refine reg_load_sh 1 rfl rfl rfl ?_ | refine reg_load_sh 2 rfl rfl rfl ?_ | refine reg_load_sh 3 rfl rfl rfl ?_ | refine reg_load_sh 4 rfl rfl rfl ?_ | refine reg_load_sh 5 rfl rfl rfl ?_ | refine reg_load_pt 0 rfl rfl rfl ?_ | refine reg_load_pt 1 rfl rfl rfl ?_ | refine reg_load_pt 2 rfl rfl rfl ?_ | refine reg_load_pt 3 rfl rfl rfl ?_ | refine reg_load_pt 4 rfl rfl rfl ?_ | refine reg_load_pt 5 rfl rfl rfl ?_)
          | ((with_reducible refine tag_field ?_); refine reg_field rfl ?_)
          | ((with_reducible refine tag_extract ?_); refine reg_pure rfl ?_)
          | ((with_reducible refine tag_bin ?_); first | refine reg_add64 rfl rfl (by omega) ?_ | refine reg_sub64 rfl rfl (by omega) ?_ | refine reg_eql rfl rfl ?_ | refine reg_neq rfl rfl ?_ | refine reg_gtr rfl rfl ?_ | refine reg_rem64 rfl rfl (by omega) ?_ | refine reg_eq_nil rfl rfl ?_ | refine reg_eqB rfl rfl ?_ | refine reg_ne_nil rfl rfl ?_)
          | ((with_reducible refine tag_un ?_); first | refine reg_not rfl ?_ | refine reg_notB rfl ?_)
          | ((with_reducible refine tag_store ?_); first | refine reg_store 0 rfl rfl rfl rfl rfl rfl rfl ?_ | refine reg_store 1 rfl rfl rfl rfl rfl rfl rfl ?_ | refine reg_store 2 rfl rfl rfl rfl rfl rfl rfl ?_ | refine reg_store 3 rfl rfl rfl rfl rfl rfl rfl ?_ | refine reg_store 4 rfl rfl rfl rfl rfl rfl rfl ?_ | refine reg_store 5 rfl rfl rfl rfl rfl rfl rfl ?_)
          | ((with_reducible refine tag_index ?_); first | refine reg_index_slice rfl rfl (by omega) ?_ | refine reg_index_array rfl rfl (by omega) ?_)
          | ((with_reducible refine tag_box ?_); first | refine reg_box (cs := [_]) rfl (fun nb => ?_) | refine reg_box (cs := [_, _]) rfl (fun nb => ?_) | refine reg_box (cs := [_, _, _]) rfl (fun nb => ?_) | refine reg_box (cs := [_, _, _, _]) rfl (fun nb => ?_) | refine reg_box (cs := [_, _, _, _, _]) rfl (fun nb => ?_) | refine reg_box (cs := [_, _, _, _, _, _]) rfl (fun nb => ?_) | refine reg_box (cs := [_, _, _, _, _, _, _]) rfl (fun nb => ?_) | refine reg_box (cs := [_, _, _, _, _, _, _, _]) rfl (fun nb => ?_))
          | ((with_reducible refine tag_alloc ?_); refine reg_alloc (fun nb => ?_))
          | refine reg_defer rfl rfl ?_)
    all_goals refine reg_nil ?_
    all_goals repeat (first | refine run_seq ?_ | refine run_block ?_ | refine run_skip ?_ | refine run_inBlock ?_)
    refine run_slots [(1, spP p), (2, .int .i64 v), (3, ptr bx), (7, ptr nb), (8, .int .i64 n), (9, .int .i64 d), (11, .int .i64 (dep (n + 1))), (12, .int .i64 g.1), (15, .int .i64 k1.1), (73, .bool (decide (0 < d)))] ⟨rfl, rfl, rfl, rfl, rfl, rfl, rfl, rfl, rfl, bool_eq (dec_eq (by omega)), trivial⟩ (fun junk => ?_)
    refine run_join (S := Sp) (fun _ => [(1, spP p), (2, .int .i64 v), (3, ptr bx), (7, ptr nb), (8, .int .i64 n), (11, .int .i64 (dep (n + 1))), (15, .int .i64 k1.1)])
      (fun st Γ => Γ = [SpaceA p st, eV nb 0] ∧ Sm st 20 ∧ (if 0 < d then k1.2.2.put k1.1 g.1 else k1.2.2) = st) ?_ ?_
    · by_cases hd0 : 0 < d
      · refine run_condT (bool_eq (decide_eq_true hd0)) ?_
        repeat' (first
          | refine run_seq ?_
          | refine run_region (by kernel_rfl) ?_
          | refine run_drawA PP_mixed (by kernel_rfl) (by kernel_rfl) ?_
          | refine run_skip ?_
          | refine run_block ?_
          | refine run_inBlock ?_
          | refine run_inLoop ?_
          | refine run_exit rfl ?_
          | (refine reg_cons rfl ?_; first
              | ((with_reducible refine tag_move ?_); refine reg_pure rfl ?_)
              | ((with_reducible refine tag_assign ?_); refine reg_pure rfl ?_)
              | ((with_reducible refine tag_load ?_); first | refine reg_load_sh 0 rfl rfl rfl ?_ | refine reg_load_sh 1 rfl rfl rfl ?_ | refine reg_load_sh 2 rfl rfl rfl ?_ | refine reg_load_sh 3 rfl rfl rfl ?_ | refine reg_load_sh 4 rfl rfl rfl ?_ | refine reg_load_sh 5 rfl rfl rfl ?_ | refine reg_load_pt 0 rfl rfl rfl ?_ | refine reg_load_pt 1 rfl rfl rfl ?_ | refine reg_load_pt 2 rfl rfl rfl ?_ | refine reg_load_pt 3 rfl rfl rfl ?_ | refine reg_load_pt 4 rfl rfl rfl ?_ | refine reg_load_pt 5 rfl rfl rfl ?_)
              | ((with_reducible refine tag_call ?_); refine reg_callE [0] (putS w0 p _ _ _ (hsm5.mono (by decide))) rfl rfl rfl sub_nil rfl ?_)
              | ((with_reducible refine tag_field ?_); refine reg_field rfl ?_)
              | ((with_reducible refine tag_extract ?_); refine reg_pure rfl ?_)
              | ((with_reducible refine tag_bin ?_); first | refine reg_add64 rfl rfl (by omega) ?_ | refine reg_sub64 rfl rfl (by omega) ?_ | refine reg_eql rfl rfl ?_ | refine reg_neq rfl rfl ?_ | refine reg_gtr rfl rfl ?_ | refine reg_rem64 rfl rfl (by omega) ?_ | refine reg_eq_nil rfl rfl ?_ | refine reg_eqB rfl rfl ?_ | refine reg_ne_nil rfl rfl ?_)
              | ((with_reducible refine tag_un ?_); first | refine reg_not rfl ?_ | refine reg_notB rfl ?_)
              | ((with_reducible refine tag_store ?_); first | refine reg_store 0 rfl rfl rfl rfl rfl rfl rfl ?_ | refine reg_store 1 rfl rfl rfl rfl rfl rfl rfl ?_ | refine reg_store 2 rfl rfl rfl rfl rfl rfl rfl ?_ | refine reg_store 3 rfl rfl rfl rfl rfl rfl rfl ?_ | refine reg_store 4 rfl rfl rfl rfl rfl rfl rfl ?_ | refine reg_store 5 rfl rfl rfl rfl rfl rfl rfl ?_)
              | ((with_reducible refine tag_index ?_); first | refine reg_index_slice rfl rfl (by omega) ?_ | refine reg_index_array rfl rfl (by omega) ?_)
              | ((with_reducible refine tag_box ?_); first | refine reg_box (cs := [_]) rfl (fun nb => ?_) | refine reg_box (cs := [_, _]) rfl (fun nb => ?_) | refine reg_box (cs := [_, _, _]) rfl (fun nb => ?_) | refine reg_box (cs := [_, _, _, _]) rfl (fun nb => ?_) | refine reg_box (cs := [_, _, _, _, _]) rfl (fun nb => ?_) | refine reg_box (cs := [_, _, _, _, _, _]) rfl (fun nb => ?_) | refine reg_box (cs := [_, _, _, _, _, _, _]) rfl (fun nb => ?_) | refine reg_box (cs := [_, _, _, _, _, _, _, _]) rfl (fun nb => ?_))
              | ((with_reducible refine tag_alloc ?_); refine reg_alloc (fun nb => ?_))
              | refine reg_defer rfl rfl ?_)
          | refine reg_nil ?_
          | refine run_condT rfl ?_
          | refine run_condF rfl ?_)
        exact cut_end ⟨rfl, _, ⟨rfl, rfl, rfl, rfl, rfl, rfl, rfl, trivial⟩, ⟨rfl, sm_put hsm5, by rw [if_pos hd0]⟩⟩
      · refine run_condF (bool_eq (decide_eq_false hd0)) ?_
        repeat (first | refine run_seq ?_ | refine run_block ?_ | refine run_skip ?_ | refine run_inBlock ?_ | refine run_inLoop ?_)
        exact cut_end ⟨rfl, _, ⟨rfl, rfl, rfl, rfl, rfl, rfl, rfl, trivial⟩, ⟨rfl, hsm5.mono (by decide), by rw [if_neg hd0]⟩⟩
    rintro s2 Γ' junk ⟨rfl, hsm6, hc2⟩
    rw [hc2] at hgr
    have hsm := hsm6
    repeat' (first
      | refine run_seq ?_
      | refine run_region (by kernel_rfl) ?_
      | refine run_drawA PP_mixed (by kernel_rfl) (by kernel_rfl) ?_
      | refine run_skip ?_
      | refine run_block ?_
      | refine run_inBlock ?_
      | refine run_inLoop ?_
      | refine run_exit rfl ?_
      | (refine reg_cons rfl ?_; first
          | (refine reg_add64 rfl rfl (by omega) ?_; rw [Int.add_zero])
          | ((with_reducible refine tag_move ?_); refine reg_pure rfl ?_)
          | ((with_reducible refine tag_assign ?_); refine reg_pure rfl ?_)
          | ((with_reducible refine tag_load ?_); first | refine reg_load_sh 0 rfl rfl rfl ?_ | refine reg_load_sh 1 rfl rfl rfl ?_ | refine reg_load_sh 2 rfl rfl rfl ?_ | refine reg_load_sh 3 rfl rfl rfl ?_ | refine reg_load_sh 4 rfl rfl rfl ?_ | refine reg_load_sh 5 rfl rfl rfl ?_ | refine reg_load_pt 0 rfl rfl rfl ?_ | refine reg_load_pt 1 rfl rfl rfl ?_ | refine reg_load_pt 2 rfl rfl rfl ?_ | refine reg_load_pt 3 rfl rfl rfl ?_ | refine reg_load_pt 4 rfl rfl rfl ?_ | refine reg_load_pt 5 rfl rfl rfl ?_)
          | ((with_reducible refine tag_call ?_); refine reg_callE [0] (putS w0 p _ _ _ (by first | exact hsm.mono (by decide) | (repeat (first | refine sm_get ?_ | refine sm_put ?_ | refine sm_node ?_ | refine sm_take ?_ | refine sm_many ?_ | refine sm_way ?_ | refine sm_poolTake ?_ | refine sm_give ?_ | refine sm_place ?_)); exact hsm.mono (by decide))) rfl rfl rfl sub_nil rfl ?_)
          | ((with_reducible refine tag_field ?_); refine reg_field rfl ?_)
          | ((with_reducible refine tag_extract ?_); refine reg_pure rfl ?_)
          | ((with_reducible refine tag_bin ?_); first | refine reg_add64 rfl rfl (by omega) ?_ | refine reg_sub64 rfl rfl (by omega) ?_ | refine reg_eql rfl rfl ?_ | refine reg_neq rfl rfl ?_ | refine reg_gtr rfl rfl ?_ | refine reg_rem64 rfl rfl (by omega) ?_ | refine reg_eq_nil rfl rfl ?_ | refine reg_eqB rfl rfl ?_ | refine reg_ne_nil rfl rfl ?_)
          | ((with_reducible refine tag_un ?_); first | refine reg_not rfl ?_ | refine reg_notB rfl ?_)
          | ((with_reducible refine tag_store ?_); first | refine reg_store 0 rfl rfl rfl rfl rfl rfl rfl ?_ | refine reg_store 1 rfl rfl rfl rfl rfl rfl rfl ?_ | refine reg_store 2 rfl rfl rfl rfl rfl rfl rfl ?_ | refine reg_store 3 rfl rfl rfl rfl rfl rfl rfl ?_ | refine reg_store 4 rfl rfl rfl rfl rfl rfl rfl ?_ | refine reg_store 5 rfl rfl rfl rfl rfl rfl rfl ?_)
          | ((with_reducible refine tag_index ?_); first | refine reg_index_slice rfl rfl (by omega) ?_ | refine reg_index_array rfl rfl (by omega) ?_)
          | ((with_reducible refine tag_box ?_); first | refine reg_box (cs := [_]) rfl (fun nb => ?_) | refine reg_box (cs := [_, _]) rfl (fun nb => ?_) | refine reg_box (cs := [_, _, _]) rfl (fun nb => ?_) | refine reg_box (cs := [_, _, _, _]) rfl (fun nb => ?_) | refine reg_box (cs := [_, _, _, _, _]) rfl (fun nb => ?_) | refine reg_box (cs := [_, _, _, _, _, _]) rfl (fun nb => ?_) | refine reg_box (cs := [_, _, _, _, _, _, _]) rfl (fun nb => ?_) | refine reg_box (cs := [_, _, _, _, _, _, _, _]) rfl (fun nb => ?_))
          | ((with_reducible refine tag_alloc ?_); refine reg_alloc (fun nb => ?_))
          | refine reg_defer rfl rfl ?_)
      | refine reg_nil ?_
      | refine run_condT rfl ?_
      | refine run_condF rfl ?_)
    exact cut_end ⟨rfl, (dep (n + 1), (s2.put A.root k1.1).put (A.root + 2) (dep (n + 1))), ⟨rfl, rfl, rfl, rfl, rfl, rfl, trivial⟩, ⟨rfl, hd5, hd6, sm_put (sm_put hsm6), hgOk _ hgr⟩⟩
  · rintro ⟨d1, s1⟩ Γ' junk ⟨rfl, hd1, hd2, hsm3, hpi⟩
    dsimp only at hd1 hd2 hsm3 hpi ⊢
    have hr : A.rest n v d1 s1 = A.rest n v d1 s1 := rfl
    conv at hr => rhs; simp only [Ar.rest]
    rw [← hpi] at hr
    have hN := anode_spec w0 p A hA s1 A.root (hsm3.mono (by decide))
    have hsm4 : Sm (A.node s1 A.root).2.2 18 := sm_node hsm3
    have hb := A.node_bd s1 A.root
    generalize A.node s1 A.root = c at hr hN hsm4 hb
    repeat (first | refine run_seq ?_ | refine run_block ?_ | refine run_skip ?_ | refine run_inBlock ?_)
    first | refine run_region (by kernel_rfl) ?_ | refine run_drawA PP_mixed (by kernel_rfl) (by kernel_rfl) ?_
    repeat' (refine reg_cons rfl ?_; first
          | (refine reg_add64 rfl rfl (by omega) ?_; rw [Int.add_zero])
          | ((with_reducible refine tag_move ?_); refine reg_pure rfl ?_)
          | ((with_reducible refine tag_assign ?_); refine reg_pure rfl ?_)
          | ((with_reducible refine tag_load ?_); first | refine reg_load_sh 0 rfl rfl rfl ?_ | refine reg_load_sh 1 rfl rfl rfl ?_ | refine reg_load_sh 2 rfl rfl rfl ?_ | refine reg_load_sh 3 rfl rfl rfl ?_ | refine reg_load_sh 4 rfl rfl rfl ?_ | refine reg_load_sh 5 rfl rfl rfl ?_ | refine reg_load_pt 0 rfl rfl rfl ?_ | refine reg_load_pt 1 rfl rfl rfl ?_ | refine reg_load_pt 2 rfl rfl rfl ?_ | refine reg_load_pt 3 rfl rfl rfl ?_ | refine reg_load_pt 4 rfl rfl rfl ?_ | refine reg_load_pt 5 rfl rfl rfl ?_)
          | ((with_reducible refine tag_call ?_); refine reg_callE [0] hN rfl rfl rfl sub_nil rfl ?_)
          | ((with_reducible refine tag_field ?_); refine reg_field rfl ?_)
          | ((with_reducible refine tag_extract ?_); refine reg_pure rfl ?_)
          | ((with_reducible refine tag_bin ?_); first | refine reg_add64 rfl rfl (by omega) ?_ | refine reg_sub64 rfl rfl (by omega) ?_ | refine reg_eql rfl rfl ?_ | refine reg_neq rfl rfl ?_ | refine reg_gtr rfl rfl ?_ | refine reg_rem64 rfl rfl (by omega) ?_ | refine reg_eq_nil rfl rfl ?_ | refine reg_eqB rfl rfl ?_ | refine reg_ne_nil rfl rfl ?_)
          | ((with_reducible refine tag_un ?_); first | refine reg_not rfl ?_ | refine reg_notB rfl ?_)
          | ((with_reducible refine tag_store ?_); first | refine reg_store 0 rfl rfl rfl rfl rfl rfl rfl ?_ | refine reg_store 1 rfl rfl rfl rfl rfl rfl rfl ?_ | refine reg_store 2 rfl rfl rfl rfl rfl rfl rfl ?_ | refine reg_store 3 rfl rfl rfl rfl rfl rfl rfl ?_ | refine reg_store 4 rfl rfl rfl rfl rfl rfl rfl ?_ | refine reg_store 5 rfl rfl rfl rfl rfl rfl rfl ?_)
          | ((with_reducible refine tag_index ?_); first | refine reg_index_slice rfl rfl (by omega) ?_ | refine reg_index_array rfl rfl (by omega) ?_)
          | ((with_reducible refine tag_box ?_); first | refine reg_box (cs := [_]) rfl (fun nb => ?_) | refine reg_box (cs := [_, _]) rfl (fun nb => ?_) | refine reg_box (cs := [_, _, _]) rfl (fun nb => ?_) | refine reg_box (cs := [_, _, _, _]) rfl (fun nb => ?_) | refine reg_box (cs := [_, _, _, _, _]) rfl (fun nb => ?_) | refine reg_box (cs := [_, _, _, _, _, _]) rfl (fun nb => ?_) | refine reg_box (cs := [_, _, _, _, _, _, _]) rfl (fun nb => ?_) | refine reg_box (cs := [_, _, _, _, _, _, _, _]) rfl (fun nb => ?_))
          | ((with_reducible refine tag_alloc ?_); refine reg_alloc (fun nb => ?_))
          | refine reg_defer rfl rfl ?_)
    all_goals refine reg_nil ?_
    all_goals repeat (first | refine run_seq ?_ | refine run_block ?_ | refine run_skip ?_ | refine run_inBlock ?_)
    repeat (first | refine run_seq ?_ | refine run_block ?_ | refine run_skip ?_ | refine run_inBlock ?_)
    first | refine run_region (by kernel_rfl) ?_ | refine run_drawA PP_mixed (by kernel_rfl) (by kernel_rfl) ?_
    repeat' (refine reg_cons rfl ?_; first
          | ((with_reducible refine tag_move ?_); refine reg_pure rfl ?_)
          | ((with_reducible refine tag_assign ?_); refine reg_pure rfl ?_)
          | ((with_reducible refine tag_load ?_); first | refine reg_load_sh 0 rfl rfl rfl ?_ | refine reg_load_sh 1 rfl rfl rfl ?_ | refine reg_load_sh 2 rfl rfl rfl ?_ | refine reg_load_sh 3 rfl rfl rfl ?_ | refine reg_load_sh 4 rfl rfl rfl ?_ | refine reg_load_sh 5 rfl rfl rfl ?_ | refine reg_load_pt 0 rfl rfl rfl ?_ | refine reg_load_pt 1 rfl rfl rfl ?_ | refine reg_load_pt 2 rfl rfl rfl ?_ | refine reg_load_pt 3 rfl rfl rfl ?_ | refine reg_load_pt 4 rfl rfl rfl ?_ | refine reg_load_pt 5 rfl rfl rfl ?_)
          | ((with_reducible refine tag_field ?_); refine reg_field rfl ?_)
          | ((with_reducible refine tag_extract ?_); refine reg_pure rfl ?_)
          | ((with_reducible refine tag_bin ?_); first | refine reg_add64 rfl rfl (by omega) ?_ | refine reg_sub64 rfl rfl (by omega) ?_ | refine reg_eql rfl rfl ?_ | refine reg_neq rfl rfl ?_ | refine reg_gtr rfl rfl ?_ | refine reg_rem64 rfl rfl (by omega) ?_ | refine reg_eq_nil rfl rfl ?_ | refine reg_eqB rfl rfl ?_ | refine reg_ne_nil rfl rfl ?_)
          | ((with_reducible refine tag_un ?_); first | refine reg_not rfl ?_ | refine reg_notB rfl ?_)
          | ((with_reducible refine tag_store ?_); first | refine reg_store 0 rfl rfl rfl rfl rfl rfl rfl ?_ | refine reg_store 1 rfl rfl rfl rfl rfl rfl rfl ?_ | refine reg_store 2 rfl rfl rfl rfl rfl rfl rfl ?_ | refine reg_store 3 rfl rfl rfl rfl rfl rfl rfl ?_ | refine reg_store 4 rfl rfl rfl rfl rfl rfl rfl ?_ | refine reg_store 5 rfl rfl rfl rfl rfl rfl rfl ?_)
          | ((with_reducible refine tag_index ?_); first | refine reg_index_slice rfl rfl (by omega) ?_ | refine reg_index_array rfl rfl (by omega) ?_)
          | ((with_reducible refine tag_box ?_); first | refine reg_box (cs := [_]) rfl (fun nb => ?_) | refine reg_box (cs := [_, _]) rfl (fun nb => ?_) | refine reg_box (cs := [_, _, _]) rfl (fun nb => ?_) | refine reg_box (cs := [_, _, _, _]) rfl (fun nb => ?_) | refine reg_box (cs := [_, _, _, _, _]) rfl (fun nb => ?_) | refine reg_box (cs := [_, _, _, _, _, _]) rfl (fun nb => ?_) | refine reg_box (cs := [_, _, _, _, _, _, _]) rfl (fun nb => ?_) | refine reg_box (cs := [_, _, _, _, _, _, _, _]) rfl (fun nb => ?_))
          | ((with_reducible refine tag_alloc ?_); refine reg_alloc (fun nb => ?_))
          | refine reg_defer rfl rfl ?_)
    all_goals refine reg_nil ?_
    all_goals repeat (first | refine run_seq ?_ | refine run_block ?_ | refine run_skip ?_ | refine run_inBlock ?_)
    refine run_condV rfl (fun hE => ?_) (fun hE => ?_)
    · have hE : c.2.1 = false := by simpa using hE
      rw [hE, if_neg (by decide)] at hr
      repeat' (first
        | refine run_seq ?_
        | refine run_region (by kernel_rfl) ?_
        | refine run_drawA PP_mixed (by kernel_rfl) (by kernel_rfl) ?_
        | refine run_skip ?_
        | refine run_block ?_
        | refine run_inBlock ?_
        | refine run_inLoop ?_
        | refine run_exit rfl ?_
        | (refine reg_cons rfl ?_; first
            | ((with_reducible refine tag_move ?_); refine reg_pure rfl ?_)
            | ((with_reducible refine tag_assign ?_); refine reg_pure rfl ?_)
            | ((with_reducible refine tag_load ?_); first | refine reg_load_sh 0 rfl rfl rfl ?_ | refine reg_load_sh 1 rfl rfl rfl ?_ | refine reg_load_sh 2 rfl rfl rfl ?_ | refine reg_load_sh 3 rfl rfl rfl ?_ | refine reg_load_sh 4 rfl rfl rfl ?_ | refine reg_load_sh 5 rfl rfl rfl ?_ | refine reg_load_pt 0 rfl rfl rfl ?_ | refine reg_load_pt 1 rfl rfl rfl ?_ | refine reg_load_pt 2 rfl rfl rfl ?_ | refine reg_load_pt 3 rfl rfl rfl ?_ | refine reg_load_pt 4 rfl rfl rfl ?_ | refine reg_load_pt 5 rfl rfl rfl ?_)
            | ((with_reducible refine tag_field ?_); refine reg_field rfl ?_)
            | ((with_reducible refine tag_extract ?_); refine reg_pure rfl ?_)
            | ((with_reducible refine tag_bin ?_); first | refine reg_add64 rfl rfl (by omega) ?_ | refine reg_sub64 rfl rfl (by omega) ?_ | refine reg_eql rfl rfl ?_ | refine reg_neq rfl rfl ?_ | refine reg_gtr rfl rfl ?_ | refine reg_rem64 rfl rfl (by omega) ?_ | refine reg_eq_nil rfl rfl ?_ | refine reg_eqB rfl rfl ?_ | refine reg_ne_nil rfl rfl ?_)
            | ((with_reducible refine tag_un ?_); first | refine reg_not rfl ?_ | refine reg_notB rfl ?_)
            | ((with_reducible refine tag_store ?_); first | refine reg_store 0 rfl rfl rfl rfl rfl rfl rfl ?_ | refine reg_store 1 rfl rfl rfl rfl rfl rfl rfl ?_ | refine reg_store 2 rfl rfl rfl rfl rfl rfl rfl ?_ | refine reg_store 3 rfl rfl rfl rfl rfl rfl rfl ?_ | refine reg_store 4 rfl rfl rfl rfl rfl rfl rfl ?_ | refine reg_store 5 rfl rfl rfl rfl rfl rfl rfl ?_)
            | ((with_reducible refine tag_index ?_); first | refine reg_index_slice rfl rfl (by omega) ?_ | refine reg_index_array rfl rfl (by omega) ?_)
            | ((with_reducible refine tag_box ?_); first | refine reg_box (cs := [_]) rfl (fun nb => ?_) | refine reg_box (cs := [_, _]) rfl (fun nb => ?_) | refine reg_box (cs := [_, _, _]) rfl (fun nb => ?_) | refine reg_box (cs := [_, _, _, _]) rfl (fun nb => ?_) | refine reg_box (cs := [_, _, _, _, _]) rfl (fun nb => ?_) | refine reg_box (cs := [_, _, _, _, _, _]) rfl (fun nb => ?_) | refine reg_box (cs := [_, _, _, _, _, _, _]) rfl (fun nb => ?_) | refine reg_box (cs := [_, _, _, _, _, _, _, _]) rfl (fun nb => ?_))
            | ((with_reducible refine tag_alloc ?_); refine reg_alloc (fun nb => ?_))
            | refine reg_defer rfl rfl ?_)
        | refine reg_nil ?_
        | refine run_condT rfl ?_
        | refine run_condF rfl ?_)
      exact qret rfl (fun _ _ h => h) (fin _ _ _ _ rfl rfl hr)
    have hE : c.2.1 = true := by simpa using hE
    rw [if_pos hE] at hr
    repeat (first | refine run_seq ?_ | refine run_block ?_ | refine run_skip ?_ | refine run_inBlock ?_ | refine run_inLoop ?_)
    refine run_loop (S := Nat × Int × Sp) (fun st => [(1, spP p), (2, .int .i64 v), (3, ptr bx), (7, ptr nb), (8, .int .i64 n), (9, .int .i64 ((st.1 + 1 : Nat) : Int)), (17, .int .i64 st.2.1)])
      (fun st Γ => Γ = [SpaceA p st.2.2, eV nb 0] ∧ st.1 ≤ 3 ∧ (0 ≤ st.2.1 ∧ st.2.1 ≤ 4096) ∧ Sm st.2.2 (2 + 4 * st.1) ∧ A.down n d1 c.1 c.2.2 = A.down n (st.1 + 1) st.2.1 st.2.2)
      (fun st => st.1) (d1 - 1, c.1, c.2.2) ⟨rfl, rfl, rfl, rfl, rfl, int_eq (by dsimp only; omega), rfl, trivial⟩
      ⟨rfl, by dsimp only; omega, hb, hsm4.mono (by dsimp only; omega), by dsimp only; rw [Nat.sub_add_cancel hd2]⟩ ?_
    rintro ⟨d2, at_, s2⟩ Γ' junk ⟨rfl, hdb, hab, hsm5, hdn⟩
    dsimp only at hdb hab hsm5 hdn ⊢
    rw [hdn] at hr
    cases d2 with
    | zero =>
      have hdn0 : A.down n (0 + 1) at_ s2 = (0, at_, s2) := rfl
      rw [hdn0] at hr
      dsimp only at hr
      rw [if_pos rfl] at hr
      have hsm := hsm5
      repeat' (first
        | refine run_seq ?_
        | refine run_region (by kernel_rfl) ?_
        | refine run_drawA PP_mixed (by kernel_rfl) (by kernel_rfl) ?_
        | refine run_skip ?_
        | refine run_block ?_
        | refine run_inBlock ?_
        | refine run_inLoop ?_
        | refine run_exit rfl ?_
        | (refine reg_cons rfl ?_; first
            | ((with_reducible refine tag_move ?_); refine reg_pure rfl ?_)
            | ((with_reducible refine tag_assign ?_); refine reg_pure rfl ?_)
            | ((with_reducible refine tag_load ?_); first | refine reg_load_sh 0 rfl rfl rfl ?_ | refine reg_load_sh 1 rfl rfl rfl ?_ | refine reg_load_sh 2 rfl rfl rfl ?_ | refine reg_load_sh 3 rfl rfl rfl ?_ | refine reg_load_sh 4 rfl rfl rfl ?_ | refine reg_load_sh 5 rfl rfl rfl ?_ | refine reg_load_pt 0 rfl rfl rfl ?_ | refine reg_load_pt 1 rfl rfl rfl ?_ | refine reg_load_pt 2 rfl rfl rfl ?_ | refine reg_load_pt 3 rfl rfl rfl ?_ | refine reg_load_pt 4 rfl rfl rfl ?_ | refine reg_load_pt 5 rfl rfl rfl ?_)
            | ((with_reducible refine tag_field ?_); refine reg_field rfl ?_)
            | ((with_reducible refine tag_extract ?_); refine reg_pure rfl ?_)
            | ((with_reducible refine tag_bin ?_); first | refine reg_add64 rfl rfl (by omega) ?_ | refine reg_sub64 rfl rfl (by omega) ?_ | refine reg_eql rfl rfl ?_ | refine reg_neq rfl rfl ?_ | refine reg_gtr rfl rfl ?_ | refine reg_rem64 rfl rfl (by omega) ?_ | refine reg_eq_nil rfl rfl ?_ | refine reg_eqB rfl rfl ?_ | refine reg_ne_nil rfl rfl ?_)
            | ((with_reducible refine tag_un ?_); first | refine reg_not rfl ?_ | refine reg_notB rfl ?_)
            | ((with_reducible refine tag_store ?_); first | refine reg_store 0 rfl rfl rfl rfl rfl rfl rfl ?_ | refine reg_store 1 rfl rfl rfl rfl rfl rfl rfl ?_ | refine reg_store 2 rfl rfl rfl rfl rfl rfl rfl ?_ | refine reg_store 3 rfl rfl rfl rfl rfl rfl rfl ?_ | refine reg_store 4 rfl rfl rfl rfl rfl rfl rfl ?_ | refine reg_store 5 rfl rfl rfl rfl rfl rfl rfl ?_)
            | ((with_reducible refine tag_index ?_); first | refine reg_index_slice rfl rfl (by omega) ?_ | refine reg_index_array rfl rfl (by omega) ?_)
            | ((with_reducible refine tag_box ?_); first | refine reg_box (cs := [_]) rfl (fun nb => ?_) | refine reg_box (cs := [_, _]) rfl (fun nb => ?_) | refine reg_box (cs := [_, _, _]) rfl (fun nb => ?_) | refine reg_box (cs := [_, _, _, _]) rfl (fun nb => ?_) | refine reg_box (cs := [_, _, _, _, _]) rfl (fun nb => ?_) | refine reg_box (cs := [_, _, _, _, _, _]) rfl (fun nb => ?_) | refine reg_box (cs := [_, _, _, _, _, _, _]) rfl (fun nb => ?_) | refine reg_box (cs := [_, _, _, _, _, _, _, _]) rfl (fun nb => ?_))
            | ((with_reducible refine tag_alloc ?_); refine reg_alloc (fun nb => ?_))
            | refine reg_defer rfl rfl ?_)
        | refine reg_nil ?_
        | refine run_condT rfl ?_
        | refine run_condF rfl ?_)
      refine cut_exit rfl rfl ?_
      have hdg := dig_bd n 1
      repeat' (first
        | refine run_seq ?_
        | refine run_region (by kernel_rfl) ?_
        | refine run_drawA PP_mixed (by kernel_rfl) (by kernel_rfl) ?_
        | refine run_skip ?_
        | refine run_block ?_
        | refine run_inBlock ?_
        | refine run_inLoop ?_
        | refine run_exit rfl ?_
        | (refine reg_cons rfl ?_; first
            | ((with_reducible refine tag_move ?_); refine reg_pure rfl ?_)
            | ((with_reducible refine tag_assign ?_); refine reg_pure rfl ?_)
            | ((with_reducible refine tag_load ?_); first | refine reg_load_sh 0 rfl rfl rfl ?_ | refine reg_load_sh 1 rfl rfl rfl ?_ | refine reg_load_sh 2 rfl rfl rfl ?_ | refine reg_load_sh 3 rfl rfl rfl ?_ | refine reg_load_sh 4 rfl rfl rfl ?_ | refine reg_load_sh 5 rfl rfl rfl ?_ | refine reg_load_pt 0 rfl rfl rfl ?_ | refine reg_load_pt 1 rfl rfl rfl ?_ | refine reg_load_pt 2 rfl rfl rfl ?_ | refine reg_load_pt 3 rfl rfl rfl ?_ | refine reg_load_pt 4 rfl rfl rfl ?_ | refine reg_load_pt 5 rfl rfl rfl ?_)
            | ((with_reducible refine tag_call ?_); first | refine reg_callE [0] (putS w0 p _ _ _ (by first | exact hsm.mono (by decide) | (repeat (first | refine sm_get ?_ | refine sm_put ?_ | refine sm_node ?_ | refine sm_take ?_ | refine sm_many ?_ | refine sm_way ?_ | refine sm_poolTake ?_ | refine sm_give ?_ | refine sm_place ?_)); exact hsm.mono (by decide))) rfl rfl rfl sub_nil rfl ?_ | refine reg_callE [] (digit_spec w0 hw n 1 (by omega) (by omega) _ rfl) rfl rfl rfl sub_nil rfl ?_)
            | ((with_reducible refine tag_field ?_); refine reg_field rfl ?_)
            | ((with_reducible refine tag_extract ?_); refine reg_pure rfl ?_)
            | ((with_reducible refine tag_bin ?_); first | refine reg_add64 rfl rfl (by omega) ?_ | refine reg_sub64 rfl rfl (by omega) ?_ | refine reg_eql rfl rfl ?_ | refine reg_neq rfl rfl ?_ | refine reg_gtr rfl rfl ?_ | refine reg_rem64 rfl rfl (by omega) ?_ | refine reg_eq_nil rfl rfl ?_ | refine reg_eqB rfl rfl ?_ | refine reg_ne_nil rfl rfl ?_)
            | ((with_reducible refine tag_un ?_); first | refine reg_not rfl ?_ | refine reg_notB rfl ?_)
            | ((with_reducible refine tag_store ?_); first | refine reg_store 0 rfl rfl rfl rfl rfl rfl rfl ?_ | refine reg_store 1 rfl rfl rfl rfl rfl rfl rfl ?_ | refine reg_store 2 rfl rfl rfl rfl rfl rfl rfl ?_ | refine reg_store 3 rfl rfl rfl rfl rfl rfl rfl ?_ | refine reg_store 4 rfl rfl rfl rfl rfl rfl rfl ?_ | refine reg_store 5 rfl rfl rfl rfl rfl rfl rfl ?_)
            | ((with_reducible refine tag_index ?_); first | refine reg_index_slice rfl rfl (by omega) ?_ | refine reg_index_array rfl rfl (by omega) ?_)
            | ((with_reducible refine tag_box ?_); first | refine reg_box (cs := [_]) rfl (fun nb => ?_) | refine reg_box (cs := [_, _]) rfl (fun nb => ?_) | refine reg_box (cs := [_, _, _]) rfl (fun nb => ?_) | refine reg_box (cs := [_, _, _, _]) rfl (fun nb => ?_) | refine reg_box (cs := [_, _, _, _, _]) rfl (fun nb => ?_) | refine reg_box (cs := [_, _, _, _, _, _]) rfl (fun nb => ?_) | refine reg_box (cs := [_, _, _, _, _, _, _]) rfl (fun nb => ?_) | refine reg_box (cs := [_, _, _, _, _, _, _, _]) rfl (fun nb => ?_))
            | ((with_reducible refine tag_alloc ?_); refine reg_alloc (fun nb => ?_))
            | refine reg_defer rfl rfl ?_)
        | refine reg_nil ?_
        | refine run_condT rfl ?_
        | refine run_condF rfl ?_)
      exact qret rfl (fun _ _ h => h) (fin _ _ _ _ rfl rfl hr)
    | succ d2 =>
      have hdg := dig_bd n (d2 + 1 + 1)
      have hp := pw_pos (d2 + 1)
      have hdn1 : A.down n (d2 + 1 + 1) at_ s2 = A.down n (d2 + 1 + 1) at_ s2 := rfl
      conv at hdn1 => rhs; unfold Ar.down
      rw [if_neg (by omega)] at hdn1
      rw [hdn1] at hr
      have hsm6 : Sm s2 (2 + 4 * d2 + 4) := hsm5.mono (by omega)
      repeat (first | refine run_seq ?_ | refine run_block ?_ | refine run_skip ?_ | refine run_inBlock ?_)
      first | refine run_region (by kernel_rfl) ?_ | refine run_drawA PP_mixed (by kernel_rfl) (by kernel_rfl) ?_
      repeat' (refine reg_cons rfl ?_; first
            | ((with_reducible refine tag_move ?_); refine reg_pure rfl ?_)
            | ((with_reducible refine tag_assign ?_); refine reg_pure rfl ?_)
            | ((with_reducible refine tag_load ?_); first | refine reg_load_sh 0 rfl rfl rfl ?_ | refine reg_load_sh 1 rfl rfl rfl ?_ | refine reg_load_sh 2 rfl rfl rfl ?_ | refine reg_load_sh 3 rfl rfl rfl ?_ | refine reg_load_sh 4 rfl rfl rfl ?_ | refine reg_load_sh 5 rfl rfl rfl ?_ | refine reg_load_pt 0 rfl rfl rfl ?_ | refine reg_load_pt 1 rfl rfl rfl ?_ | refine reg_load_pt 2 rfl rfl rfl ?_ | refine reg_load_pt 3 rfl rfl rfl ?_ | refine reg_load_pt 4 rfl rfl rfl ?_ | refine reg_load_pt 5 rfl rfl rfl ?_)
            | ((with_reducible refine tag_field ?_); refine reg_field rfl ?_)
            | ((with_reducible refine tag_extract ?_); refine reg_pure rfl ?_)
            | ((with_reducible refine tag_bin ?_); first | refine reg_add64 rfl rfl (by omega) ?_ | refine reg_sub64 rfl rfl (by omega) ?_ | refine reg_eql rfl rfl ?_ | refine reg_neq rfl rfl ?_ | refine reg_gtr rfl rfl ?_ | refine reg_rem64 rfl rfl (by omega) ?_ | refine reg_eq_nil rfl rfl ?_ | refine reg_eqB rfl rfl ?_ | refine reg_ne_nil rfl rfl ?_)
            | ((with_reducible refine tag_un ?_); first | refine reg_not rfl ?_ | refine reg_notB rfl ?_)
            | ((with_reducible refine tag_store ?_); first | refine reg_store 0 rfl rfl rfl rfl rfl rfl rfl ?_ | refine reg_store 1 rfl rfl rfl rfl rfl rfl rfl ?_ | refine reg_store 2 rfl rfl rfl rfl rfl rfl rfl ?_ | refine reg_store 3 rfl rfl rfl rfl rfl rfl rfl ?_ | refine reg_store 4 rfl rfl rfl rfl rfl rfl rfl ?_ | refine reg_store 5 rfl rfl rfl rfl rfl rfl rfl ?_)
            | ((with_reducible refine tag_index ?_); first | refine reg_index_slice rfl rfl (by omega) ?_ | refine reg_index_array rfl rfl (by omega) ?_)
            | ((with_reducible refine tag_box ?_); first | refine reg_box (cs := [_]) rfl (fun nb => ?_) | refine reg_box (cs := [_, _]) rfl (fun nb => ?_) | refine reg_box (cs := [_, _, _]) rfl (fun nb => ?_) | refine reg_box (cs := [_, _, _, _]) rfl (fun nb => ?_) | refine reg_box (cs := [_, _, _, _, _]) rfl (fun nb => ?_) | refine reg_box (cs := [_, _, _, _, _, _]) rfl (fun nb => ?_) | refine reg_box (cs := [_, _, _, _, _, _, _]) rfl (fun nb => ?_) | refine reg_box (cs := [_, _, _, _, _, _, _, _]) rfl (fun nb => ?_))
            | ((with_reducible refine tag_alloc ?_); refine reg_alloc (fun nb => ?_))
            | refine reg_defer rfl rfl ?_)
      all_goals refine reg_nil ?_
      all_goals repeat (first | refine run_seq ?_ | refine run_block ?_ | refine run_skip ?_ | refine run_inBlock ?_)
      refine run_condT (bool_eq (decide_eq_true (by omega))) ?_
      repeat (first | refine run_seq ?_ | refine run_block ?_ | refine run_skip ?_ | refine run_inBlock ?_)
      first | refine run_region (by kernel_rfl) ?_ | refine run_drawA PP_mixed (by kernel_rfl) (by kernel_rfl) ?_
      repeat' (refine reg_cons rfl ?_; first
            | ((with_reducible refine tag_move ?_); refine reg_pure rfl ?_)
            | ((with_reducible refine tag_assign ?_); refine reg_pure rfl ?_)
            | ((with_reducible refine tag_load ?_); first | refine reg_load_sh 0 rfl rfl rfl ?_ | refine reg_load_sh 1 rfl rfl rfl ?_ | refine reg_load_sh 2 rfl rfl rfl ?_ | refine reg_load_sh 3 rfl rfl rfl ?_ | refine reg_load_sh 4 rfl rfl rfl ?_ | refine reg_load_sh 5 rfl rfl rfl ?_ | refine reg_load_pt 0 rfl rfl rfl ?_ | refine reg_load_pt 1 rfl rfl rfl ?_ | refine reg_load_pt 2 rfl rfl rfl ?_ | refine reg_load_pt 3 rfl rfl rfl ?_ | refine reg_load_pt 4 rfl rfl rfl ?_ | refine reg_load_pt 5 rfl rfl rfl ?_)
            | ((with_reducible refine tag_call ?_); refine reg_callE [] (digit_spec w0 hw n (d2 + 1 + 1) (by omega) (by omega) _ rfl) rfl rfl rfl sub_nil rfl ?_)
            | ((with_reducible refine tag_field ?_); refine reg_field rfl ?_)
            | ((with_reducible refine tag_extract ?_); refine reg_pure rfl ?_)
            | ((with_reducible refine tag_bin ?_); first | refine reg_add64 rfl rfl (by omega) ?_ | refine reg_sub64 rfl rfl (by omega) ?_ | refine reg_eql rfl rfl ?_ | refine reg_neq rfl rfl ?_ | refine reg_gtr rfl rfl ?_ | refine reg_rem64 rfl rfl (by omega) ?_ | refine reg_eq_nil rfl rfl ?_ | refine reg_eqB rfl rfl ?_ | refine reg_ne_nil rfl rfl ?_)
            | ((with_reducible refine tag_un ?_); first | refine reg_not rfl ?_ | refine reg_notB rfl ?_)
            | ((with_reducible refine tag_store ?_); first | refine reg_store 0 rfl rfl rfl rfl rfl rfl rfl ?_ | refine reg_store 1 rfl rfl rfl rfl rfl rfl rfl ?_ | refine reg_store 2 rfl rfl rfl rfl rfl rfl rfl ?_ | refine reg_store 3 rfl rfl rfl rfl rfl rfl rfl ?_ | refine reg_store 4 rfl rfl rfl rfl rfl rfl rfl ?_ | refine reg_store 5 rfl rfl rfl rfl rfl rfl rfl ?_)
            | ((with_reducible refine tag_index ?_); first | refine reg_index_slice rfl rfl (by omega) ?_ | refine reg_index_array rfl rfl (by omega) ?_)
            | ((with_reducible refine tag_box ?_); first | refine reg_box (cs := [_]) rfl (fun nb => ?_) | refine reg_box (cs := [_, _]) rfl (fun nb => ?_) | refine reg_box (cs := [_, _, _]) rfl (fun nb => ?_) | refine reg_box (cs := [_, _, _, _]) rfl (fun nb => ?_) | refine reg_box (cs := [_, _, _, _, _]) rfl (fun nb => ?_) | refine reg_box (cs := [_, _, _, _, _, _]) rfl (fun nb => ?_) | refine reg_box (cs := [_, _, _, _, _, _, _]) rfl (fun nb => ?_) | refine reg_box (cs := [_, _, _, _, _, _, _, _]) rfl (fun nb => ?_))
            | ((with_reducible refine tag_alloc ?_); refine reg_alloc (fun nb => ?_))
            | refine reg_defer rfl rfl ?_)
      all_goals refine reg_nil ?_
      all_goals repeat (first | refine run_seq ?_ | refine run_block ?_ | refine run_skip ?_ | refine run_inBlock ?_)
      repeat (first | refine run_seq ?_ | refine run_block ?_ | refine run_skip ?_ | refine run_inBlock ?_)
      first | refine run_region (by kernel_rfl) ?_ | refine run_drawA PP_mixed (by kernel_rfl) (by kernel_rfl) ?_
      repeat' (refine reg_cons rfl ?_; first
            | refine reg_load_base rfl hw2 (powL_rd (d2 + 1) (by omega) _ (by omega)) ?_
            | ((with_reducible refine tag_move ?_); refine reg_pure rfl ?_)
            | ((with_reducible refine tag_assign ?_); refine reg_pure rfl ?_)
            | ((with_reducible refine tag_load ?_); first | refine reg_load_sh 0 rfl rfl rfl ?_ | refine reg_load_sh 1 rfl rfl rfl ?_ | refine reg_load_sh 2 rfl rfl rfl ?_ | refine reg_load_sh 3 rfl rfl rfl ?_ | refine reg_load_sh 4 rfl rfl rfl ?_ | refine reg_load_sh 5 rfl rfl rfl ?_ | refine reg_load_pt 0 rfl rfl rfl ?_ | refine reg_load_pt 1 rfl rfl rfl ?_ | refine reg_load_pt 2 rfl rfl rfl ?_ | refine reg_load_pt 3 rfl rfl rfl ?_ | refine reg_load_pt 4 rfl rfl rfl ?_ | refine reg_load_pt 5 rfl rfl rfl ?_)
            | ((with_reducible refine tag_field ?_); refine reg_field rfl ?_)
            | ((with_reducible refine tag_extract ?_); refine reg_pure rfl ?_)
            | ((with_reducible refine tag_bin ?_); first | refine reg_add64 rfl rfl (by omega) ?_ | refine reg_sub64 rfl rfl (by omega) ?_ | refine reg_eql rfl rfl ?_ | refine reg_neq rfl rfl ?_ | refine reg_gtr rfl rfl ?_ | refine reg_rem64 rfl rfl (by omega) ?_ | refine reg_eq_nil rfl rfl ?_ | refine reg_eqB rfl rfl ?_ | refine reg_ne_nil rfl rfl ?_)
            | ((with_reducible refine tag_un ?_); first | refine reg_not rfl ?_ | refine reg_notB rfl ?_)
            | ((with_reducible refine tag_store ?_); first | refine reg_store 0 rfl rfl rfl rfl rfl rfl rfl ?_ | refine reg_store 1 rfl rfl rfl rfl rfl rfl rfl ?_ | refine reg_store 2 rfl rfl rfl rfl rfl rfl rfl ?_ | refine reg_store 3 rfl rfl rfl rfl rfl rfl rfl ?_ | refine reg_store 4 rfl rfl rfl rfl rfl rfl rfl ?_ | refine reg_store 5 rfl rfl rfl rfl rfl rfl rfl ?_)
            | ((with_reducible refine tag_index ?_); first | refine reg_index_slice rfl rfl (by omega) ?_ | refine reg_index_array rfl rfl (by omega) ?_)
            | ((with_reducible refine tag_box ?_); first | refine reg_box (cs := [_]) rfl (fun nb => ?_) | refine reg_box (cs := [_, _]) rfl (fun nb => ?_) | refine reg_box (cs := [_, _, _]) rfl (fun nb => ?_) | refine reg_box (cs := [_, _, _, _]) rfl (fun nb => ?_) | refine reg_box (cs := [_, _, _, _, _]) rfl (fun nb => ?_) | refine reg_box (cs := [_, _, _, _, _, _]) rfl (fun nb => ?_) | refine reg_box (cs := [_, _, _, _, _, _, _]) rfl (fun nb => ?_) | refine reg_box (cs := [_, _, _, _, _, _, _, _]) rfl (fun nb => ?_))
            | ((with_reducible refine tag_alloc ?_); refine reg_alloc (fun nb => ?_))
            | refine reg_defer rfl rfl ?_)
      all_goals refine reg_nil ?_
      all_goals repeat (first | refine run_seq ?_ | refine run_block ?_ | refine run_skip ?_ | refine run_inBlock ?_)
      refine run_slots [(1, spP p), (2, .int .i64 v), (3, ptr bx), (7, ptr nb), (8, .int .i64 n), (9, .int .i64 ((d2 + 1 + 1 : Nat) : Int)), (18, .int .i64 (at_ + dig n (d2 + 1 + 1))), (117, .bool (decide (n % pw (d2 + 1) = 0)))] ⟨rfl, rfl, rfl, rfl, rfl, rfl, rfl, rfl, trivial⟩ (fun junk => ?_)
      generalize hce : at_ + dig n (d2 + 1 + 1) = cell at hr
      have hcb : 0 ≤ cell ∧ cell ≤ 5000 := by omega
      refine run_join (S := Sp) (fun _ => [(1, spP p), (2, .int .i64 v), (3, ptr bx), (7, ptr nb), (8, .int .i64 n), (9, .int .i64 ((d2 + 1 + 1 : Nat) : Int)), (18, .int .i64 cell)])
        (fun st Γ => Γ = [SpaceA p st, eV nb 0] ∧ Sm st (2 + 4 * d2) ∧ A.add n (d2 + 1 + 1) cell s2 = (0, st)) ?_ ?_
      · by_cases hz : n % pw (d2 + 1) = 0
        · refine run_condT (bool_eq (decide_eq_true hz)) ?_
          have ha : A.add n (d2 + 1 + 1) cell s2 = A.add n (d2 + 1 + 1) cell s2 := rfl
          conv at ha => rhs; unfold Ar.add
          rw [Nat.add_sub_cancel, if_pos hz] at ha
          have hT := atake_spec w0 p A hA s2 (hsm6.mono (by omega))
          have hsm7 : Sm (A.take s2).2.2 (2 + 4 * d2 + 1) := sm_take hsm6
          dsimp only at ha
          generalize A.take s2 = k1 at ha hT hsm7
          repeat (first | refine run_seq ?_ | refine run_block ?_ | refine run_skip ?_ | refine run_inBlock ?_)
          first | refine run_region (by kernel_rfl) ?_ | refine run_drawA PP_mixed (by kernel_rfl) (by kernel_rfl) ?_
          repeat' (refine reg_cons rfl ?_; first
                | ((with_reducible refine tag_move ?_); refine reg_pure rfl ?_)
                | ((with_reducible refine tag_assign ?_); refine reg_pure rfl ?_)
                | ((with_reducible refine tag_load ?_); first | refine reg_load_sh 0 rfl rfl rfl ?_ | refine reg_load_sh 1 rfl rfl rfl ?_ | refine reg_load_sh 2 rfl rfl rfl ?_ | refine reg_load_sh 3 rfl rfl rfl ?_ | refine reg_load_sh 4 rfl rfl rfl ?_ | refine reg_load_sh 5 rfl rfl rfl ?_ | refine reg_load_pt 0 rfl rfl rfl ?_ | refine reg_load_pt 1 rfl rfl rfl ?_ | refine reg_load_pt 2 rfl rfl rfl ?_ | refine reg_load_pt 3 rfl rfl rfl ?_ | refine reg_load_pt 4 rfl rfl rfl ?_ | refine reg_load_pt 5 rfl rfl rfl ?_)
                | ((with_reducible refine tag_call ?_); refine reg_callE [0] hT rfl rfl rfl sub_nil rfl ?_)
                | ((with_reducible refine tag_field ?_); refine reg_field rfl ?_)
                | ((with_reducible refine tag_extract ?_); refine reg_pure rfl ?_)
                | ((with_reducible refine tag_bin ?_); first | refine reg_add64 rfl rfl (by omega) ?_ | refine reg_sub64 rfl rfl (by omega) ?_ | refine reg_eql rfl rfl ?_ | refine reg_neq rfl rfl ?_ | refine reg_gtr rfl rfl ?_ | refine reg_rem64 rfl rfl (by omega) ?_ | refine reg_eq_nil rfl rfl ?_ | refine reg_eqB rfl rfl ?_ | refine reg_ne_nil rfl rfl ?_)
                | ((with_reducible refine tag_un ?_); first | refine reg_not rfl ?_ | refine reg_notB rfl ?_)
                | ((with_reducible refine tag_store ?_); first | refine reg_store 0 rfl rfl rfl rfl rfl rfl rfl ?_ | refine reg_store 1 rfl rfl rfl rfl rfl rfl rfl ?_ | refine reg_store 2 rfl rfl rfl rfl rfl rfl rfl ?_ | refine reg_store 3 rfl rfl rfl rfl rfl rfl rfl ?_ | refine reg_store 4 rfl rfl rfl rfl rfl rfl rfl ?_ | refine reg_store 5 rfl rfl rfl rfl rfl rfl rfl ?_)
                | ((with_reducible refine tag_index ?_); first | refine reg_index_slice rfl rfl (by omega) ?_ | refine reg_index_array rfl rfl (by omega) ?_)
                | ((with_reducible refine tag_box ?_); first | refine reg_box (cs := [_]) rfl (fun nb => ?_) | refine reg_box (cs := [_, _]) rfl (fun nb => ?_) | refine reg_box (cs := [_, _, _]) rfl (fun nb => ?_) | refine reg_box (cs := [_, _, _, _]) rfl (fun nb => ?_) | refine reg_box (cs := [_, _, _, _, _]) rfl (fun nb => ?_) | refine reg_box (cs := [_, _, _, _, _, _]) rfl (fun nb => ?_) | refine reg_box (cs := [_, _, _, _, _, _, _]) rfl (fun nb => ?_) | refine reg_box (cs := [_, _, _, _, _, _, _, _]) rfl (fun nb => ?_))
                | ((with_reducible refine tag_alloc ?_); refine reg_alloc (fun nb => ?_))
                | refine reg_defer rfl rfl ?_)
          all_goals refine reg_nil ?_
          all_goals repeat (first | refine run_seq ?_ | refine run_block ?_ | refine run_skip ?_ | refine run_inBlock ?_)
          repeat (first | refine run_seq ?_ | refine run_block ?_ | refine run_skip ?_ | refine run_inBlock ?_)
          first | refine run_region (by kernel_rfl) ?_ | refine run_drawA PP_mixed (by kernel_rfl) (by kernel_rfl) ?_
          repeat' (refine reg_cons rfl ?_; first
                | ((with_reducible refine tag_move ?_); refine reg_pure rfl ?_)
                | ((with_reducible refine tag_assign ?_); refine reg_pure rfl ?_)
                | ((with_reducible refine tag_load ?_); first | refine reg_load_sh 0 rfl rfl rfl ?_ | refine reg_load_sh 1 rfl rfl rfl ?_ | refine reg_load_sh 2 rfl rfl rfl ?_ | refine reg_load_sh 3 rfl rfl rfl ?_ | refine reg_load_sh 4 rfl rfl rfl ?_ | refine reg_load_sh 5 rfl rfl rfl ?_ | refine reg_load_pt 0 rfl rfl rfl ?_ | refine reg_load_pt 1 rfl rfl rfl ?_ | refine reg_load_pt 2 rfl rfl rfl ?_ | refine reg_load_pt 3 rfl rfl rfl ?_ | refine reg_load_pt 4 rfl rfl rfl ?_ | refine reg_load_pt 5 rfl rfl rfl ?_)
                | ((with_reducible refine tag_field ?_); refine reg_field rfl ?_)
                | ((with_reducible refine tag_extract ?_); refine reg_pure rfl ?_)
                | ((with_reducible refine tag_bin ?_); first | refine reg_add64 rfl rfl (by omega) ?_ | refine reg_sub64 rfl rfl (by omega) ?_ | refine reg_eql rfl rfl ?_ | refine reg_neq rfl rfl ?_ | refine reg_gtr rfl rfl ?_ | refine reg_rem64 rfl rfl (by omega) ?_ | refine reg_eq_nil rfl rfl ?_ | refine reg_eqB rfl rfl ?_ | refine reg_ne_nil rfl rfl ?_)
                | ((with_reducible refine tag_un ?_); first | refine reg_not rfl ?_ | refine reg_notB rfl ?_)
                | ((with_reducible refine tag_store ?_); first | refine reg_store 0 rfl rfl rfl rfl rfl rfl rfl ?_ | refine reg_store 1 rfl rfl rfl rfl rfl rfl rfl ?_ | refine reg_store 2 rfl rfl rfl rfl rfl rfl rfl ?_ | refine reg_store 3 rfl rfl rfl rfl rfl rfl rfl ?_ | refine reg_store 4 rfl rfl rfl rfl rfl rfl rfl ?_ | refine reg_store 5 rfl rfl rfl rfl rfl rfl rfl ?_)
                | ((with_reducible refine tag_index ?_); first | refine reg_index_slice rfl rfl (by omega) ?_ | refine reg_index_array rfl rfl (by omega) ?_)
                | ((with_reducible refine tag_box ?_); first | refine reg_box (cs := [_]) rfl (fun nb => ?_) | refine reg_box (cs := [_, _]) rfl (fun nb => ?_) | refine reg_box (cs := [_, _, _]) rfl (fun nb => ?_) | refine reg_box (cs := [_, _, _, _]) rfl (fun nb => ?_) | refine reg_box (cs := [_, _, _, _, _]) rfl (fun nb => ?_) | refine reg_box (cs := [_, _, _, _, _, _]) rfl (fun nb => ?_) | refine reg_box (cs := [_, _, _, _, _, _, _]) rfl (fun nb => ?_) | refine reg_box (cs := [_, _, _, _, _, _, _, _]) rfl (fun nb => ?_))
                | ((with_reducible refine tag_alloc ?_); refine reg_alloc (fun nb => ?_))
                | refine reg_defer rfl rfl ?_)
          all_goals refine reg_nil ?_
          all_goals repeat (first | refine run_seq ?_ | refine run_block ?_ | refine run_skip ?_ | refine run_inBlock ?_)
          refine run_cond rfl (fun hE => ?_) (fun hE => ?_)
          · rw [if_neg hE] at ha
            rw [ha] at hr
            dsimp only at hr
            rw [if_neg hE] at hr
            dsimp only at hr
            rw [if_neg hE] at hr
            repeat' (first
              | refine run_seq ?_
              | refine run_region (by kernel_rfl) ?_
              | refine run_drawA PP_mixed (by kernel_rfl) (by kernel_rfl) ?_
              | refine run_skip ?_
              | refine run_block ?_
              | refine run_inBlock ?_
              | refine run_inLoop ?_
              | refine run_exit rfl ?_
              | (refine reg_cons rfl ?_; first
                  | ((with_reducible refine tag_move ?_); refine reg_pure rfl ?_)
                  | ((with_reducible refine tag_assign ?_); refine reg_pure rfl ?_)
                  | ((with_reducible refine tag_load ?_); first | refine reg_load_sh 0 rfl rfl rfl ?_ | refine reg_load_sh 1 rfl rfl rfl ?_ | refine reg_load_sh 2 rfl rfl rfl ?_ | refine reg_load_sh 3 rfl rfl rfl ?_ | refine reg_load_sh 4 rfl rfl rfl ?_ | refine reg_load_sh 5 rfl rfl rfl ?_ | refine reg_load_pt 0 rfl rfl rfl ?_ | refine reg_load_pt 1 rfl rfl rfl ?_ | refine reg_load_pt 2 rfl rfl rfl ?_ | refine reg_load_pt 3 rfl rfl rfl ?_ | refine reg_load_pt 4 rfl rfl rfl ?_ | refine reg_load_pt 5 rfl rfl rfl ?_)
                  | ((with_reducible refine tag_field ?_); refine reg_field rfl ?_)
                  | ((with_reducible refine tag_extract ?_); refine reg_pure rfl ?_)
                  | ((with_reducible refine tag_bin ?_); first | refine reg_add64 rfl rfl (by omega) ?_ | refine reg_sub64 rfl rfl (by omega) ?_ | refine reg_eql rfl rfl ?_ | refine reg_neq rfl rfl ?_ | refine reg_gtr rfl rfl ?_ | refine reg_rem64 rfl rfl (by omega) ?_ | refine reg_eq_nil rfl rfl ?_ | refine reg_eqB rfl rfl ?_ | refine reg_ne_nil rfl rfl ?_)
                  | ((with_reducible refine tag_un ?_); first | refine reg_not rfl ?_ | refine reg_notB rfl ?_)
                  | ((with_reducible refine tag_store ?_); first | refine reg_store 0 rfl rfl rfl rfl rfl rfl rfl ?_ | refine reg_store 1 rfl rfl rfl rfl rfl rfl rfl ?_ | refine reg_store 2 rfl rfl rfl rfl rfl rfl rfl ?_ | refine reg_store 3 rfl rfl rfl rfl rfl rfl rfl ?_ | refine reg_store 4 rfl rfl rfl rfl rfl rfl rfl ?_ | refine reg_store 5 rfl rfl rfl rfl rfl rfl rfl ?_)
                  | ((with_reducible refine tag_index ?_); first | refine reg_index_slice rfl rfl (by omega) ?_ | refine reg_index_array rfl rfl (by omega) ?_)
                  | ((with_reducible refine tag_box ?_); first | refine reg_box (cs := [_]) rfl (fun nb => ?_) | refine reg_box (cs := [_, _]) rfl (fun nb => ?_) | refine reg_box (cs := [_, _, _]) rfl (fun nb => ?_) | refine reg_box (cs := [_, _, _, _]) rfl (fun nb => ?_) | refine reg_box (cs := [_, _, _, _, _]) rfl (fun nb => ?_) | refine reg_box (cs := [_, _, _, _, _, _]) rfl (fun nb => ?_) | refine reg_box (cs := [_, _, _, _, _, _, _]) rfl (fun nb => ?_) | refine reg_box (cs := [_, _, _, _, _, _, _, _]) rfl (fun nb => ?_))
                  | ((with_reducible refine tag_alloc ?_); refine reg_alloc (fun nb => ?_))
                  | refine reg_defer rfl rfl ?_)
              | refine reg_nil ?_
              | refine run_condT rfl ?_
              | refine run_condF rfl ?_)
            exact qret rfl (fun _ _ h => h) (fin _ _ _ _ rfl rfl hr)
          · have hE : k1.2.1 = 0 := Decidable.of_not_not hE
            rw [if_pos hE] at ha
            repeat' (first
              | refine run_seq ?_
              | refine run_region (by kernel_rfl) ?_
              | refine run_drawA PP_mixed (by kernel_rfl) (by kernel_rfl) ?_
              | refine run_skip ?_
              | refine run_block ?_
              | refine run_inBlock ?_
              | refine run_inLoop ?_
              | refine run_exit rfl ?_
              | (refine reg_cons rfl ?_; first
                  | ((with_reducible refine tag_move ?_); refine reg_pure rfl ?_)
                  | ((with_reducible refine tag_assign ?_); refine reg_pure rfl ?_)
                  | ((with_reducible refine tag_load ?_); first | refine reg_load_sh 0 rfl rfl rfl ?_ | refine reg_load_sh 1 rfl rfl rfl ?_ | refine reg_load_sh 2 rfl rfl rfl ?_ | refine reg_load_sh 3 rfl rfl rfl ?_ | refine reg_load_sh 4 rfl rfl rfl ?_ | refine reg_load_sh 5 rfl rfl rfl ?_ | refine reg_load_pt 0 rfl rfl rfl ?_ | refine reg_load_pt 1 rfl rfl rfl ?_ | refine reg_load_pt 2 rfl rfl rfl ?_ | refine reg_load_pt 3 rfl rfl rfl ?_ | refine reg_load_pt 4 rfl rfl rfl ?_ | refine reg_load_pt 5 rfl rfl rfl ?_)
                  | ((with_reducible refine tag_call ?_); refine reg_callE [0] (putS w0 p _ _ _ (hsm7.mono (by omega))) rfl rfl rfl sub_nil rfl ?_)
                  | ((with_reducible refine tag_field ?_); refine reg_field rfl ?_)
                  | ((with_reducible refine tag_extract ?_); refine reg_pure rfl ?_)
                  | ((with_reducible refine tag_bin ?_); first | refine reg_add64 rfl rfl (by omega) ?_ | refine reg_sub64 rfl rfl (by omega) ?_ | refine reg_eql rfl rfl ?_ | refine reg_neq rfl rfl ?_ | refine reg_gtr rfl rfl ?_ | refine reg_rem64 rfl rfl (by omega) ?_ | refine reg_eq_nil rfl rfl ?_ | refine reg_eqB rfl rfl ?_ | refine reg_ne_nil rfl rfl ?_)
                  | ((with_reducible refine tag_un ?_); first | refine reg_not rfl ?_ | refine reg_notB rfl ?_)
                  | ((with_reducible refine tag_store ?_); first | refine reg_store 0 rfl rfl rfl rfl rfl rfl rfl ?_ | refine reg_store 1 rfl rfl rfl rfl rfl rfl rfl ?_ | refine reg_store 2 rfl rfl rfl rfl rfl rfl rfl ?_ | refine reg_store 3 rfl rfl rfl rfl rfl rfl rfl ?_ | refine reg_store 4 rfl rfl rfl rfl rfl rfl rfl ?_ | refine reg_store 5 rfl rfl rfl rfl rfl rfl rfl ?_)
                  | ((with_reducible refine tag_index ?_); first | refine reg_index_slice rfl rfl (by omega) ?_ | refine reg_index_array rfl rfl (by omega) ?_)
                  | ((with_reducible refine tag_box ?_); first | refine reg_box (cs := [_]) rfl (fun nb => ?_) | refine reg_box (cs := [_, _]) rfl (fun nb => ?_) | refine reg_box (cs := [_, _, _]) rfl (fun nb => ?_) | refine reg_box (cs := [_, _, _, _]) rfl (fun nb => ?_) | refine reg_box (cs := [_, _, _, _, _]) rfl (fun nb => ?_) | refine reg_box (cs := [_, _, _, _, _, _]) rfl (fun nb => ?_) | refine reg_box (cs := [_, _, _, _, _, _, _]) rfl (fun nb => ?_) | refine reg_box (cs := [_, _, _, _, _, _, _, _]) rfl (fun nb => ?_))
                  | ((with_reducible refine tag_alloc ?_); refine reg_alloc (fun nb => ?_))
                  | refine reg_defer rfl rfl ?_)
              | refine reg_nil ?_
              | refine run_condT rfl ?_
              | refine run_condF rfl ?_)
            exact cut_end ⟨rfl, _, ⟨rfl, rfl, rfl, rfl, rfl, rfl, rfl, trivial⟩, ⟨rfl, sm_put hsm7, ha⟩⟩
        · refine run_condF (bool_eq (decide_eq_false hz)) ?_
          repeat (first | refine run_seq ?_ | refine run_block ?_ | refine run_skip ?_ | refine run_inBlock ?_ | refine run_inLoop ?_)
          refine cut_end ⟨rfl, s2, ⟨rfl, rfl, rfl, rfl, rfl, rfl, rfl, trivial⟩, ⟨rfl, hsm6.mono (by omega), ?_⟩⟩
          unfold Ar.add
          rw [Nat.add_sub_cancel, if_neg hz]
      rintro s3 Γ' junk ⟨rfl, hsm7, ha⟩
      rw [ha] at hr
      dsimp only at hr
      rw [if_pos rfl] at hr
      have hN := anode_spec w0 p A hA s3 cell (hsm7.mono (by omega))
      have hsm8 : Sm (A.node s3 cell).2.2 (2 + 4 * d2) := sm_node hsm7
      have hb3 := A.node_bd s3 cell
      have hdn2 : (A.node s3 cell).2.1 = true → A.down n (d2 + 1 + 1) at_ s2 = A.down n (d2 + 1) (A.node s3 cell).1 (A.node s3 cell).2.2 := fun h => by
        rw [hdn1]; simp [hce, ha, h]
      generalize A.node s3 cell = q at hr hN hsm8 hb3 hdn2
      repeat (first | refine run_seq ?_ | refine run_block ?_ | refine run_skip ?_ | refine run_inBlock ?_)
      first | refine run_region (by kernel_rfl) ?_ | refine run_drawA PP_mixed (by kernel_rfl) (by kernel_rfl) ?_
      repeat' (refine reg_cons rfl ?_; first
            | ((with_reducible refine tag_move ?_); refine reg_pure rfl ?_)
            | ((with_reducible refine tag_assign ?_); refine reg_pure rfl ?_)
            | ((with_reducible refine tag_load ?_); first | refine reg_load_sh 0 rfl rfl rfl ?_ | refine reg_load_sh 1 rfl rfl rfl ?_ | refine reg_load_sh 2 rfl rfl rfl ?_ | refine reg_load_sh 3 rfl rfl rfl ?_ | refine reg_load_sh 4 rfl rfl rfl ?_ | refine reg_load_sh 5 rfl rfl rfl ?_ | refine reg_load_pt 0 rfl rfl rfl ?_ | refine reg_load_pt 1 rfl rfl rfl ?_ | refine reg_load_pt 2 rfl rfl rfl ?_ | refine reg_load_pt 3 rfl rfl rfl ?_ | refine reg_load_pt 4 rfl rfl rfl ?_ | refine reg_load_pt 5 rfl rfl rfl ?_)
            | ((with_reducible refine tag_call ?_); refine reg_callE [0] hN rfl rfl rfl sub_nil rfl ?_)
            | ((with_reducible refine tag_field ?_); refine reg_field rfl ?_)
            | ((with_reducible refine tag_extract ?_); refine reg_pure rfl ?_)
            | ((with_reducible refine tag_bin ?_); first | refine reg_add64 rfl rfl (by omega) ?_ | refine reg_sub64 rfl rfl (by omega) ?_ | refine reg_eql rfl rfl ?_ | refine reg_neq rfl rfl ?_ | refine reg_gtr rfl rfl ?_ | refine reg_rem64 rfl rfl (by omega) ?_ | refine reg_eq_nil rfl rfl ?_ | refine reg_eqB rfl rfl ?_ | refine reg_ne_nil rfl rfl ?_)
            | ((with_reducible refine tag_un ?_); first | refine reg_not rfl ?_ | refine reg_notB rfl ?_)
            | ((with_reducible refine tag_store ?_); first | refine reg_store 0 rfl rfl rfl rfl rfl rfl rfl ?_ | refine reg_store 1 rfl rfl rfl rfl rfl rfl rfl ?_ | refine reg_store 2 rfl rfl rfl rfl rfl rfl rfl ?_ | refine reg_store 3 rfl rfl rfl rfl rfl rfl rfl ?_ | refine reg_store 4 rfl rfl rfl rfl rfl rfl rfl ?_ | refine reg_store 5 rfl rfl rfl rfl rfl rfl rfl ?_)
            | ((with_reducible refine tag_index ?_); first | refine reg_index_slice rfl rfl (by omega) ?_ | refine reg_index_array rfl rfl (by omega) ?_)
            | ((with_reducible refine tag_box ?_); first | refine reg_box (cs := [_]) rfl (fun nb => ?_) | refine reg_box (cs := [_, _]) rfl (fun nb => ?_) | refine reg_box (cs := [_, _, _]) rfl (fun nb => ?_) | refine reg_box (cs := [_, _, _, _]) rfl (fun nb => ?_) | refine reg_box (cs := [_, _, _, _, _]) rfl (fun nb => ?_) | refine reg_box (cs := [_, _, _, _, _, _]) rfl (fun nb => ?_) | refine reg_box (cs := [_, _, _, _, _, _, _]) rfl (fun nb => ?_) | refine reg_box (cs := [_, _, _, _, _, _, _, _]) rfl (fun nb => ?_))
            | ((with_reducible refine tag_alloc ?_); refine reg_alloc (fun nb => ?_))
            | refine reg_defer rfl rfl ?_)
      all_goals refine reg_nil ?_
      all_goals repeat (first | refine run_seq ?_ | refine run_block ?_ | refine run_skip ?_ | refine run_inBlock ?_)
      repeat (first | refine run_seq ?_ | refine run_block ?_ | refine run_skip ?_ | refine run_inBlock ?_)
      first | refine run_region (by kernel_rfl) ?_ | refine run_drawA PP_mixed (by kernel_rfl) (by kernel_rfl) ?_
      repeat' (refine reg_cons rfl ?_; first
            | ((with_reducible refine tag_move ?_); refine reg_pure rfl ?_)
            | ((with_reducible refine tag_assign ?_); refine reg_pure rfl ?_)
            | ((with_reducible refine tag_load ?_); first | refine reg_load_sh 0 rfl rfl rfl ?_ | refine reg_load_sh 1 rfl rfl rfl ?_ | refine reg_load_sh 2 rfl rfl rfl ?_ | refine reg_load_sh 3 rfl rfl rfl ?_ | refine reg_load_sh 4 rfl rfl rfl ?_ | refine reg_load_sh 5 rfl rfl rfl ?_ | refine reg_load_pt 0 rfl rfl rfl ?_ | refine reg_load_pt 1 rfl rfl rfl ?_ | refine reg_load_pt 2 rfl rfl rfl ?_ | refine reg_load_pt 3 rfl rfl rfl ?_ | refine reg_load_pt 4 rfl rfl rfl ?_ | refine reg_load_pt 5 rfl rfl rfl ?_)
            | ((with_reducible refine tag_field ?_); refine reg_field rfl ?_)
            | ((with_reducible refine tag_extract ?_); refine reg_pure rfl ?_)
            | ((with_reducible refine tag_bin ?_); first | refine reg_add64 rfl rfl (by omega) ?_ | refine reg_sub64 rfl rfl (by omega) ?_ | refine reg_eql rfl rfl ?_ | refine reg_neq rfl rfl ?_ | refine reg_gtr rfl rfl ?_ | refine reg_rem64 rfl rfl (by omega) ?_ | refine reg_eq_nil rfl rfl ?_ | refine reg_eqB rfl rfl ?_ | refine reg_ne_nil rfl rfl ?_)
            | ((with_reducible refine tag_un ?_); first | refine reg_not rfl ?_ | refine reg_notB rfl ?_)
            | ((with_reducible refine tag_store ?_); first | refine reg_store 0 rfl rfl rfl rfl rfl rfl rfl ?_ | refine reg_store 1 rfl rfl rfl rfl rfl rfl rfl ?_ | refine reg_store 2 rfl rfl rfl rfl rfl rfl rfl ?_ | refine reg_store 3 rfl rfl rfl rfl rfl rfl rfl ?_ | refine reg_store 4 rfl rfl rfl rfl rfl rfl rfl ?_ | refine reg_store 5 rfl rfl rfl rfl rfl rfl rfl ?_)
            | ((with_reducible refine tag_index ?_); first | refine reg_index_slice rfl rfl (by omega) ?_ | refine reg_index_array rfl rfl (by omega) ?_)
            | ((with_reducible refine tag_box ?_); first | refine reg_box (cs := [_]) rfl (fun nb => ?_) | refine reg_box (cs := [_, _]) rfl (fun nb => ?_) | refine reg_box (cs := [_, _, _]) rfl (fun nb => ?_) | refine reg_box (cs := [_, _, _, _]) rfl (fun nb => ?_) | refine reg_box (cs := [_, _, _, _, _]) rfl (fun nb => ?_) | refine reg_box (cs := [_, _, _, _, _, _]) rfl (fun nb => ?_) | refine reg_box (cs := [_, _, _, _, _, _, _]) rfl (fun nb => ?_) | refine reg_box (cs := [_, _, _, _, _, _, _, _]) rfl (fun nb => ?_))
            | ((with_reducible refine tag_alloc ?_); refine reg_alloc (fun nb => ?_))
            | refine reg_defer rfl rfl ?_)
      all_goals refine reg_nil ?_
      all_goals repeat (first | refine run_seq ?_ | refine run_block ?_ | refine run_skip ?_ | refine run_inBlock ?_)
      refine run_condV rfl (fun hE => ?_) (fun hE => ?_)
      · have hE : q.2.1 = false := by simpa using hE
        have hr : A.pushIn n v d t = (0, 24, q.2.2) := by rw [hr]; simp [hE]
        repeat' (first
          | refine run_seq ?_
          | refine run_region (by kernel_rfl) ?_
          | refine run_drawA PP_mixed (by kernel_rfl) (by kernel_rfl) ?_
          | refine run_skip ?_
          | refine run_block ?_
          | refine run_inBlock ?_
          | refine run_inLoop ?_
          | refine run_exit rfl ?_
          | (refine reg_cons rfl ?_; first
              | ((with_reducible refine tag_move ?_); refine reg_pure rfl ?_)
              | ((with_reducible refine tag_assign ?_); refine reg_pure rfl ?_)
              | ((with_reducible refine tag_load ?_); first | refine reg_load_sh 0 rfl rfl rfl ?_ | refine reg_load_sh 1 rfl rfl rfl ?_ | refine reg_load_sh 2 rfl rfl rfl ?_ | refine reg_load_sh 3 rfl rfl rfl ?_ | refine reg_load_sh 4 rfl rfl rfl ?_ | refine reg_load_sh 5 rfl rfl rfl ?_ | refine reg_load_pt 0 rfl rfl rfl ?_ | refine reg_load_pt 1 rfl rfl rfl ?_ | refine reg_load_pt 2 rfl rfl rfl ?_ | refine reg_load_pt 3 rfl rfl rfl ?_ | refine reg_load_pt 4 rfl rfl rfl ?_ | refine reg_load_pt 5 rfl rfl rfl ?_)
              | ((with_reducible refine tag_field ?_); refine reg_field rfl ?_)
              | ((with_reducible refine tag_extract ?_); refine reg_pure rfl ?_)
              | ((with_reducible refine tag_bin ?_); first | refine reg_add64 rfl rfl (by omega) ?_ | refine reg_sub64 rfl rfl (by omega) ?_ | refine reg_eql rfl rfl ?_ | refine reg_neq rfl rfl ?_ | refine reg_gtr rfl rfl ?_ | refine reg_rem64 rfl rfl (by omega) ?_ | refine reg_eq_nil rfl rfl ?_ | refine reg_eqB rfl rfl ?_ | refine reg_ne_nil rfl rfl ?_)
              | ((with_reducible refine tag_un ?_); first | refine reg_not rfl ?_ | refine reg_notB rfl ?_)
              | ((with_reducible refine tag_store ?_); first | refine reg_store 0 rfl rfl rfl rfl rfl rfl rfl ?_ | refine reg_store 1 rfl rfl rfl rfl rfl rfl rfl ?_ | refine reg_store 2 rfl rfl rfl rfl rfl rfl rfl ?_ | refine reg_store 3 rfl rfl rfl rfl rfl rfl rfl ?_ | refine reg_store 4 rfl rfl rfl rfl rfl rfl rfl ?_ | refine reg_store 5 rfl rfl rfl rfl rfl rfl rfl ?_)
              | ((with_reducible refine tag_index ?_); first | refine reg_index_slice rfl rfl (by omega) ?_ | refine reg_index_array rfl rfl (by omega) ?_)
              | ((with_reducible refine tag_box ?_); first | refine reg_box (cs := [_]) rfl (fun nb => ?_) | refine reg_box (cs := [_, _]) rfl (fun nb => ?_) | refine reg_box (cs := [_, _, _]) rfl (fun nb => ?_) | refine reg_box (cs := [_, _, _, _]) rfl (fun nb => ?_) | refine reg_box (cs := [_, _, _, _, _]) rfl (fun nb => ?_) | refine reg_box (cs := [_, _, _, _, _, _]) rfl (fun nb => ?_) | refine reg_box (cs := [_, _, _, _, _, _, _]) rfl (fun nb => ?_) | refine reg_box (cs := [_, _, _, _, _, _, _, _]) rfl (fun nb => ?_))
              | ((with_reducible refine tag_alloc ?_); refine reg_alloc (fun nb => ?_))
              | refine reg_defer rfl rfl ?_)
          | refine reg_nil ?_
          | refine run_condT rfl ?_
          | refine run_condF rfl ?_)
        exact qret rfl (fun _ _ h => h) (fin _ _ _ _ rfl rfl hr)
      · have hE : q.2.1 = true := by simpa using hE
        repeat' (first
          | refine run_seq ?_
          | refine run_region (by kernel_rfl) ?_
          | refine run_drawA PP_mixed (by kernel_rfl) (by kernel_rfl) ?_
          | refine run_skip ?_
          | refine run_block ?_
          | refine run_inBlock ?_
          | refine run_inLoop ?_
          | refine run_exit rfl ?_
          | (refine reg_cons rfl ?_; first
              | ((with_reducible refine tag_move ?_); refine reg_pure rfl ?_)
              | ((with_reducible refine tag_assign ?_); refine reg_pure rfl ?_)
              | ((with_reducible refine tag_load ?_); first | refine reg_load_sh 0 rfl rfl rfl ?_ | refine reg_load_sh 1 rfl rfl rfl ?_ | refine reg_load_sh 2 rfl rfl rfl ?_ | refine reg_load_sh 3 rfl rfl rfl ?_ | refine reg_load_sh 4 rfl rfl rfl ?_ | refine reg_load_sh 5 rfl rfl rfl ?_ | refine reg_load_pt 0 rfl rfl rfl ?_ | refine reg_load_pt 1 rfl rfl rfl ?_ | refine reg_load_pt 2 rfl rfl rfl ?_ | refine reg_load_pt 3 rfl rfl rfl ?_ | refine reg_load_pt 4 rfl rfl rfl ?_ | refine reg_load_pt 5 rfl rfl rfl ?_)
              | ((with_reducible refine tag_field ?_); refine reg_field rfl ?_)
              | ((with_reducible refine tag_extract ?_); refine reg_pure rfl ?_)
              | ((with_reducible refine tag_bin ?_); first | refine reg_add64 rfl rfl (by omega) ?_ | refine reg_sub64 rfl rfl (by omega) ?_ | refine reg_eql rfl rfl ?_ | refine reg_neq rfl rfl ?_ | refine reg_gtr rfl rfl ?_ | refine reg_rem64 rfl rfl (by omega) ?_ | refine reg_eq_nil rfl rfl ?_ | refine reg_eqB rfl rfl ?_ | refine reg_ne_nil rfl rfl ?_)
              | ((with_reducible refine tag_un ?_); first | refine reg_not rfl ?_ | refine reg_notB rfl ?_)
              | ((with_reducible refine tag_store ?_); first | refine reg_store 0 rfl rfl rfl rfl rfl rfl rfl ?_ | refine reg_store 1 rfl rfl rfl rfl rfl rfl rfl ?_ | refine reg_store 2 rfl rfl rfl rfl rfl rfl rfl ?_ | refine reg_store 3 rfl rfl rfl rfl rfl rfl rfl ?_ | refine reg_store 4 rfl rfl rfl rfl rfl rfl rfl ?_ | refine reg_store 5 rfl rfl rfl rfl rfl rfl rfl ?_)
              | ((with_reducible refine tag_index ?_); first | refine reg_index_slice rfl rfl (by omega) ?_ | refine reg_index_array rfl rfl (by omega) ?_)
              | ((with_reducible refine tag_box ?_); first | refine reg_box (cs := [_]) rfl (fun nb => ?_) | refine reg_box (cs := [_, _]) rfl (fun nb => ?_) | refine reg_box (cs := [_, _, _]) rfl (fun nb => ?_) | refine reg_box (cs := [_, _, _, _]) rfl (fun nb => ?_) | refine reg_box (cs := [_, _, _, _, _]) rfl (fun nb => ?_) | refine reg_box (cs := [_, _, _, _, _, _]) rfl (fun nb => ?_) | refine reg_box (cs := [_, _, _, _, _, _, _]) rfl (fun nb => ?_) | refine reg_box (cs := [_, _, _, _, _, _, _, _]) rfl (fun nb => ?_))
              | ((with_reducible refine tag_alloc ?_); refine reg_alloc (fun nb => ?_))
              | refine reg_defer rfl rfl ?_)
          | refine reg_nil ?_
          | refine run_condT rfl ?_
          | refine run_condF rfl ?_)
        exact cut_end ⟨rfl, (d2, q.1, q.2.2), ⟨rfl, rfl, rfl, rfl, rfl, int_eq (by dsimp only; omega), rfl, trivial⟩, ⟨rfl, by dsimp only; omega, hb3, hsm8, hdn.trans (hdn2 hE)⟩, by dsimp only; omega⟩
end Go.Proofs.YtilnknokgflkjaaDoor

/- The plain model of package array: Pop. -/
namespace Sim
open Go Go.Vc
def Ar.gives (A : Ar) (n : Int) (d now : Nat) : List Int → Nat → Int → Sp → Int × Int × Sp
  | [], _, gone, s => (0, gone, s)
  | a :: l, i, gone, s =>
    if (n - 1) % pw (d - i) ≠ 0 ∧ (0 < i ∨ now = d) then A.gives n d now l (i + 1) gone s
    else if (A.pool.give s a).1 = 0 then A.gives n d now l (i + 1) (gone + 1) (A.pool.give s a).2 else ((A.pool.give s a).1, gone, (A.pool.give s a).2)
def Ar.fell (A : Ar) (n : Int) (d now : Nat) (top gone : Int) (s : Sp) : Sp :=
  let s1 := if 0 < gone then (s.get (A.root + 7)).2.put (A.root + 7) (w64 ((s.get (A.root + 7)).1 - gone)) else s
  let s2 := if now < d then (s1.put A.root top).put (A.root + 2) now else s1
  s2.put (A.root + 1) (n - 1)
def Ar.popOn (A : Ar) (n : Int) (d now : Nat) (l : List Int) (v top : Int) (s : Sp) : Int × Int × Sp :=
  let g := A.gives n d now l 0 0 s
  if g.1 = 0 then (v, 0, A.fell n d now top g.2.1 g.2.2) else (0, g.1, g.2.2)
def Ar.popIn (A : Ar) (n : Int) (d : Nat) (s : Sp) : Int × Int × Sp :=
  match A.way (n - 1) d A.root s [] with
  | (none, t) => (0, 24, t)
  | (some l, t) =>
    let g := t.get (l.getD (d - 1) 0 + dig (n - 1) 1)
    let now := dep (n - 1)
    if 0 < now ∧ now < d then
      let x := A.node g.2 (l.getD 0 0)
      if x.2.1 then A.popOn n d now l g.1 x.1 x.2.2 else (0, 24, x.2.2)
    else A.popOn n d now l g.1 (if 0 < now then l.getD 0 0 else 0) g.2
def Ar.undoPop (m : Int) (r : Int × Int × Sp) : Int × Int × Sp := if r.2.1 ≠ 0 then (0, r.2.1, r.2.2.back m) else r
def Ar.pop (A : Ar) (s : Sp) : Int × Int × Sp :=
  let m := A.many s
  if m.1 = 0 then (0, 8, m.2.2.2) else
  if m.2.2.1 then Ar.undoPop m.2.2.2.puts.length (A.popIn m.1 m.2.1.toNat m.2.2.2) else (0, 24, m.2.2.2)

theorem sm_gives {A : Ar} {n : Int} {d now : Nat} : ∀ {l : List Int} {i : Nat} {gone : Int} {s : Sp} {j : Nat}, Sm s (j + 3 * l.length) → Sm (A.gives n d now l i gone s).2.2 j
  | [], i, gone, s, j, h => h.mono (by omega)
  | a :: l, i, gone, s, j, h => by
    simp only [List.length_cons] at h
    simp only [Ar.gives]
    split
    · exact sm_gives (h.mono (by omega))
    · have h2 := sm_give (P := A.pool) (a := a) (s := s) (j := j + 3 * l.length) (h.mono (by omega))
      split
      · exact sm_gives h2
      · exact h2.mono (by omega)
theorem sm_fell {A : Ar} {n : Int} {d now : Nat} {top gone : Int} {s : Sp} {j : Nat} (h : Sm s (j + 4)) : Sm (A.fell n d now top gone s) j := by
  unfold Ar.fell
  have h1 : Sm (if 0 < gone then (s.get (A.root + 7)).2.put (A.root + 7) (w64 ((s.get (A.root + 7)).1 - gone)) else s) (j + 3) := by
    split
    · exact sm_put (sm_get h)
    · exact h.mono (by omega)
  dsimp only
  generalize (if 0 < gone then (s.get (A.root + 7)).2.put (A.root + 7) (w64 ((s.get (A.root + 7)).1 - gone)) else s) = s1 at h1
  refine sm_put ?_
  split
  · exact sm_put (sm_put h1)
  · exact h1.mono (by omega)
theorem sm_popOn {A : Ar} {n : Int} {d now : Nat} {l : List Int} {v top : Int} {s : Sp} {j : Nat} (h : Sm s (j + 4 + 3 * l.length)) : Sm (A.popOn n d now l v top s).2.2 j := by
  unfold Ar.popOn
  have h1 := sm_gives (A := A) (n := n) (d := d) (now := now) (l := l) (i := 0) (gone := 0) h
  dsimp only
  split
  · exact sm_fell h1
  · exact h1.mono (by omega)
theorem sm_pop {A : Ar} {s : Sp} {j : Nat} (h : Sm s (j + 24)) : Sm (A.pop s).2.2 j := by
  have h1 := sm_many (A := A) h
  unfold Ar.pop
  dsimp only
  split
  · exact h1.mono (by omega)
  · split
    · have hm := many_ok (A := A) (s := s) ‹_›
      have hd := dep_le (A.many s).1
      have key : Sm (A.popIn (A.many s).1 (A.many s).2.1.toNat (A.many s).2.2.2).2.2 j := by
        unfold Ar.popIn
        have h2 := sm_way (A := A) (i := (A.many s).1 - 1) (d := (A.many s).2.1.toNat) (c := A.root) (acc := []) h1
        have h3 := way_len A ((A.many s).1 - 1) (A.many s).2.1.toNat A.root (A.many s).2.2.2 []
        split
        · rename_i t ht; rw [ht] at h2; exact h2.mono (by omega)
        · rename_i l t ht
          rw [ht] at h2 h3
          have hl := (h3 l rfl).1
          rw [List.length_nil] at hl
          dsimp only
          split
          · split
            · exact sm_popOn (sm_node (sm_get (h2.mono (by omega))))
            · exact (sm_node (sm_get h2)).mono (by omega)
          · exact sm_popOn (sm_get (h2.mono (by omega)))
      unfold Ar.undoPop
      split
      · exact sm_back key
      · exact key
    · exact h1.mono (by omega)
end Sim

/- The walk of Pop: the closure, and the way out. -/
namespace Go.Proofs.YtilnknokgflkjaaDoor
open Go.Vc Sim
set_option maxHeartbeats 4000000
abbrev vV (vb : Nat) (x : Int) : Asn := pt vb (.cells (List.toArray [.int .i64 x]) 2 (0, 0))
abbrev mV (b : Nat) (x : Int) : Asn := pt b (.cells (List.toArray [.int .i64 x]) 3 (0, 0))
abbrev sV (b p : Nat) : Asn := pt b (.cells (List.toArray [spP p]) 33 (0, 0))

theorem aback_spec (w0 : World) (p : Nat) (s : Sp) (m : Int) (eb : Nat) (e : Int) : FnE PP w0 [] 25 [spP p, .int .i64 m, ptr eb] [SpaceA p s, eV eb e]
    (.tuple #[]) [SpaceA p (if e ≠ 0 then s.back m else s), eV eb e] := by
  refine fn_of_run en25 fn25 rfl rfl rfl ?_ -- @@FN 25
  repeat' (first
    | refine run_seq ?_
    | refine run_region (by kernel_rfl) ?_
    | refine run_drawA PP_mixed (by kernel_rfl) (by kernel_rfl) ?_
    | refine run_skip ?_
    | refine run_block ?_
    | refine run_inBlock ?_
    | refine run_inLoop ?_
    | refine run_exit rfl ?_
    | (refine reg_cons rfl ?_; first
        | ((with_reducible refine tag_move ?_); refine reg_pure rfl ?_)
        | ((with_reducible refine tag_load ?_); first | refine reg_load_sh 0 rfl rfl rfl ?_ | refine reg_load_sh 1 rfl rfl rfl ?_ | refine reg_load_sh 2 rfl rfl rfl ?_ | refine reg_load_sh 3 rfl rfl rfl ?_ | refine reg_load_sh 4 rfl rfl rfl ?_ | refine reg_load_sh 5 rfl rfl rfl ?_ | refine reg_load_pt 0 rfl rfl rfl ?_ | refine reg_load_pt 1 rfl rfl rfl ?_ | refine reg_load_pt 2 rfl rfl rfl ?_ | refine reg_load_pt 3 rfl rfl rfl ?_ | refine reg_load_pt 4 rfl rfl rfl ?_ | refine reg_load_pt 5 rfl rfl rfl ?_)
        | ((with_reducible refine tag_bin ?_); first | refine reg_neq rfl rfl ?_ | refine reg_ne_nil rfl rfl ?_)
        | ((with_reducible refine tag_nilc ?_); refine reg_pure rfl ?_))
    | refine reg_nil ?_
    | refine run_condT rfl ?_
    | refine run_condF rfl ?_)
  refine run_cond rfl (fun hE => ?_) (fun hE => ?_)
  · repeat' (first
      | refine run_seq ?_
      | refine run_region (by kernel_rfl) ?_
      | refine run_drawA PP_mixed (by kernel_rfl) (by kernel_rfl) ?_
      | refine run_skip ?_
      | refine run_block ?_
      | refine run_inBlock ?_
      | refine run_inLoop ?_
      | refine run_exit rfl ?_
      | (refine reg_cons rfl ?_; first
          | ((with_reducible refine tag_move ?_); refine reg_pure rfl ?_)
          | ((with_reducible refine tag_load ?_); first | refine reg_load_sh 0 rfl rfl rfl ?_ | refine reg_load_sh 1 rfl rfl rfl ?_ | refine reg_load_sh 2 rfl rfl rfl ?_ | refine reg_load_sh 3 rfl rfl rfl ?_ | refine reg_load_sh 4 rfl rfl rfl ?_ | refine reg_load_sh 5 rfl rfl rfl ?_ | refine reg_load_pt 0 rfl rfl rfl ?_ | refine reg_load_pt 1 rfl rfl rfl ?_ | refine reg_load_pt 2 rfl rfl rfl ?_ | refine reg_load_pt 3 rfl rfl rfl ?_ | refine reg_load_pt 4 rfl rfl rfl ?_ | refine reg_load_pt 5 rfl rfl rfl ?_)
          | ((with_reducible refine tag_call ?_); refine reg_callE [0] (back_spec w0 p s m) rfl rfl rfl sub_nil rfl ?_)
          | ((with_reducible refine tag_bin ?_); first | refine reg_neq rfl rfl ?_ | refine reg_ne_nil rfl rfl ?_)
          | ((with_reducible refine tag_nilc ?_); refine reg_pure rfl ?_))
      | refine reg_nil ?_
      | refine run_condT rfl ?_
      | refine run_condF rfl ?_)
    rw [if_pos hE]; exact end_tmp0 rfl ⟨rfl, rfl⟩
  · repeat' (first
      | refine run_seq ?_
      | refine run_region (by kernel_rfl) ?_
      | refine run_drawA PP_mixed (by kernel_rfl) (by kernel_rfl) ?_
      | refine run_skip ?_
      | refine run_block ?_
      | refine run_inBlock ?_
      | refine run_inLoop ?_
      | refine run_exit rfl ?_
      | (refine reg_cons rfl ?_; first
          | ((with_reducible refine tag_move ?_); refine reg_pure rfl ?_)
          | ((with_reducible refine tag_load ?_); first | refine reg_load_sh 0 rfl rfl rfl ?_ | refine reg_load_sh 1 rfl rfl rfl ?_ | refine reg_load_sh 2 rfl rfl rfl ?_ | refine reg_load_sh 3 rfl rfl rfl ?_ | refine reg_load_sh 4 rfl rfl rfl ?_ | refine reg_load_sh 5 rfl rfl rfl ?_ | refine reg_load_pt 0 rfl rfl rfl ?_ | refine reg_load_pt 1 rfl rfl rfl ?_ | refine reg_load_pt 2 rfl rfl rfl ?_ | refine reg_load_pt 3 rfl rfl rfl ?_ | refine reg_load_pt 4 rfl rfl rfl ?_ | refine reg_load_pt 5 rfl rfl rfl ?_)
          | ((with_reducible refine tag_bin ?_); first | refine reg_neq rfl rfl ?_ | refine reg_ne_nil rfl rfl ?_)
          | ((with_reducible refine tag_nilc ?_); refine reg_pure rfl ?_))
      | refine reg_nil ?_
      | refine run_condT rfl ?_
      | refine run_condF rfl ?_)
    rw [if_neg hE]; exact end_tmp0 rfl ⟨rfl, rfl⟩

theorem pop1_specD (w0 : World) (p : Nat) (s : Sp) (mk e x : Int) (b3 b9 eb vb : Nat) : FnD PP w0 [] 33 [ptr b3, ptr b9, ptr eb, ptr vb] [SpaceA p s, eV eb e, vV vb x, sV b3 p, mV b9 mk]
    fun v Γ' => v = .tuple #[] ∧ Γ' = [SpaceA p (if e ≠ 0 then s.back mk else s), eV eb e, vV vb (if e ≠ 0 then 0 else x), sV b3 p, mV b9 mk] := by
  refine fnD_of_run en33 fn33 rfl rfl rfl ?_
  repeat' (first
    | refine run_seq ?_
    | refine run_region (by kernel_rfl) ?_
    | refine run_drawA PP_mixed (by kernel_rfl) (by kernel_rfl) ?_
    | refine run_skip ?_
    | refine run_block ?_
    | refine run_inBlock ?_
    | refine run_inLoop ?_
    | refine run_exit rfl ?_
    | (refine reg_cons rfl ?_; first
        | ((with_reducible refine tag_guard ?_); first | refine reg_guard_in rfl ?_ | refine reg_guard_out rfl ?_ | refine reg_guard_none rfl ?_ | refine reg_guard rfl rfl (fun _ => ?_) (fun _ => ?_))
        | ((with_reducible refine tag_move ?_); refine reg_pure rfl ?_)
        | ((with_reducible refine tag_assign ?_); refine reg_pure rfl ?_)
        | ((with_reducible refine tag_load ?_); first | refine reg_load_sh 0 rfl rfl rfl ?_ | refine reg_load_sh 1 rfl rfl rfl ?_ | refine reg_load_sh 2 rfl rfl rfl ?_ | refine reg_load_sh 3 rfl rfl rfl ?_ | refine reg_load_sh 4 rfl rfl rfl ?_ | refine reg_load_sh 5 rfl rfl rfl ?_ | refine reg_load_pt 0 rfl rfl rfl ?_ | refine reg_load_pt 1 rfl rfl rfl ?_ | refine reg_load_pt 2 rfl rfl rfl ?_ | refine reg_load_pt 3 rfl rfl rfl ?_ | refine reg_load_pt 4 rfl rfl rfl ?_ | refine reg_load_pt 5 rfl rfl rfl ?_)
        | ((with_reducible refine tag_call ?_); first | refine reg_callE [0, 0] (aback_spec w0 p s mk eb e) rfl rfl rfl sub_nil rfl ?_ | refine reg_len_slice rfl ?_ | refine reg_max rfl rfl ?_ | refine reg_min rfl rfl ?_)
        | ((with_reducible refine tag_field ?_); refine reg_field rfl ?_)
        | ((with_reducible refine tag_extract ?_); refine reg_pure rfl ?_)
        | ((with_reducible refine tag_bin ?_); first | refine reg_add64 rfl rfl (by omega) ?_ | refine reg_sub64 rfl rfl (by omega) ?_ | refine reg_mul64 rfl rfl (by omega) ?_ | refine reg_eql rfl rfl ?_ | refine reg_neq rfl rfl ?_ | refine reg_lss rfl rfl ?_ | refine reg_leq rfl rfl ?_ | refine reg_gtr rfl rfl ?_ | refine reg_geq rfl rfl ?_ | refine reg_quo64 rfl rfl (by omega) ?_ | refine reg_rem64 rfl rfl (by omega) ?_ | refine reg_eq_nil rfl rfl ?_ | refine reg_eqB rfl rfl ?_ | refine reg_ne_nil rfl rfl ?_)
        | ((with_reducible refine tag_un ?_); first | refine reg_not rfl ?_ | refine reg_notB rfl ?_ | refine reg_neg64 rfl (by omega) ?_)
        | ((with_reducible refine tag_pick ?_); first | refine reg_pickT rfl ?_ | refine reg_pickF rfl ?_ | refine reg_pick rfl rfl rfl ?_)
        | ((with_reducible refine tag_store ?_); first | refine reg_store 0 rfl rfl rfl rfl rfl rfl rfl ?_ | refine reg_store 1 rfl rfl rfl rfl rfl rfl rfl ?_ | refine reg_store 2 rfl rfl rfl rfl rfl rfl rfl ?_ | refine reg_store 3 rfl rfl rfl rfl rfl rfl rfl ?_ | refine reg_store 4 rfl rfl rfl rfl rfl rfl rfl ?_ | refine reg_store 5 rfl rfl rfl rfl rfl rfl rfl ?_)
        | ((with_reducible refine tag_nilc ?_); refine reg_pure rfl ?_)
        | ((with_reducible refine tag_index ?_); first | refine reg_index_slice rfl rfl (by omega) ?_ | refine reg_index_array rfl rfl (by omega) ?_)
        | ((with_reducible refine tag_box ?_); first | refine reg_box (cs := [_]) rfl (fun nb => ?_) | refine reg_box (cs := [_, _]) rfl (fun nb => ?_) | refine reg_box (cs := [_, _, _]) rfl (fun nb => ?_) | refine reg_box (cs := [_, _, _, _]) rfl (fun nb => ?_) | refine reg_box (cs := [_, _, _, _, _]) rfl (fun nb => ?_) | refine reg_box (cs := [_, _, _, _, _, _]) rfl (fun nb => ?_) | refine reg_box (cs := [_, _, _, _, _, _, _]) rfl (fun nb => ?_) | refine reg_box (cs := [_, _, _, _, _, _, _, _]) rfl (fun nb => ?_))
        | ((with_reducible refine tag_alloc ?_); refine reg_alloc (fun nb => ?_))
        | refine reg_makeMap (fun nb => ?_)
        | refine reg_build rfl ?_
        | refine reg_defer rfl rfl ?_
        | ((with_reducible refine tag_conv ?_); first | refine reg_conv64 rfl (by omega) ?_ | refine reg_conv rfl ?_))
    | refine reg_nil ?_
    | refine run_condT rfl ?_
    | refine run_condF rfl ?_)
  by_cases hE : e ≠ 0
  · refine run_condT (bool_eq (decide_eq_true hE)) ?_
    repeat' (first
      | refine run_seq ?_
      | refine run_region (by kernel_rfl) ?_
      | refine run_drawA PP_mixed (by kernel_rfl) (by kernel_rfl) ?_
      | refine run_skip ?_
      | refine run_block ?_
      | refine run_inBlock ?_
      | refine run_inLoop ?_
      | refine run_exit rfl ?_
      | (refine reg_cons rfl ?_; first
          | ((with_reducible refine tag_guard ?_); first | refine reg_guard_in rfl ?_ | refine reg_guard_out rfl ?_ | refine reg_guard_none rfl ?_ | refine reg_guard rfl rfl (fun _ => ?_) (fun _ => ?_))
          | ((with_reducible refine tag_move ?_); refine reg_pure rfl ?_)
          | ((with_reducible refine tag_assign ?_); refine reg_pure rfl ?_)
          | ((with_reducible refine tag_load ?_); first | refine reg_load_sh 0 rfl rfl rfl ?_ | refine reg_load_sh 1 rfl rfl rfl ?_ | refine reg_load_sh 2 rfl rfl rfl ?_ | refine reg_load_sh 3 rfl rfl rfl ?_ | refine reg_load_sh 4 rfl rfl rfl ?_ | refine reg_load_sh 5 rfl rfl rfl ?_ | refine reg_load_pt 0 rfl rfl rfl ?_ | refine reg_load_pt 1 rfl rfl rfl ?_ | refine reg_load_pt 2 rfl rfl rfl ?_ | refine reg_load_pt 3 rfl rfl rfl ?_ | refine reg_load_pt 4 rfl rfl rfl ?_ | refine reg_load_pt 5 rfl rfl rfl ?_)
          | ((with_reducible refine tag_call ?_); first | refine reg_len_slice rfl ?_ | refine reg_max rfl rfl ?_ | refine reg_min rfl rfl ?_)
          | ((with_reducible refine tag_field ?_); refine reg_field rfl ?_)
          | ((with_reducible refine tag_extract ?_); refine reg_pure rfl ?_)
          | ((with_reducible refine tag_bin ?_); first | refine reg_add64 rfl rfl (by omega) ?_ | refine reg_sub64 rfl rfl (by omega) ?_ | refine reg_mul64 rfl rfl (by omega) ?_ | refine reg_eql rfl rfl ?_ | refine reg_neq rfl rfl ?_ | refine reg_lss rfl rfl ?_ | refine reg_leq rfl rfl ?_ | refine reg_gtr rfl rfl ?_ | refine reg_geq rfl rfl ?_ | refine reg_quo64 rfl rfl (by omega) ?_ | refine reg_rem64 rfl rfl (by omega) ?_ | refine reg_eq_nil rfl rfl ?_ | refine reg_eqB rfl rfl ?_ | refine reg_ne_nil rfl rfl ?_)
          | ((with_reducible refine tag_un ?_); first | refine reg_not rfl ?_ | refine reg_notB rfl ?_ | refine reg_neg64 rfl (by omega) ?_)
          | ((with_reducible refine tag_pick ?_); first | refine reg_pickT rfl ?_ | refine reg_pickF rfl ?_ | refine reg_pick rfl rfl rfl ?_)
          | ((with_reducible refine tag_store ?_); first | refine reg_store 0 rfl rfl rfl rfl rfl rfl rfl ?_ | refine reg_store 1 rfl rfl rfl rfl rfl rfl rfl ?_ | refine reg_store 2 rfl rfl rfl rfl rfl rfl rfl ?_ | refine reg_store 3 rfl rfl rfl rfl rfl rfl rfl ?_ | refine reg_store 4 rfl rfl rfl rfl rfl rfl rfl ?_ | refine reg_store 5 rfl rfl rfl rfl rfl rfl rfl ?_)
          | ((with_reducible refine tag_nilc ?_); refine reg_pure rfl ?_)
          | ((with_reducible refine tag_index ?_); first | refine reg_index_slice rfl rfl (by omega) ?_ | refine reg_index_array rfl rfl (by omega) ?_)
          | ((with_reducible refine tag_box ?_); first | refine reg_box (cs := [_]) rfl (fun nb => ?_) | refine reg_box (cs := [_, _]) rfl (fun nb => ?_) | refine reg_box (cs := [_, _, _]) rfl (fun nb => ?_) | refine reg_box (cs := [_, _, _, _]) rfl (fun nb => ?_) | refine reg_box (cs := [_, _, _, _, _]) rfl (fun nb => ?_) | refine reg_box (cs := [_, _, _, _, _, _]) rfl (fun nb => ?_) | refine reg_box (cs := [_, _, _, _, _, _, _]) rfl (fun nb => ?_) | refine reg_box (cs := [_, _, _, _, _, _, _, _]) rfl (fun nb => ?_))
          | ((with_reducible refine tag_alloc ?_); refine reg_alloc (fun nb => ?_))
          | refine reg_makeMap (fun nb => ?_)
          | refine reg_build rfl ?_
          | refine reg_defer rfl rfl ?_
          | ((with_reducible refine tag_conv ?_); first | refine reg_conv64 rfl (by omega) ?_ | refine reg_conv rfl ?_))
      | refine reg_nil ?_
      | refine run_condT rfl ?_
      | refine run_condF rfl ?_)
    refine run_nil ⟨rfl, ends_none rfl ?_⟩
    rw [if_pos hE, if_pos hE]; exact ⟨rfl, rfl⟩
  · refine run_condF (bool_eq (decide_eq_false hE)) ?_
    repeat' (first
      | refine run_seq ?_
      | refine run_region (by kernel_rfl) ?_
      | refine run_drawA PP_mixed (by kernel_rfl) (by kernel_rfl) ?_
      | refine run_skip ?_
      | refine run_block ?_
      | refine run_inBlock ?_
      | refine run_inLoop ?_
      | refine run_exit rfl ?_
      | (refine reg_cons rfl ?_; first
          | ((with_reducible refine tag_guard ?_); first | refine reg_guard_in rfl ?_ | refine reg_guard_out rfl ?_ | refine reg_guard_none rfl ?_ | refine reg_guard rfl rfl (fun _ => ?_) (fun _ => ?_))
          | ((with_reducible refine tag_move ?_); refine reg_pure rfl ?_)
          | ((with_reducible refine tag_assign ?_); refine reg_pure rfl ?_)
          | ((with_reducible refine tag_load ?_); first | refine reg_load_sh 0 rfl rfl rfl ?_ | refine reg_load_sh 1 rfl rfl rfl ?_ | refine reg_load_sh 2 rfl rfl rfl ?_ | refine reg_load_sh 3 rfl rfl rfl ?_ | refine reg_load_sh 4 rfl rfl rfl ?_ | refine reg_load_sh 5 rfl rfl rfl ?_ | refine reg_load_pt 0 rfl rfl rfl ?_ | refine reg_load_pt 1 rfl rfl rfl ?_ | refine reg_load_pt 2 rfl rfl rfl ?_ | refine reg_load_pt 3 rfl rfl rfl ?_ | refine reg_load_pt 4 rfl rfl rfl ?_ | refine reg_load_pt 5 rfl rfl rfl ?_)
          | ((with_reducible refine tag_call ?_); first | refine reg_len_slice rfl ?_ | refine reg_max rfl rfl ?_ | refine reg_min rfl rfl ?_)
          | ((with_reducible refine tag_field ?_); refine reg_field rfl ?_)
          | ((with_reducible refine tag_extract ?_); refine reg_pure rfl ?_)
          | ((with_reducible refine tag_bin ?_); first | refine reg_add64 rfl rfl (by omega) ?_ | refine reg_sub64 rfl rfl (by omega) ?_ | refine reg_mul64 rfl rfl (by omega) ?_ | refine reg_eql rfl rfl ?_ | refine reg_neq rfl rfl ?_ | refine reg_lss rfl rfl ?_ | refine reg_leq rfl rfl ?_ | refine reg_gtr rfl rfl ?_ | refine reg_geq rfl rfl ?_ | refine reg_quo64 rfl rfl (by omega) ?_ | refine reg_rem64 rfl rfl (by omega) ?_ | refine reg_eq_nil rfl rfl ?_ | refine reg_eqB rfl rfl ?_ | refine reg_ne_nil rfl rfl ?_)
          | ((with_reducible refine tag_un ?_); first | refine reg_not rfl ?_ | refine reg_notB rfl ?_ | refine reg_neg64 rfl (by omega) ?_)
          | ((with_reducible refine tag_pick ?_); first | refine reg_pickT rfl ?_ | refine reg_pickF rfl ?_ | refine reg_pick rfl rfl rfl ?_)
          | ((with_reducible refine tag_store ?_); first | refine reg_store 0 rfl rfl rfl rfl rfl rfl rfl ?_ | refine reg_store 1 rfl rfl rfl rfl rfl rfl rfl ?_ | refine reg_store 2 rfl rfl rfl rfl rfl rfl rfl ?_ | refine reg_store 3 rfl rfl rfl rfl rfl rfl rfl ?_ | refine reg_store 4 rfl rfl rfl rfl rfl rfl rfl ?_ | refine reg_store 5 rfl rfl rfl rfl rfl rfl rfl ?_)
          | ((with_reducible refine tag_nilc ?_); refine reg_pure rfl ?_)
          | ((with_reducible refine tag_index ?_); first | refine reg_index_slice rfl rfl (by omega) ?_ | refine reg_index_array rfl rfl (by omega) ?_)
          | ((with_reducible refine tag_box ?_); first | refine reg_box (cs := [_]) rfl (fun nb => ?_) | refine reg_box (cs := [_, _]) rfl (fun nb => ?_) | refine reg_box (cs := [_, _, _]) rfl (fun nb => ?_) | refine reg_box (cs := [_, _, _, _]) rfl (fun nb => ?_) | refine reg_box (cs := [_, _, _, _, _]) rfl (fun nb => ?_) | refine reg_box (cs := [_, _, _, _, _, _]) rfl (fun nb => ?_) | refine reg_box (cs := [_, _, _, _, _, _, _]) rfl (fun nb => ?_) | refine reg_box (cs := [_, _, _, _, _, _, _, _]) rfl (fun nb => ?_))
          | ((with_reducible refine tag_alloc ?_); refine reg_alloc (fun nb => ?_))
          | refine reg_makeMap (fun nb => ?_)
          | refine reg_build rfl ?_
          | refine reg_defer rfl rfl ?_
          | ((with_reducible refine tag_conv ?_); first | refine reg_conv64 rfl (by omega) ?_ | refine reg_conv rfl ?_))
      | refine reg_nil ?_
      | refine run_condT rfl ?_
      | refine run_condF rfl ?_)
    refine run_nil ⟨rfl, ends_none rfl ?_⟩
    rw [if_neg hE, if_neg hE]; exact ⟨rfl, rfl⟩

def popD (b3 b9 eb vb : Nat) : Deferred := { target := .fn (.func 33) (List.toArray [ptr b3, ptr b9, ptr eb, ptr vb]), args := List.toArray [] }

theorem pop_fin (w0 : World) (p b3 b9 eb vb : Nat) (mk : Int) (r : Int × Int × Sp) (x e : Int) (s' : Sp) (ρ : Env) (h4 : ρ 4 = ptr vb) (h5 : ρ 5 = ptr eb) (hr : r = (x, e, s')) :
    LeavesS PP w0 [] Tryd.f12 ρ [popD b3 b9 eb vb] [SpaceA p s', vV vb x, eV eb e, mV b9 mk, sV b3 p] (pushRV p (Ar.undoPop mk r)) := by
  subst hr
  refine leaves_defer1 [0, 1, 0, 1, 0] (pop1_specD w0 p s' mk e x b3 b9 eb vb) rfl rfl sub_nil ?_
  refine leaves_nil (ends_take [0] rfl (ends_two rfl (resOk_pt 2 h4 rfl rfl) (resOk_pt 1 h5 rfl rfl) ?_))
  refine ⟨rfl, ?_⟩
  unfold Ar.undoPop
  by_cases hE : e ≠ 0
  · simp only [if_pos hE]; exact ⟨rfl, rfl⟩
  · simp only [if_neg hE]; exact ⟨rfl, rfl⟩
end Go.Proofs.YtilnknokgflkjaaDoor

