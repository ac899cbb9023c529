import Derived.Test.YtilnknokgflkjaaDoorPart6
/- Lemmas and walks for the claims of this seat (own work): La3 La4 La5. -/
/- The walks of tells and done. -/
namespace Go.Proofs.YtilnknokgflkjaaDoor
open Go.Vc Sim
set_option maxHeartbeats 4000000
abbrev LA (v : Value) (l : List Int) : Asn := LstA 2 v l
theorem intsV_intL (l : List Int) : intsV l = intL l := rfl

theorem tells_spec (w0 : World) (hw : PowOk w0) (p : Nat) {K : Int} (hK : 0 ≤ K ∧ K ≤ 23) (l : List Int) (hl : l.length ≤ 200) (c : Nat) (v : Value) :
    FnE PP w0 [] 16 [spP p, arrV (a0 K), v] [ArrA p K l c, LA v l] (.bool true) [ArrA p K l c, LA v l] := by
  refine fn_of_run en16 fn16 rfl rfl rfl ?_ -- @@FN 16
  refine run_lend [1] rfl (fun sh' _ hrd => ?_)
  obtain ⟨a, cap, rfl, -⟩ := id hrd
  repeat (first | refine run_seq ?_ | refine run_block ?_ | refine run_skip ?_ | refine run_inBlock ?_)
  first | refine run_region (by kernel_rfl) ?_ | refine run_drawA PP_mixed (by kernel_rfl) (by kernel_rfl) ?_
  repeat' (refine reg_cons rfl ?_; first
        | ((with_reducible refine tag_guard ?_); first | refine reg_guard_in rfl ?_ | refine reg_guard_out rfl ?_ | refine reg_guard_none rfl ?_ | refine reg_guard rfl rfl (fun _ => ?_) (fun _ => ?_))
        | ((with_reducible refine tag_move ?_); refine reg_pure rfl ?_)
        | ((with_reducible refine tag_assign ?_); refine reg_pure rfl ?_)
        | ((with_reducible refine tag_load ?_); first | refine reg_load_sh 0 rfl rfl rfl ?_ | refine reg_load_sh 1 rfl rfl rfl ?_ | refine reg_load_sh 2 rfl rfl rfl ?_ | refine reg_load_sh 3 rfl rfl rfl ?_ | refine reg_load_sh 4 rfl rfl rfl ?_ | refine reg_load_sh 5 rfl rfl rfl ?_ | refine reg_load_pt 0 rfl rfl rfl ?_ | refine reg_load_pt 1 rfl rfl rfl ?_ | refine reg_load_pt 2 rfl rfl rfl ?_ | refine reg_load_pt 3 rfl rfl rfl ?_ | refine reg_load_pt 4 rfl rfl rfl ?_ | refine reg_load_pt 5 rfl rfl rfl ?_)
        | ((with_reducible refine tag_call ?_); refine reg_len_slice rfl ?_)
        | ((with_reducible refine tag_field ?_); refine reg_field rfl ?_)
        | ((with_reducible refine tag_extract ?_); refine reg_pure rfl ?_)
        | ((with_reducible refine tag_bin ?_); first | refine reg_eqlT rfl rfl (by omega) ?_ | refine reg_eqlF rfl rfl (by omega) ?_ | refine reg_add64 rfl rfl (by omega) ?_ | refine reg_sub64 rfl rfl (by omega) ?_ | refine reg_eql rfl rfl ?_ | refine reg_eq_nil rfl rfl ?_ | refine reg_eqB rfl rfl ?_)
        | ((with_reducible refine tag_pick ?_); first | refine reg_pickT rfl ?_ | refine reg_pickF rfl ?_ | refine reg_pick rfl rfl rfl ?_)
        | ((with_reducible refine tag_box ?_); first | refine reg_box (cs := [_]) rfl (fun nb => ?_) | refine reg_box (cs := [_, _]) rfl (fun nb => ?_) | refine reg_box (cs := [_, _, _]) rfl (fun nb => ?_) | refine reg_box (cs := [_, _, _, _]) rfl (fun nb => ?_) | refine reg_box (cs := [_, _, _, _, _]) rfl (fun nb => ?_) | refine reg_box (cs := [_, _, _, _, _, _]) rfl (fun nb => ?_) | refine reg_box (cs := [_, _, _, _, _, _, _]) rfl (fun nb => ?_) | refine reg_box (cs := [_, _, _, _, _, _, _, _]) rfl (fun nb => ?_)))
  all_goals refine reg_nil ?_
  all_goals repeat (first | refine run_seq ?_ | refine run_block ?_ | refine run_skip ?_ | refine run_inBlock ?_)
  refine run_share [1] rfl ?_
  repeat (first | refine run_seq ?_ | refine run_block ?_ | refine run_skip ?_ | refine run_inBlock ?_)
  first | refine run_region (by kernel_rfl) ?_ | refine run_drawA PP_mixed (by kernel_rfl) (by kernel_rfl) ?_
  repeat' (refine reg_cons rfl ?_; first
        | (refine reg_call [0] (walkA w0 hw p hK l c) rfl rfl rfl sub_nil ?_; rintro v Γ' ⟨a2, cap2, rfl, rfl⟩)
        | ((with_reducible refine tag_guard ?_); first | refine reg_guard_in rfl ?_ | refine reg_guard_out rfl ?_ | refine reg_guard_none rfl ?_ | refine reg_guard rfl rfl (fun _ => ?_) (fun _ => ?_))
        | ((with_reducible refine tag_move ?_); refine reg_pure rfl ?_)
        | ((with_reducible refine tag_assign ?_); refine reg_pure rfl ?_)
        | ((with_reducible refine tag_load ?_); first | refine reg_load_sh 0 rfl rfl rfl ?_ | refine reg_load_sh 1 rfl rfl rfl ?_ | refine reg_load_sh 2 rfl rfl rfl ?_ | refine reg_load_sh 3 rfl rfl rfl ?_ | refine reg_load_sh 4 rfl rfl rfl ?_ | refine reg_load_sh 5 rfl rfl rfl ?_ | refine reg_load_pt 0 rfl rfl rfl ?_ | refine reg_load_pt 1 rfl rfl rfl ?_ | refine reg_load_pt 2 rfl rfl rfl ?_ | refine reg_load_pt 3 rfl rfl rfl ?_ | refine reg_load_pt 4 rfl rfl rfl ?_ | refine reg_load_pt 5 rfl rfl rfl ?_)
        | ((with_reducible refine tag_call ?_); refine reg_len_slice rfl ?_)
        | ((with_reducible refine tag_field ?_); refine reg_field rfl ?_)
        | ((with_reducible refine tag_extract ?_); refine reg_pure rfl ?_)
        | ((with_reducible refine tag_bin ?_); first | refine reg_eqlT rfl rfl (by omega) ?_ | refine reg_eqlF rfl rfl (by omega) ?_ | refine reg_add64 rfl rfl (by omega) ?_ | refine reg_sub64 rfl rfl (by omega) ?_ | refine reg_eql rfl rfl ?_ | refine reg_eq_nil rfl rfl ?_ | refine reg_eqB rfl rfl ?_)
        | ((with_reducible refine tag_pick ?_); first | refine reg_pickT rfl ?_ | refine reg_pickF rfl ?_ | refine reg_pick rfl rfl rfl ?_)
        | ((with_reducible refine tag_box ?_); first | refine reg_box (cs := [_]) rfl (fun nb => ?_) | refine reg_box (cs := [_, _]) rfl (fun nb => ?_) | refine reg_box (cs := [_, _, _]) rfl (fun nb => ?_) | refine reg_box (cs := [_, _, _, _]) rfl (fun nb => ?_) | refine reg_box (cs := [_, _, _, _, _]) rfl (fun nb => ?_) | refine reg_box (cs := [_, _, _, _, _, _]) rfl (fun nb => ?_) | refine reg_box (cs := [_, _, _, _, _, _, _]) rfl (fun nb => ?_) | refine reg_box (cs := [_, _, _, _, _, _, _, _]) rfl (fun nb => ?_)))
  all_goals refine reg_nil ?_
  all_goals repeat (first | refine run_seq ?_ | refine run_block ?_ | refine run_skip ?_ | refine run_inBlock ?_)
  refine run_slots [(0, spP p), (2, .slice a l.length cap), (4, .pointer (some ⟨nb, 0, none⟩)), (7, .slice a2 l.length cap2), (8, .int .i64 0)] ⟨rfl, rfl, rfl, rfl, rfl, trivial⟩ (fun junk => ?_)
  refine run_close (A := LA (.slice a2 l.length cap2) l) [1] rfl (fun h hh => ⟨a2, cap2, rfl, Stars.one.1 hh⟩) ?_
  refine run_lend [0] rfl (fun sh2 hsub hrd2 => ?_)
  have hS : FnE PP w0 sh2 21 [.slice a2 l.length cap2, .slice a l.length cap] [] (.bool true) [] := by
    have h := same_spec w0 sh2 _ _ l l hrd2 (hrd.mono (fun p hp => hsub p (List.mem_cons_of_mem _ hp))) (by omega) (by omega)
    rw [decide_eq_true rfl] at h; exact h
  have hsh : (nb, Obj.cells #[.int .i64 3, .int .i64 24, .int .i64 K, .int .i64 8] 28 (0, 0)) ∈ sh2 := hsub _ (List.mem_cons_self ..)
  have hm : ∀ hF Γ w, Sh sh2 hF → St w0 hF Γ w → w.heap[nb]? = some (.cells (List.toArray [.int .i64 3, .int .i64 24, .int .i64 K, .int .i64 8]) 28 (0, 0)) := fun hF Γ w h1 h2 => (h2.frame (h1 _ hsh)).2
  have hL := leftA w0 hw p hK l c
  have hLn := lenA w0 hw p hK l c
  have hNd := nodesA w0 hw p hK l c 15 rfl
  have hRf := nodes_spec w0 l.length (by omega) l.length rfl
  have hTb := T_bd l.length (by omega)
  repeat (first | refine run_seq ?_ | refine run_block ?_ | refine run_skip ?_ | refine run_inBlock ?_)
  first | refine run_region (by kernel_rfl) ?_ | refine run_drawA PP_mixed (by kernel_rfl) (by kernel_rfl) ?_
  repeat' (refine reg_cons rfl ?_; first
        | refine reg_load_rd rfl hm rfl ?_
        | ((with_reducible refine tag_guard ?_); first | refine reg_guard_in rfl ?_ | refine reg_guard_out rfl ?_ | refine reg_guard_none rfl ?_ | refine reg_guard rfl rfl (fun _ => ?_) (fun _ => ?_))
        | ((with_reducible refine tag_move ?_); refine reg_pure rfl ?_)
        | ((with_reducible refine tag_assign ?_); refine reg_pure rfl ?_)
        | ((with_reducible refine tag_load ?_); first | refine reg_load_sh 0 rfl rfl rfl ?_ | refine reg_load_sh 1 rfl rfl rfl ?_ | refine reg_load_sh 2 rfl rfl rfl ?_ | refine reg_load_sh 3 rfl rfl rfl ?_ | refine reg_load_sh 4 rfl rfl rfl ?_ | refine reg_load_sh 5 rfl rfl rfl ?_ | refine reg_load_pt 0 rfl rfl rfl ?_ | refine reg_load_pt 1 rfl rfl rfl ?_ | refine reg_load_pt 2 rfl rfl rfl ?_ | refine reg_load_pt 3 rfl rfl rfl ?_ | refine reg_load_pt 4 rfl rfl rfl ?_ | refine reg_load_pt 5 rfl rfl rfl ?_)
        | ((with_reducible refine tag_call ?_); first | refine reg_callE [] hS rfl rfl rfl (fun _ h => h) rfl ?_ | refine reg_callE [0] hLn rfl rfl rfl sub_nil rfl ?_ | refine reg_callE [0] hL rfl rfl rfl sub_nil rfl ?_ | refine reg_callE [] hRf rfl rfl rfl sub_nil rfl ?_ | refine reg_callE [0] hNd rfl rfl rfl sub_nil rfl ?_ | refine reg_len_slice rfl ?_)
        | ((with_reducible refine tag_field ?_); refine reg_field rfl ?_)
        | ((with_reducible refine tag_extract ?_); refine reg_pure rfl ?_)
        | ((with_reducible refine tag_bin ?_); first | refine reg_eqlT rfl rfl (by omega) ?_ | refine reg_eqlF rfl rfl (by omega) ?_ | refine reg_add64 rfl rfl (by omega) ?_ | refine reg_sub64 rfl rfl (by omega) ?_ | refine reg_eql rfl rfl ?_ | refine reg_eq_nil rfl rfl ?_ | refine reg_eqB rfl rfl ?_)
        | ((with_reducible refine tag_pick ?_); first | refine reg_pickT rfl ?_ | refine reg_pickF rfl ?_ | refine reg_pick rfl rfl rfl ?_)
        | ((with_reducible refine tag_box ?_); first | refine reg_box (cs := [_]) rfl (fun nb => ?_) | refine reg_box (cs := [_, _]) rfl (fun nb => ?_) | refine reg_box (cs := [_, _, _]) rfl (fun nb => ?_) | refine reg_box (cs := [_, _, _, _]) rfl (fun nb => ?_) | refine reg_box (cs := [_, _, _, _, _]) rfl (fun nb => ?_) | refine reg_box (cs := [_, _, _, _, _, _]) rfl (fun nb => ?_) | refine reg_box (cs := [_, _, _, _, _, _, _]) rfl (fun nb => ?_) | refine reg_box (cs := [_, _, _, _, _, _, _, _]) rfl (fun nb => ?_)))
  all_goals refine reg_nil ?_
  all_goals repeat (first | refine run_seq ?_ | refine run_block ?_ | refine run_skip ?_ | refine run_inBlock ?_)
  refine run_ret (leaves_nil (ends_take [0, 1] rfl (ends_one rfl rfl ⟨rfl, rfl, rfl⟩)))
end Go.Proofs.YtilnknokgflkjaaDoor

/- The walk of done. -/
namespace Sim
structure Act39 where
  kind : Int
  i : Int
  j : Int
  v : Int
def Act39.ok (x : Act39) : Prop := (0 ≤ x.kind ∧ x.kind ≤ 255) ∧ Go.Vc.i64P x.i ∧ Go.Vc.i64P x.j ∧ Go.Vc.i64P x.v
def Act39.cells (x : Act39) : List Go.Value := [.int .u8 x.kind, .int .i64 x.i, .int .i64 x.j, .int .i64 x.v]
def stepL (K : Int) (l : List Int) (x : Act39) : List Int :=
  if x.kind % 7 = 3 then l.dropLast
  else if x.kind % 7 = 4 then l
  else if x.kind % 7 = 5 then (if 0 ≤ x.i ∧ x.i < l.length then l.set x.i.toNat x.v else l)
  else if x.kind % 7 = 6 then (if (0 ≤ x.i ∧ x.i < l.length) ∧ (0 ≤ x.j ∧ x.j < l.length) then (l.set x.i.toNat (l.getD x.j.toNat 0)).set x.j.toNat (l.getD x.i.toNat 0) else l)
  else if (T (l.length + 1) : Int) ≤ K then l ++ [x.v] else l
end Sim
namespace Go.Proofs.YtilnknokgflkjaaDoor
open Go.Vc Sim
set_option maxHeartbeats 4000000
theorem nil_or_snoc (l : List Int) : l = [] ∨ ∃ l' y, l = l' ++ [y] := by
  rcases List.eq_nil_or_concat l with h | ⟨l', y, h⟩
  · exact .inl h
  · exact .inr ⟨l', y, by rw [h]; simp⟩
theorem tmod7 {m : Int} (h : 0 ≤ m) : m.tmod 7 = m % 7 := Int.tmod_eq_emod_of_nonneg h

theorem done_spec (w0 : World) (hw : PowOk w0) (p : Nat) {K : Int} (hK : 0 ≤ K ∧ K ≤ 23) (l : List Int) (hl : l.length ≤ 200) (c : Nat) (v : Value) (x : Act39) (hx : x.ok) :
    Vc.Fn PP w0 [] 15 [spP p, arrV (a0 K), v, .agg (List.toArray x.cells)] [ArrA p K l (c + 1), LA v l]
      fun r Γ => ∃ v' c', c ≤ c' ∧ r = .tuple #[v', .bool true] ∧ Γ = [ArrA p K (stepL K l x) c', LA v' (stepL K l x)] := by
  obtain ⟨hx1, hx2, hx3, hx4⟩ := hx
  refine fn_of_run en15 fn15 rfl rfl rfl ?_ -- @@FN 15
  refine run_lend [1] rfl (fun sh' _ hrd => ?_)
  obtain ⟨a, cap, rfl, -⟩ := id hrd
  have hq := tmod7 (m := x.kind) (by omega)
  repeat (first | refine run_seq ?_ | refine run_block ?_ | refine run_skip ?_ | refine run_inBlock ?_)
  first | refine run_region (by kernel_rfl) ?_ | refine run_drawA PP_mixed (by kernel_rfl) (by kernel_rfl) ?_
  repeat' (refine reg_cons rfl ?_; first
        | ((with_reducible refine tag_guard ?_); first | refine reg_guard_in rfl ?_ | refine reg_guard_out rfl ?_ | refine reg_guard_none rfl ?_ | refine reg_guard rfl rfl (fun _ => ?_) (fun _ => ?_))
        | ((with_reducible refine tag_move ?_); refine reg_pure rfl ?_)
        | ((with_reducible refine tag_assign ?_); refine reg_pure rfl ?_)
        | ((with_reducible refine tag_load ?_); first | refine reg_load_sh 0 rfl rfl rfl ?_ | refine reg_load_sh 1 rfl rfl rfl ?_ | refine reg_load_sh 2 rfl rfl rfl ?_ | refine reg_load_sh 3 rfl rfl rfl ?_ | refine reg_load_sh 4 rfl rfl rfl ?_ | refine reg_load_sh 5 rfl rfl rfl ?_ | refine reg_load_pt 0 rfl rfl rfl ?_ | refine reg_load_pt 1 rfl rfl rfl ?_ | refine reg_load_pt 2 rfl rfl rfl ?_ | refine reg_load_pt 3 rfl rfl rfl ?_ | refine reg_load_pt 4 rfl rfl rfl ?_ | refine reg_load_pt 5 rfl rfl rfl ?_)
        | ((with_reducible refine tag_call ?_); refine reg_len_slice rfl ?_)
        | ((with_reducible refine tag_field ?_); refine reg_field rfl ?_)
        | ((with_reducible refine tag_extract ?_); refine reg_pure rfl ?_)
        | ((with_reducible refine tag_bin ?_); first | refine reg_eqlT rfl rfl (by omega) ?_ | refine reg_eqlF rfl rfl (by omega) ?_ | refine reg_lssT rfl rfl (by omega) ?_ | refine reg_lssF rfl rfl (by omega) ?_ | refine reg_gtrT rfl rfl (by omega) ?_ | refine reg_gtrF rfl rfl (by omega) ?_ | refine reg_geqT rfl rfl (by omega) ?_ | refine reg_geqF rfl rfl (by omega) ?_ | refine reg_add64 rfl rfl (by omega) ?_ | refine reg_sub64 rfl rfl (by omega) ?_ | refine reg_eql rfl rfl ?_ | refine reg_lss rfl rfl ?_ | refine reg_gtr rfl rfl ?_ | refine reg_geq rfl rfl ?_ | refine reg_rem64 rfl rfl (by omega) ?_ | refine reg_eq_nil rfl rfl ?_ | refine reg_eqB rfl rfl ?_)
        | ((with_reducible refine tag_un ?_); first | refine reg_not rfl ?_ | refine reg_notB rfl ?_)
        | ((with_reducible refine tag_pick ?_); first | refine reg_pickT rfl ?_ | refine reg_pickF rfl ?_ | refine reg_pick rfl rfl rfl ?_)
        | ((with_reducible refine tag_index ?_); first | refine reg_index_slice rfl rfl (by omega) ?_ | refine reg_index_array rfl rfl (by omega) ?_)
        | ((with_reducible refine tag_box ?_); first | refine reg_box (cs := [_]) rfl (fun nb => ?_) | refine reg_box (cs := [_, _]) rfl (fun nb => ?_) | refine reg_box (cs := [_, _, _]) rfl (fun nb => ?_) | refine reg_box (cs := [_, _, _, _]) rfl (fun nb => ?_) | refine reg_box (cs := [_, _, _, _, _]) rfl (fun nb => ?_) | refine reg_box (cs := [_, _, _, _, _, _]) rfl (fun nb => ?_) | refine reg_box (cs := [_, _, _, _, _, _, _]) rfl (fun nb => ?_) | refine reg_box (cs := [_, _, _, _, _, _, _, _]) rfl (fun nb => ?_)))
  all_goals refine reg_nil ?_
  all_goals repeat (first | refine run_seq ?_ | refine run_block ?_ | refine run_skip ?_ | refine run_inBlock ?_)
  rename_i b5
  revert nb; intro b7
  refine run_share [1] rfl ?_
  refine run_share [1] rfl ?_
  repeat (first | refine run_seq ?_ | refine run_block ?_ | refine run_skip ?_ | refine run_inBlock ?_)
  first | refine run_region (by kernel_rfl) ?_ | refine run_drawA PP_mixed (by kernel_rfl) (by kernel_rfl) ?_
  repeat' (refine reg_cons rfl ?_; first
        | ((with_reducible refine tag_guard ?_); first | refine reg_guard_in rfl ?_ | refine reg_guard_out rfl ?_ | refine reg_guard_none rfl ?_ | refine reg_guard rfl rfl (fun _ => ?_) (fun _ => ?_))
        | ((with_reducible refine tag_move ?_); refine reg_pure rfl ?_)
        | ((with_reducible refine tag_assign ?_); refine reg_pure rfl ?_)
        | ((with_reducible refine tag_load ?_); first | refine reg_load_sh 0 rfl rfl rfl ?_ | refine reg_load_sh 1 rfl rfl rfl ?_ | refine reg_load_sh 2 rfl rfl rfl ?_ | refine reg_load_sh 3 rfl rfl rfl ?_ | refine reg_load_sh 4 rfl rfl rfl ?_ | refine reg_load_sh 5 rfl rfl rfl ?_ | refine reg_load_pt 0 rfl rfl rfl ?_ | refine reg_load_pt 1 rfl rfl rfl ?_ | refine reg_load_pt 2 rfl rfl rfl ?_ | refine reg_load_pt 3 rfl rfl rfl ?_ | refine reg_load_pt 4 rfl rfl rfl ?_ | refine reg_load_pt 5 rfl rfl rfl ?_)
        | ((with_reducible refine tag_call ?_); refine reg_len_slice rfl ?_)
        | ((with_reducible refine tag_field ?_); refine reg_field rfl ?_)
        | ((with_reducible refine tag_extract ?_); refine reg_pure rfl ?_)
        | ((with_reducible refine tag_bin ?_); first | refine reg_eqlT rfl rfl (by omega) ?_ | refine reg_eqlF rfl rfl (by omega) ?_ | refine reg_lssT rfl rfl (by omega) ?_ | refine reg_lssF rfl rfl (by omega) ?_ | refine reg_gtrT rfl rfl (by omega) ?_ | refine reg_gtrF rfl rfl (by omega) ?_ | refine reg_geqT rfl rfl (by omega) ?_ | refine reg_geqF rfl rfl (by omega) ?_ | refine reg_add64 rfl rfl (by omega) ?_ | refine reg_sub64 rfl rfl (by omega) ?_ | refine reg_eql rfl rfl ?_ | refine reg_lss rfl rfl ?_ | refine reg_gtr rfl rfl ?_ | refine reg_geq rfl rfl ?_ | refine reg_rem64 rfl rfl (by omega) ?_ | refine reg_eq_nil rfl rfl ?_ | refine reg_eqB rfl rfl ?_)
        | ((with_reducible refine tag_un ?_); first | refine reg_not rfl ?_ | refine reg_notB rfl ?_)
        | ((with_reducible refine tag_pick ?_); first | refine reg_pickT rfl ?_ | refine reg_pickF rfl ?_ | refine reg_pick rfl rfl rfl ?_)
        | ((with_reducible refine tag_index ?_); first | refine reg_index_slice rfl rfl (by omega) ?_ | refine reg_index_array rfl rfl (by omega) ?_)
        | ((with_reducible refine tag_box ?_); first | refine reg_box (cs := [_]) rfl (fun nb => ?_) | refine reg_box (cs := [_, _]) rfl (fun nb => ?_) | refine reg_box (cs := [_, _, _]) rfl (fun nb => ?_) | refine reg_box (cs := [_, _, _, _]) rfl (fun nb => ?_) | refine reg_box (cs := [_, _, _, _, _]) rfl (fun nb => ?_) | refine reg_box (cs := [_, _, _, _, _, _]) rfl (fun nb => ?_) | refine reg_box (cs := [_, _, _, _, _, _, _]) rfl (fun nb => ?_) | refine reg_box (cs := [_, _, _, _, _, _, _, _]) rfl (fun nb => ?_)))
  all_goals refine reg_nil ?_
  all_goals repeat (first | refine run_seq ?_ | refine run_block ?_ | refine run_skip ?_ | refine run_inBlock ?_)
  refine run_slots [(0, spP p), (2, .slice a l.length cap), (5, .pointer (some ⟨b5, 0, none⟩)), (7, .pointer (some ⟨b7, 0, none⟩)), (9, .bool false), (10, .int .i64 l.length)] ⟨rfl, rfl, rfl, rfl, rfl, rfl, trivial⟩ (fun junk => ?_)
  refine run_bind_eq (l' := [(0, spP p), (2, .slice a l.length cap), (5, .pointer (some ⟨b5, 0, none⟩)), (7, .pointer (some ⟨b7, 0, none⟩)), (9, .bool false), (10, .int .i64 l.length), (11, .bool (decide (0 ≤ x.i ∧ x.i < l.length)))]) (Γ' := [ArrA p K l (c + 1)]) ?_ ?_
  · by_cases h0 : 0 ≤ x.i
    · by_cases h1 : x.i < l.length
      · repeat' (first
          | refine run_seq ?_
          | refine run_region (by kernel_rfl) ?_
          | refine run_drawA PP_mixed (by kernel_rfl) (by kernel_rfl) ?_
          | refine run_skip ?_
          | refine run_block ?_
          | refine run_inBlock ?_
          | refine run_inLoop ?_
          | refine run_exit rfl ?_
          | (refine reg_cons rfl ?_; first
              | ((with_reducible refine tag_guard ?_); first | refine reg_guard_in rfl ?_ | refine reg_guard_out rfl ?_ | refine reg_guard_none rfl ?_ | refine reg_guard rfl rfl (fun _ => ?_) (fun _ => ?_))
              | ((with_reducible refine tag_move ?_); refine reg_pure rfl ?_)
              | ((with_reducible refine tag_assign ?_); refine reg_pure rfl ?_)
              | ((with_reducible refine tag_load ?_); first | refine reg_load_sh 0 rfl rfl rfl ?_ | refine reg_load_sh 1 rfl rfl rfl ?_ | refine reg_load_sh 2 rfl rfl rfl ?_ | refine reg_load_sh 3 rfl rfl rfl ?_ | refine reg_load_sh 4 rfl rfl rfl ?_ | refine reg_load_sh 5 rfl rfl rfl ?_ | refine reg_load_pt 0 rfl rfl rfl ?_ | refine reg_load_pt 1 rfl rfl rfl ?_ | refine reg_load_pt 2 rfl rfl rfl ?_ | refine reg_load_pt 3 rfl rfl rfl ?_ | refine reg_load_pt 4 rfl rfl rfl ?_ | refine reg_load_pt 5 rfl rfl rfl ?_)
              | ((with_reducible refine tag_call ?_); refine reg_len_slice rfl ?_)
              | ((with_reducible refine tag_field ?_); refine reg_field rfl ?_)
              | ((with_reducible refine tag_extract ?_); refine reg_pure rfl ?_)
              | ((with_reducible refine tag_bin ?_); first | refine reg_eqlT rfl rfl (by omega) ?_ | refine reg_eqlF rfl rfl (by omega) ?_ | refine reg_lssT rfl rfl (by omega) ?_ | refine reg_lssF rfl rfl (by omega) ?_ | refine reg_gtrT rfl rfl (by omega) ?_ | refine reg_gtrF rfl rfl (by omega) ?_ | refine reg_geqT rfl rfl (by omega) ?_ | refine reg_geqF rfl rfl (by omega) ?_ | refine reg_add64 rfl rfl (by omega) ?_ | refine reg_sub64 rfl rfl (by omega) ?_ | refine reg_eql rfl rfl ?_ | refine reg_lss rfl rfl ?_ | refine reg_gtr rfl rfl ?_ | refine reg_geq rfl rfl ?_ | refine reg_rem64 rfl rfl (by omega) ?_ | refine reg_eq_nil rfl rfl ?_ | refine reg_eqB rfl rfl ?_)
              | ((with_reducible refine tag_un ?_); first | refine reg_not rfl ?_ | refine reg_notB rfl ?_)
              | ((with_reducible refine tag_pick ?_); first | refine reg_pickT rfl ?_ | refine reg_pickF rfl ?_ | refine reg_pick rfl rfl rfl ?_)
              | ((with_reducible refine tag_index ?_); first | refine reg_index_slice rfl rfl (by omega) ?_ | refine reg_index_array rfl rfl (by omega) ?_)
              | ((with_reducible refine tag_box ?_); first | refine reg_box (cs := [_]) rfl (fun nb => ?_) | refine reg_box (cs := [_, _]) rfl (fun nb => ?_) | refine reg_box (cs := [_, _, _]) rfl (fun nb => ?_) | refine reg_box (cs := [_, _, _, _]) rfl (fun nb => ?_) | refine reg_box (cs := [_, _, _, _, _]) rfl (fun nb => ?_) | refine reg_box (cs := [_, _, _, _, _, _]) rfl (fun nb => ?_) | refine reg_box (cs := [_, _, _, _, _, _, _]) rfl (fun nb => ?_) | refine reg_box (cs := [_, _, _, _, _, _, _, _]) rfl (fun nb => ?_)))
          | refine reg_nil ?_
          | refine run_condT rfl ?_
          | refine run_condF rfl ?_)
        refine cut_end ⟨rfl, ⟨rfl, rfl, rfl, rfl, rfl, rfl, bool_eq (decide_eq_true ⟨h0, h1⟩).symm, trivial⟩, rfl⟩
      · repeat' (first
          | refine run_seq ?_
          | refine run_region (by kernel_rfl) ?_
          | refine run_drawA PP_mixed (by kernel_rfl) (by kernel_rfl) ?_
          | refine run_skip ?_
          | refine run_block ?_
          | refine run_inBlock ?_
          | refine run_inLoop ?_
          | refine run_exit rfl ?_
          | (refine reg_cons rfl ?_; first
              | ((with_reducible refine tag_guard ?_); first | refine reg_guard_in rfl ?_ | refine reg_guard_out rfl ?_ | refine reg_guard_none rfl ?_ | refine reg_guard rfl rfl (fun _ => ?_) (fun _ => ?_))
              | ((with_reducible refine tag_move ?_); refine reg_pure rfl ?_)
              | ((with_reducible refine tag_assign ?_); refine reg_pure rfl ?_)
              | ((with_reducible refine tag_load ?_); first | refine reg_load_sh 0 rfl rfl rfl ?_ | refine reg_load_sh 1 rfl rfl rfl ?_ | refine reg_load_sh 2 rfl rfl rfl ?_ | refine reg_load_sh 3 rfl rfl rfl ?_ | refine reg_load_sh 4 rfl rfl rfl ?_ | refine reg_load_sh 5 rfl rfl rfl ?_ | refine reg_load_pt 0 rfl rfl rfl ?_ | refine reg_load_pt 1 rfl rfl rfl ?_ | refine reg_load_pt 2 rfl rfl rfl ?_ | refine reg_load_pt 3 rfl rfl rfl ?_ | refine reg_load_pt 4 rfl rfl rfl ?_ | refine reg_load_pt 5 rfl rfl rfl ?_)
              | ((with_reducible refine tag_call ?_); refine reg_len_slice rfl ?_)
              | ((with_reducible refine tag_field ?_); refine reg_field rfl ?_)
              | ((with_reducible refine tag_extract ?_); refine reg_pure rfl ?_)
              | ((with_reducible refine tag_bin ?_); first | refine reg_eqlT rfl rfl (by omega) ?_ | refine reg_eqlF rfl rfl (by omega) ?_ | refine reg_lssT rfl rfl (by omega) ?_ | refine reg_lssF rfl rfl (by omega) ?_ | refine reg_gtrT rfl rfl (by omega) ?_ | refine reg_gtrF rfl rfl (by omega) ?_ | refine reg_geqT rfl rfl (by omega) ?_ | refine reg_geqF rfl rfl (by omega) ?_ | refine reg_add64 rfl rfl (by omega) ?_ | refine reg_sub64 rfl rfl (by omega) ?_ | refine reg_eql rfl rfl ?_ | refine reg_lss rfl rfl ?_ | refine reg_gtr rfl rfl ?_ | refine reg_geq rfl rfl ?_ | refine reg_rem64 rfl rfl (by omega) ?_ | refine reg_eq_nil rfl rfl ?_ | refine reg_eqB rfl rfl ?_)
              | ((with_reducible refine tag_un ?_); first | refine reg_not rfl ?_ | refine reg_notB rfl ?_)
              | ((with_reducible refine tag_pick ?_); first | refine reg_pickT rfl ?_ | refine reg_pickF rfl ?_ | refine reg_pick rfl rfl rfl ?_)
              | ((with_reducible refine tag_index ?_); first | refine reg_index_slice rfl rfl (by omega) ?_ | refine reg_index_array rfl rfl (by omega) ?_)
              | ((with_reducible refine tag_box ?_); first | refine reg_box (cs := [_]) rfl (fun nb => ?_) | refine reg_box (cs := [_, _]) rfl (fun nb => ?_) | refine reg_box (cs := [_, _, _]) rfl (fun nb => ?_) | refine reg_box (cs := [_, _, _, _]) rfl (fun nb => ?_) | refine reg_box (cs := [_, _, _, _, _]) rfl (fun nb => ?_) | refine reg_box (cs := [_, _, _, _, _, _]) rfl (fun nb => ?_) | refine reg_box (cs := [_, _, _, _, _, _, _]) rfl (fun nb => ?_) | refine reg_box (cs := [_, _, _, _, _, _, _, _]) rfl (fun nb => ?_)))
          | refine reg_nil ?_
          | refine run_condT rfl ?_
          | refine run_condF rfl ?_)
        refine cut_end ⟨rfl, ⟨rfl, rfl, rfl, rfl, rfl, rfl, bool_eq (decide_eq_false (fun h => h1 h.2)).symm, trivial⟩, rfl⟩
    · repeat' (first
        | refine run_seq ?_
        | refine run_region (by kernel_rfl) ?_
        | refine run_drawA PP_mixed (by kernel_rfl) (by kernel_rfl) ?_
        | refine run_skip ?_
        | refine run_block ?_
        | refine run_inBlock ?_
        | refine run_inLoop ?_
        | refine run_exit rfl ?_
        | (refine reg_cons rfl ?_; first
            | ((with_reducible refine tag_guard ?_); first | refine reg_guard_in rfl ?_ | refine reg_guard_out rfl ?_ | refine reg_guard_none rfl ?_ | refine reg_guard rfl rfl (fun _ => ?_) (fun _ => ?_))
            | ((with_reducible refine tag_move ?_); refine reg_pure rfl ?_)
            | ((with_reducible refine tag_assign ?_); refine reg_pure rfl ?_)
            | ((with_reducible refine tag_load ?_); first | refine reg_load_sh 0 rfl rfl rfl ?_ | refine reg_load_sh 1 rfl rfl rfl ?_ | refine reg_load_sh 2 rfl rfl rfl ?_ | refine reg_load_sh 3 rfl rfl rfl ?_ | refine reg_load_sh 4 rfl rfl rfl ?_ | refine reg_load_sh 5 rfl rfl rfl ?_ | refine reg_load_pt 0 rfl rfl rfl ?_ | refine reg_load_pt 1 rfl rfl rfl ?_ | refine reg_load_pt 2 rfl rfl rfl ?_ | refine reg_load_pt 3 rfl rfl rfl ?_ | refine reg_load_pt 4 rfl rfl rfl ?_ | refine reg_load_pt 5 rfl rfl rfl ?_)
            | ((with_reducible refine tag_call ?_); refine reg_len_slice rfl ?_)
            | ((with_reducible refine tag_field ?_); refine reg_field rfl ?_)
            | ((with_reducible refine tag_extract ?_); refine reg_pure rfl ?_)
            | ((with_reducible refine tag_bin ?_); first | refine reg_eqlT rfl rfl (by omega) ?_ | refine reg_eqlF rfl rfl (by omega) ?_ | refine reg_lssT rfl rfl (by omega) ?_ | refine reg_lssF rfl rfl (by omega) ?_ | refine reg_gtrT rfl rfl (by omega) ?_ | refine reg_gtrF rfl rfl (by omega) ?_ | refine reg_geqT rfl rfl (by omega) ?_ | refine reg_geqF rfl rfl (by omega) ?_ | refine reg_add64 rfl rfl (by omega) ?_ | refine reg_sub64 rfl rfl (by omega) ?_ | refine reg_eql rfl rfl ?_ | refine reg_lss rfl rfl ?_ | refine reg_gtr rfl rfl ?_ | refine reg_geq rfl rfl ?_ | refine reg_rem64 rfl rfl (by omega) ?_ | refine reg_eq_nil rfl rfl ?_ | refine reg_eqB rfl rfl ?_)
            | ((with_reducible refine tag_un ?_); first | refine reg_not rfl ?_ | refine reg_notB rfl ?_)
            | ((with_reducible refine tag_pick ?_); first | refine reg_pickT rfl ?_ | refine reg_pickF rfl ?_ | refine reg_pick rfl rfl rfl ?_)
            | ((with_reducible refine tag_index ?_); first | refine reg_index_slice rfl rfl (by omega) ?_ | refine reg_index_array rfl rfl (by omega) ?_)
            | ((with_reducible refine tag_box ?_); first | refine reg_box (cs := [_]) rfl (fun nb => ?_) | refine reg_box (cs := [_, _]) rfl (fun nb => ?_) | refine reg_box (cs := [_, _, _]) rfl (fun nb => ?_) | refine reg_box (cs := [_, _, _, _]) rfl (fun nb => ?_) | refine reg_box (cs := [_, _, _, _, _]) rfl (fun nb => ?_) | refine reg_box (cs := [_, _, _, _, _, _]) rfl (fun nb => ?_) | refine reg_box (cs := [_, _, _, _, _, _, _]) rfl (fun nb => ?_) | refine reg_box (cs := [_, _, _, _, _, _, _, _]) rfl (fun nb => ?_)))
        | refine reg_nil ?_
        | refine run_condT rfl ?_
        | refine run_condF rfl ?_)
      refine cut_end ⟨rfl, ⟨rfl, rfl, rfl, rfl, rfl, rfl, bool_eq (decide_eq_false (fun h => h0 h.1)).symm, trivial⟩, rfl⟩
  intro junk2
  repeat (first | refine run_seq ?_ | refine run_block ?_ | refine run_skip ?_ | refine run_inBlock ?_)
  first | refine run_region (by kernel_rfl) ?_ | refine run_drawA PP_mixed (by kernel_rfl) (by kernel_rfl) ?_
  repeat' (refine reg_cons rfl ?_; first
        | (refine reg_rem rfl rfl (by decide) ?_; rw [hq])
        | ((with_reducible refine tag_guard ?_); first | refine reg_guard_in rfl ?_ | refine reg_guard_out rfl ?_ | refine reg_guard_none rfl ?_ | refine reg_guard rfl rfl (fun _ => ?_) (fun _ => ?_))
        | ((with_reducible refine tag_move ?_); refine reg_pure rfl ?_)
        | ((with_reducible refine tag_assign ?_); refine reg_pure rfl ?_)
        | ((with_reducible refine tag_load ?_); first | refine reg_load_sh 0 rfl rfl rfl ?_ | refine reg_load_sh 1 rfl rfl rfl ?_ | refine reg_load_sh 2 rfl rfl rfl ?_ | refine reg_load_sh 3 rfl rfl rfl ?_ | refine reg_load_sh 4 rfl rfl rfl ?_ | refine reg_load_sh 5 rfl rfl rfl ?_ | refine reg_load_pt 0 rfl rfl rfl ?_ | refine reg_load_pt 1 rfl rfl rfl ?_ | refine reg_load_pt 2 rfl rfl rfl ?_ | refine reg_load_pt 3 rfl rfl rfl ?_ | refine reg_load_pt 4 rfl rfl rfl ?_ | refine reg_load_pt 5 rfl rfl rfl ?_)
        | ((with_reducible refine tag_call ?_); refine reg_len_slice rfl ?_)
        | ((with_reducible refine tag_field ?_); refine reg_field rfl ?_)
        | ((with_reducible refine tag_extract ?_); refine reg_pure rfl ?_)
        | ((with_reducible refine tag_bin ?_); first | refine reg_eqlT rfl rfl (by omega) ?_ | refine reg_eqlF rfl rfl (by omega) ?_ | refine reg_lssT rfl rfl (by omega) ?_ | refine reg_lssF rfl rfl (by omega) ?_ | refine reg_gtrT rfl rfl (by omega) ?_ | refine reg_gtrF rfl rfl (by omega) ?_ | refine reg_geqT rfl rfl (by omega) ?_ | refine reg_geqF rfl rfl (by omega) ?_ | refine reg_add64 rfl rfl (by omega) ?_ | refine reg_sub64 rfl rfl (by omega) ?_ | refine reg_eql rfl rfl ?_ | refine reg_lss rfl rfl ?_ | refine reg_gtr rfl rfl ?_ | refine reg_geq rfl rfl ?_ | refine reg_rem64 rfl rfl (by omega) ?_ | refine reg_eq_nil rfl rfl ?_ | refine reg_eqB rfl rfl ?_)
        | ((with_reducible refine tag_un ?_); first | refine reg_not rfl ?_ | refine reg_notB rfl ?_)
        | ((with_reducible refine tag_pick ?_); first | refine reg_pickT rfl ?_ | refine reg_pickF rfl ?_ | refine reg_pick rfl rfl rfl ?_)
        | ((with_reducible refine tag_index ?_); first | refine reg_index_slice rfl rfl (by omega) ?_ | refine reg_index_array rfl rfl (by omega) ?_)
        | ((with_reducible refine tag_box ?_); first | refine reg_box (cs := [_]) rfl (fun nb => ?_) | refine reg_box (cs := [_, _]) rfl (fun nb => ?_) | refine reg_box (cs := [_, _, _]) rfl (fun nb => ?_) | refine reg_box (cs := [_, _, _, _]) rfl (fun nb => ?_) | refine reg_box (cs := [_, _, _, _, _]) rfl (fun nb => ?_) | refine reg_box (cs := [_, _, _, _, _, _]) rfl (fun nb => ?_) | refine reg_box (cs := [_, _, _, _, _, _, _]) rfl (fun nb => ?_) | refine reg_box (cs := [_, _, _, _, _, _, _, _]) rfl (fun nb => ?_)))
  all_goals refine reg_nil ?_
  all_goals repeat (first | refine run_seq ?_ | refine run_block ?_ | refine run_skip ?_ | refine run_inBlock ?_)
  have hst : stepL K l x = stepL K l x := rfl
  conv at hst => rhs; unfold stepL
  generalize stepL K l x = r at hst
  generalize x.kind % 7 = q at hst hq
  have same : r = l → ∀ {ρ : Env} {c' : Nat}, c ≤ c' → ρ 8 = .slice a l.length cap → ρ 9 = .bool true →
      LeavesS PP w0 [] Tryd.f15 ρ [] [ArrA p K l c', LA (.slice a l.length cap) l] (fun r' Γ => ∃ v' c', c ≤ c' ∧ r' = .tuple #[v', .bool true] ∧ Γ = [ArrA p K r c', LA v' r]) := by
    intro hr ρ c' hc h8 h9
    subst hr
    exact leaves_nil (ends_two rfl h8 h9 ⟨_, c', hc, rfl, rfl⟩)
  by_cases h3 : q = 3
  · rw [if_pos h3] at hst
    rcases nil_or_snoc l with rfl | ⟨l', y, rfl⟩
    · have hP := popA_none w0 hw p hK c
      repeat' (first
        | refine run_seq ?_
        | refine run_region (by kernel_rfl) ?_
        | refine run_drawA PP_mixed (by kernel_rfl) (by kernel_rfl) ?_
        | refine run_skip ?_
        | refine run_block ?_
        | refine run_inBlock ?_
        | refine run_inLoop ?_
        | refine run_exit rfl ?_
        | (refine reg_cons rfl ?_; first
            | ((with_reducible refine tag_guard ?_); first | refine reg_guard_in rfl ?_ | refine reg_guard_out rfl ?_ | refine reg_guard_none rfl ?_ | refine reg_guard rfl rfl (fun _ => ?_) (fun _ => ?_))
            | ((with_reducible refine tag_move ?_); refine reg_pure rfl ?_)
            | ((with_reducible refine tag_assign ?_); refine reg_pure rfl ?_)
            | ((with_reducible refine tag_load ?_); first | refine reg_load_sh 0 rfl rfl rfl ?_ | refine reg_load_sh 1 rfl rfl rfl ?_ | refine reg_load_sh 2 rfl rfl rfl ?_ | refine reg_load_sh 3 rfl rfl rfl ?_ | refine reg_load_sh 4 rfl rfl rfl ?_ | refine reg_load_sh 5 rfl rfl rfl ?_ | refine reg_load_pt 0 rfl rfl rfl ?_ | refine reg_load_pt 1 rfl rfl rfl ?_ | refine reg_load_pt 2 rfl rfl rfl ?_ | refine reg_load_pt 3 rfl rfl rfl ?_ | refine reg_load_pt 4 rfl rfl rfl ?_ | refine reg_load_pt 5 rfl rfl rfl ?_)
            | ((with_reducible refine tag_call ?_); first | refine reg_callE [0] hP rfl rfl rfl sub_nil rfl ?_ | refine reg_len_slice rfl ?_)
            | ((with_reducible refine tag_field ?_); refine reg_field rfl ?_)
            | ((with_reducible refine tag_extract ?_); refine reg_pure rfl ?_)
            | ((with_reducible refine tag_bin ?_); first | refine reg_eqlT rfl rfl (by omega) ?_ | refine reg_eqlF rfl rfl (by omega) ?_ | refine reg_lssT rfl rfl (by omega) ?_ | refine reg_lssF rfl rfl (by omega) ?_ | refine reg_gtrT rfl rfl (by omega) ?_ | refine reg_gtrF rfl rfl (by omega) ?_ | refine reg_geqT rfl rfl (by omega) ?_ | refine reg_geqF rfl rfl (by omega) ?_ | refine reg_add64 rfl rfl (by omega) ?_ | refine reg_sub64 rfl rfl (by omega) ?_ | refine reg_eql rfl rfl ?_ | refine reg_lss rfl rfl ?_ | refine reg_gtr rfl rfl ?_ | refine reg_geq rfl rfl ?_ | refine reg_rem64 rfl rfl (by omega) ?_ | refine reg_eq_nil rfl rfl ?_ | refine reg_eqB rfl rfl ?_)
            | ((with_reducible refine tag_un ?_); first | refine reg_not rfl ?_ | refine reg_notB rfl ?_)
            | ((with_reducible refine tag_pick ?_); first | refine reg_pickT rfl ?_ | refine reg_pickF rfl ?_ | refine reg_pick rfl rfl rfl ?_)
            | ((with_reducible refine tag_index ?_); first | refine reg_index_slice rfl rfl (by omega) ?_ | refine reg_index_array rfl rfl (by omega) ?_)
            | ((with_reducible refine tag_box ?_); first | refine reg_box (cs := [_]) rfl (fun nb => ?_) | refine reg_box (cs := [_, _]) rfl (fun nb => ?_) | refine reg_box (cs := [_, _, _]) rfl (fun nb => ?_) | refine reg_box (cs := [_, _, _, _]) rfl (fun nb => ?_) | refine reg_box (cs := [_, _, _, _, _]) rfl (fun nb => ?_) | refine reg_box (cs := [_, _, _, _, _, _]) rfl (fun nb => ?_) | refine reg_box (cs := [_, _, _, _, _, _, _]) rfl (fun nb => ?_) | refine reg_box (cs := [_, _, _, _, _, _, _, _]) rfl (fun nb => ?_)))
        | refine reg_nil ?_
        | refine run_condT rfl ?_
        | refine run_condF rfl ?_)
      exact run_ret (same (by simpa using hst) (Nat.le_refl _) rfl rfl)
    · have hP := popA w0 hw p hK l' c y
      have hlen : (l' ++ [y]).length = l'.length + 1 := by simp
      have hy : (l' ++ [y])[l'.length]? = some y := by simp
      obtain ⟨b1, o1, cc1, T1, fr1, rfl, g1, r1⟩ := hrd.at hy
      have hcap := hrd.cap
      repeat' (first
        | refine run_seq ?_
        | refine run_region (by kernel_rfl) ?_
        | refine run_drawA PP_mixed (by kernel_rfl) (by kernel_rfl) ?_
        | refine run_skip ?_
        | refine run_block ?_
        | refine run_inBlock ?_
        | refine run_inLoop ?_
        | refine run_exit rfl ?_
        | (refine reg_cons rfl ?_; first
            | refine reg_load_rd rfl (fun hF Γ w h1 h2 => g1 hF Γ w (fun p hp => h1 p (List.mem_cons_of_mem _ (List.mem_cons_of_mem _ hp))) h2) (r1 _ (by omega)) ?_
            | refine reg_slice2 rfl rfl (by omega) ?_
            | ((with_reducible refine tag_guard ?_); first | refine reg_guard_in rfl ?_ | refine reg_guard_out rfl ?_ | refine reg_guard_none rfl ?_ | refine reg_guard rfl rfl (fun _ => ?_) (fun _ => ?_))
            | ((with_reducible refine tag_move ?_); refine reg_pure rfl ?_)
            | ((with_reducible refine tag_assign ?_); refine reg_pure rfl ?_)
            | ((with_reducible refine tag_load ?_); first | refine reg_load_sh 0 rfl rfl rfl ?_ | refine reg_load_sh 1 rfl rfl rfl ?_ | refine reg_load_sh 2 rfl rfl rfl ?_ | refine reg_load_sh 3 rfl rfl rfl ?_ | refine reg_load_sh 4 rfl rfl rfl ?_ | refine reg_load_sh 5 rfl rfl rfl ?_ | refine reg_load_pt 0 rfl rfl rfl ?_ | refine reg_load_pt 1 rfl rfl rfl ?_ | refine reg_load_pt 2 rfl rfl rfl ?_ | refine reg_load_pt 3 rfl rfl rfl ?_ | refine reg_load_pt 4 rfl rfl rfl ?_ | refine reg_load_pt 5 rfl rfl rfl ?_)
            | ((with_reducible refine tag_call ?_); first | refine reg_callE [0] hP rfl rfl rfl sub_nil rfl ?_ | refine reg_len_slice rfl ?_)
            | ((with_reducible refine tag_field ?_); refine reg_field rfl ?_)
            | ((with_reducible refine tag_extract ?_); refine reg_pure rfl ?_)
            | ((with_reducible refine tag_bin ?_); first | refine reg_eqlT rfl rfl (by omega) ?_ | refine reg_eqlF rfl rfl (by omega) ?_ | refine reg_lssT rfl rfl (by omega) ?_ | refine reg_lssF rfl rfl (by omega) ?_ | refine reg_gtrT rfl rfl (by omega) ?_ | refine reg_gtrF rfl rfl (by omega) ?_ | refine reg_geqT rfl rfl (by omega) ?_ | refine reg_geqF rfl rfl (by omega) ?_ | refine reg_add64 rfl rfl (by omega) ?_ | refine reg_sub64 rfl rfl (by omega) ?_ | refine reg_eql rfl rfl ?_ | refine reg_lss rfl rfl ?_ | refine reg_gtr rfl rfl ?_ | refine reg_geq rfl rfl ?_ | refine reg_rem64 rfl rfl (by omega) ?_ | refine reg_eq_nil rfl rfl ?_ | refine reg_eqB rfl rfl ?_)
            | ((with_reducible refine tag_un ?_); first | refine reg_not rfl ?_ | refine reg_notB rfl ?_)
            | ((with_reducible refine tag_pick ?_); first | refine reg_pickT rfl ?_ | refine reg_pickF rfl ?_ | refine reg_pick rfl rfl rfl ?_)
            | ((with_reducible refine tag_index ?_); first | refine reg_index_slice rfl rfl (by omega) ?_ | refine reg_index_array rfl rfl (by omega) ?_)
            | ((with_reducible refine tag_box ?_); first | refine reg_box (cs := [_]) rfl (fun nb => ?_) | refine reg_box (cs := [_, _]) rfl (fun nb => ?_) | refine reg_box (cs := [_, _, _]) rfl (fun nb => ?_) | refine reg_box (cs := [_, _, _, _]) rfl (fun nb => ?_) | refine reg_box (cs := [_, _, _, _, _]) rfl (fun nb => ?_) | refine reg_box (cs := [_, _, _, _, _, _]) rfl (fun nb => ?_) | refine reg_box (cs := [_, _, _, _, _, _, _]) rfl (fun nb => ?_) | refine reg_box (cs := [_, _, _, _, _, _, _, _]) rfl (fun nb => ?_)))
        | refine reg_nil ?_
        | refine run_condT rfl ?_
        | refine run_condF rfl ?_)
      refine run_ret (leaves_nil (ends_conv (Γ' := [ArrA p K l' c, LA (.slice (some ⟨b1, o1, none⟩) (((l' ++ [y]).length : Int) - 1).toNat cap) l']) (fun h hh => stars_two (fun _ h => h) (fun g hg => ?_) hh) (ends_two rfl rfl rfl ⟨rfl, _, c, Nat.le_refl _, rfl, ?_⟩)))
      · have := LstA.cut (q := l'.length) hg (by omega) (((l' ++ [y]).length : Int) - 1).toNat (by omega)
        rw [List.take_left] at this; exact this
      · rw [List.dropLast_concat] at hst; rw [hst]; rfl
  rw [if_neg h3] at hst
  by_cases h4 : q = 4
  · rw [if_pos h4] at hst
    by_cases hin : 0 ≤ x.i ∧ x.i < l.length
    · rw [decide_eq_true hin]
      obtain ⟨k, hk⟩ : ∃ k : Nat, x.i = k := ⟨x.i.toNat, by omega⟩
      have hy : l[k]? = some l[k] := List.getElem?_eq_getElem (by omega)
      generalize l[k] = y at hy
      obtain ⟨b1, o1, cc1, T1, fr1, rfl, g1, r1⟩ := hrd.at hy
      have hG := getA w0 hw p hK l (c + 1) hy x.i hk
      repeat' (first
        | refine run_seq ?_
        | refine run_region (by kernel_rfl) ?_
        | refine run_drawA PP_mixed (by kernel_rfl) (by kernel_rfl) ?_
        | refine run_skip ?_
        | refine run_block ?_
        | refine run_inBlock ?_
        | refine run_inLoop ?_
        | refine run_exit rfl ?_
        | (refine reg_cons rfl ?_; first
            | refine reg_load_rd rfl (fun hF Γ w h1 h2 => g1 hF Γ w (fun p hp => h1 p (List.mem_cons_of_mem _ (List.mem_cons_of_mem _ hp))) h2) (r1 _ (by omega)) ?_
            | ((with_reducible refine tag_guard ?_); first | refine reg_guard_in rfl ?_ | refine reg_guard_out rfl ?_ | refine reg_guard_none rfl ?_ | refine reg_guard rfl rfl (fun _ => ?_) (fun _ => ?_))
            | ((with_reducible refine tag_move ?_); refine reg_pure rfl ?_)
            | ((with_reducible refine tag_assign ?_); refine reg_pure rfl ?_)
            | ((with_reducible refine tag_load ?_); first | refine reg_load_sh 0 rfl rfl rfl ?_ | refine reg_load_sh 1 rfl rfl rfl ?_ | refine reg_load_sh 2 rfl rfl rfl ?_ | refine reg_load_sh 3 rfl rfl rfl ?_ | refine reg_load_sh 4 rfl rfl rfl ?_ | refine reg_load_sh 5 rfl rfl rfl ?_ | refine reg_load_pt 0 rfl rfl rfl ?_ | refine reg_load_pt 1 rfl rfl rfl ?_ | refine reg_load_pt 2 rfl rfl rfl ?_ | refine reg_load_pt 3 rfl rfl rfl ?_ | refine reg_load_pt 4 rfl rfl rfl ?_ | refine reg_load_pt 5 rfl rfl rfl ?_)
            | ((with_reducible refine tag_call ?_); first | refine reg_callE [0] hG rfl rfl rfl sub_nil rfl ?_ | refine reg_len_slice rfl ?_)
            | ((with_reducible refine tag_field ?_); refine reg_field rfl ?_)
            | ((with_reducible refine tag_extract ?_); refine reg_pure rfl ?_)
            | ((with_reducible refine tag_bin ?_); first | refine reg_eqlT rfl rfl (by omega) ?_ | refine reg_eqlF rfl rfl (by omega) ?_ | refine reg_lssT rfl rfl (by omega) ?_ | refine reg_lssF rfl rfl (by omega) ?_ | refine reg_gtrT rfl rfl (by omega) ?_ | refine reg_gtrF rfl rfl (by omega) ?_ | refine reg_geqT rfl rfl (by omega) ?_ | refine reg_geqF rfl rfl (by omega) ?_ | refine reg_add64 rfl rfl (by omega) ?_ | refine reg_sub64 rfl rfl (by omega) ?_ | refine reg_eql rfl rfl ?_ | refine reg_lss rfl rfl ?_ | refine reg_gtr rfl rfl ?_ | refine reg_geq rfl rfl ?_ | refine reg_rem64 rfl rfl (by omega) ?_ | refine reg_eq_nil rfl rfl ?_ | refine reg_eqB rfl rfl ?_)
            | ((with_reducible refine tag_un ?_); first | refine reg_not rfl ?_ | refine reg_notB rfl ?_)
            | ((with_reducible refine tag_pick ?_); first | refine reg_pickT rfl ?_ | refine reg_pickF rfl ?_ | refine reg_pick rfl rfl rfl ?_)
            | ((with_reducible refine tag_index ?_); first | refine reg_index_slice rfl rfl (by omega) ?_ | refine reg_index_array rfl rfl (by omega) ?_)
            | ((with_reducible refine tag_box ?_); first | refine reg_box (cs := [_]) rfl (fun nb => ?_) | refine reg_box (cs := [_, _]) rfl (fun nb => ?_) | refine reg_box (cs := [_, _, _]) rfl (fun nb => ?_) | refine reg_box (cs := [_, _, _, _]) rfl (fun nb => ?_) | refine reg_box (cs := [_, _, _, _, _]) rfl (fun nb => ?_) | refine reg_box (cs := [_, _, _, _, _, _]) rfl (fun nb => ?_) | refine reg_box (cs := [_, _, _, _, _, _, _]) rfl (fun nb => ?_) | refine reg_box (cs := [_, _, _, _, _, _, _, _]) rfl (fun nb => ?_)))
        | refine reg_nil ?_
        | refine run_condT rfl ?_
        | refine run_condF rfl ?_)
      exact run_ret (same hst (Nat.le_succ _) rfl rfl)
    · rw [decide_eq_false hin]
      have hG := getA_out w0 hw p hK l (c + 1) (i := x.i) (by omega)
      repeat' (first
        | refine run_seq ?_
        | refine run_region (by kernel_rfl) ?_
        | refine run_drawA PP_mixed (by kernel_rfl) (by kernel_rfl) ?_
        | refine run_skip ?_
        | refine run_block ?_
        | refine run_inBlock ?_
        | refine run_inLoop ?_
        | refine run_exit rfl ?_
        | (refine reg_cons rfl ?_; first
            | ((with_reducible refine tag_guard ?_); first | refine reg_guard_in rfl ?_ | refine reg_guard_out rfl ?_ | refine reg_guard_none rfl ?_ | refine reg_guard rfl rfl (fun _ => ?_) (fun _ => ?_))
            | ((with_reducible refine tag_move ?_); refine reg_pure rfl ?_)
            | ((with_reducible refine tag_assign ?_); refine reg_pure rfl ?_)
            | ((with_reducible refine tag_load ?_); first | refine reg_load_sh 0 rfl rfl rfl ?_ | refine reg_load_sh 1 rfl rfl rfl ?_ | refine reg_load_sh 2 rfl rfl rfl ?_ | refine reg_load_sh 3 rfl rfl rfl ?_ | refine reg_load_sh 4 rfl rfl rfl ?_ | refine reg_load_sh 5 rfl rfl rfl ?_ | refine reg_load_pt 0 rfl rfl rfl ?_ | refine reg_load_pt 1 rfl rfl rfl ?_ | refine reg_load_pt 2 rfl rfl rfl ?_ | refine reg_load_pt 3 rfl rfl rfl ?_ | refine reg_load_pt 4 rfl rfl rfl ?_ | refine reg_load_pt 5 rfl rfl rfl ?_)
            | ((with_reducible refine tag_call ?_); first | refine reg_callE [0] hG rfl rfl rfl sub_nil rfl ?_ | refine reg_len_slice rfl ?_)
            | ((with_reducible refine tag_field ?_); refine reg_field rfl ?_)
            | ((with_reducible refine tag_extract ?_); refine reg_pure rfl ?_)
            | ((with_reducible refine tag_bin ?_); first | refine reg_eqlT rfl rfl (by omega) ?_ | refine reg_eqlF rfl rfl (by omega) ?_ | refine reg_lssT rfl rfl (by omega) ?_ | refine reg_lssF rfl rfl (by omega) ?_ | refine reg_gtrT rfl rfl (by omega) ?_ | refine reg_gtrF rfl rfl (by omega) ?_ | refine reg_geqT rfl rfl (by omega) ?_ | refine reg_geqF rfl rfl (by omega) ?_ | refine reg_add64 rfl rfl (by omega) ?_ | refine reg_sub64 rfl rfl (by omega) ?_ | refine reg_eql rfl rfl ?_ | refine reg_lss rfl rfl ?_ | refine reg_gtr rfl rfl ?_ | refine reg_geq rfl rfl ?_ | refine reg_rem64 rfl rfl (by omega) ?_ | refine reg_eq_nil rfl rfl ?_ | refine reg_eqB rfl rfl ?_)
            | ((with_reducible refine tag_un ?_); first | refine reg_not rfl ?_ | refine reg_notB rfl ?_)
            | ((with_reducible refine tag_pick ?_); first | refine reg_pickT rfl ?_ | refine reg_pickF rfl ?_ | refine reg_pick rfl rfl rfl ?_)
            | ((with_reducible refine tag_index ?_); first | refine reg_index_slice rfl rfl (by omega) ?_ | refine reg_index_array rfl rfl (by omega) ?_)
            | ((with_reducible refine tag_box ?_); first | refine reg_box (cs := [_]) rfl (fun nb => ?_) | refine reg_box (cs := [_, _]) rfl (fun nb => ?_) | refine reg_box (cs := [_, _, _]) rfl (fun nb => ?_) | refine reg_box (cs := [_, _, _, _]) rfl (fun nb => ?_) | refine reg_box (cs := [_, _, _, _, _]) rfl (fun nb => ?_) | refine reg_box (cs := [_, _, _, _, _, _]) rfl (fun nb => ?_) | refine reg_box (cs := [_, _, _, _, _, _, _]) rfl (fun nb => ?_) | refine reg_box (cs := [_, _, _, _, _, _, _, _]) rfl (fun nb => ?_)))
        | refine reg_nil ?_
        | refine run_condT rfl ?_
        | refine run_condF rfl ?_)
      exact run_ret (same hst (Nat.le_succ _) rfl rfl)
  rw [if_neg h4] at hst
  by_cases h5 : q = 5
  · rw [if_pos h5] at hst
    by_cases hin : 0 ≤ x.i ∧ x.i < l.length
    · rw [decide_eq_true hin]
      rw [if_pos hin] at hst
      obtain ⟨k, hk⟩ : ∃ k : Nat, x.i = k := ⟨x.i.toNat, by omega⟩
      have hkl : k < l.length := by omega
      have hy : l[k]? = some l[k] := List.getElem?_eq_getElem hkl
      generalize l[k] = y at hy
      obtain ⟨b1, o1, cc1, T1, fr1, rfl, g1, r1⟩ := hrd.at hy
      have hG := setA w0 hw p hK l c x.v hy x.i hk
      have hS := set_spec w0 sh' _ l hrd (by omega) k hkl x.i x.v hk
      rw [hk, Int.toNat_natCast] at hst
      repeat' (first
        | refine run_seq ?_
        | refine run_region (by kernel_rfl) ?_
        | refine run_drawA PP_mixed (by kernel_rfl) (by kernel_rfl) ?_
        | refine run_skip ?_
        | refine run_block ?_
        | refine run_inBlock ?_
        | refine run_inLoop ?_
        | refine run_exit rfl ?_
        | (refine reg_cons rfl ?_; first
            | refine reg_load_rd rfl (fun hF Γ w h1 h2 => g1 hF Γ w (fun p hp => h1 p (List.mem_cons_of_mem _ (List.mem_cons_of_mem _ hp))) h2) (r1 _ (by omega)) ?_
            | (refine reg_call [] hS rfl rfl rfl (fun p hp => List.mem_cons_of_mem _ (List.mem_cons_of_mem _ hp)) ?_; rintro v1 Γ1 rfl)
            | ((with_reducible refine tag_guard ?_); first | refine reg_guard_in rfl ?_ | refine reg_guard_out rfl ?_ | refine reg_guard_none rfl ?_ | refine reg_guard rfl rfl (fun _ => ?_) (fun _ => ?_))
            | ((with_reducible refine tag_move ?_); refine reg_pure rfl ?_)
            | ((with_reducible refine tag_assign ?_); refine reg_pure rfl ?_)
            | ((with_reducible refine tag_load ?_); first | refine reg_load_sh 0 rfl rfl rfl ?_ | refine reg_load_sh 1 rfl rfl rfl ?_ | refine reg_load_sh 2 rfl rfl rfl ?_ | refine reg_load_sh 3 rfl rfl rfl ?_ | refine reg_load_sh 4 rfl rfl rfl ?_ | refine reg_load_sh 5 rfl rfl rfl ?_ | refine reg_load_pt 0 rfl rfl rfl ?_ | refine reg_load_pt 1 rfl rfl rfl ?_ | refine reg_load_pt 2 rfl rfl rfl ?_ | refine reg_load_pt 3 rfl rfl rfl ?_ | refine reg_load_pt 4 rfl rfl rfl ?_ | refine reg_load_pt 5 rfl rfl rfl ?_)
            | ((with_reducible refine tag_call ?_); first | refine reg_callE [0] hG rfl rfl rfl sub_nil rfl ?_ | refine reg_len_slice rfl ?_)
            | ((with_reducible refine tag_field ?_); refine reg_field rfl ?_)
            | ((with_reducible refine tag_extract ?_); refine reg_pure rfl ?_)
            | ((with_reducible refine tag_bin ?_); first | refine reg_eqlT rfl rfl (by omega) ?_ | refine reg_eqlF rfl rfl (by omega) ?_ | refine reg_lssT rfl rfl (by omega) ?_ | refine reg_lssF rfl rfl (by omega) ?_ | refine reg_gtrT rfl rfl (by omega) ?_ | refine reg_gtrF rfl rfl (by omega) ?_ | refine reg_geqT rfl rfl (by omega) ?_ | refine reg_geqF rfl rfl (by omega) ?_ | refine reg_add64 rfl rfl (by omega) ?_ | refine reg_sub64 rfl rfl (by omega) ?_ | refine reg_eql rfl rfl ?_ | refine reg_lss rfl rfl ?_ | refine reg_gtr rfl rfl ?_ | refine reg_geq rfl rfl ?_ | refine reg_rem64 rfl rfl (by omega) ?_ | refine reg_eq_nil rfl rfl ?_ | refine reg_eqB rfl rfl ?_)
            | ((with_reducible refine tag_un ?_); first | refine reg_not rfl ?_ | refine reg_notB rfl ?_)
            | ((with_reducible refine tag_pick ?_); first | refine reg_pickT rfl ?_ | refine reg_pickF rfl ?_ | refine reg_pick rfl rfl rfl ?_)
            | ((with_reducible refine tag_index ?_); first | refine reg_index_slice rfl rfl (by omega) ?_ | refine reg_index_array rfl rfl (by omega) ?_)
            | ((with_reducible refine tag_box ?_); first | refine reg_box (cs := [_]) rfl (fun nb => ?_) | refine reg_box (cs := [_, _]) rfl (fun nb => ?_) | refine reg_box (cs := [_, _, _]) rfl (fun nb => ?_) | refine reg_box (cs := [_, _, _, _]) rfl (fun nb => ?_) | refine reg_box (cs := [_, _, _, _, _]) rfl (fun nb => ?_) | refine reg_box (cs := [_, _, _, _, _, _]) rfl (fun nb => ?_) | refine reg_box (cs := [_, _, _, _, _, _, _]) rfl (fun nb => ?_) | refine reg_box (cs := [_, _, _, _, _, _, _, _]) rfl (fun nb => ?_)))
        | refine reg_nil ?_
        | refine run_condT rfl ?_
        | refine run_condF rfl ?_)
      rw [← hst]
      exact run_ret (leaves_nil (ends_take [1, 0] rfl (ends_two rfl rfl rfl ⟨rfl, _, c, Nat.le_refl _, rfl, rfl⟩)))
    · rw [decide_eq_false hin]
      rw [if_neg hin] at hst
      have hG := setA_out w0 hw p hK l c (i := x.i) x.v (by omega)
      repeat' (first
        | refine run_seq ?_
        | refine run_region (by kernel_rfl) ?_
        | refine run_drawA PP_mixed (by kernel_rfl) (by kernel_rfl) ?_
        | refine run_skip ?_
        | refine run_block ?_
        | refine run_inBlock ?_
        | refine run_inLoop ?_
        | refine run_exit rfl ?_
        | (refine reg_cons rfl ?_; first
            | ((with_reducible refine tag_guard ?_); first | refine reg_guard_in rfl ?_ | refine reg_guard_out rfl ?_ | refine reg_guard_none rfl ?_ | refine reg_guard rfl rfl (fun _ => ?_) (fun _ => ?_))
            | ((with_reducible refine tag_move ?_); refine reg_pure rfl ?_)
            | ((with_reducible refine tag_assign ?_); refine reg_pure rfl ?_)
            | ((with_reducible refine tag_load ?_); first | refine reg_load_sh 0 rfl rfl rfl ?_ | refine reg_load_sh 1 rfl rfl rfl ?_ | refine reg_load_sh 2 rfl rfl rfl ?_ | refine reg_load_sh 3 rfl rfl rfl ?_ | refine reg_load_sh 4 rfl rfl rfl ?_ | refine reg_load_sh 5 rfl rfl rfl ?_ | refine reg_load_pt 0 rfl rfl rfl ?_ | refine reg_load_pt 1 rfl rfl rfl ?_ | refine reg_load_pt 2 rfl rfl rfl ?_ | refine reg_load_pt 3 rfl rfl rfl ?_ | refine reg_load_pt 4 rfl rfl rfl ?_ | refine reg_load_pt 5 rfl rfl rfl ?_)
            | ((with_reducible refine tag_call ?_); first | refine reg_callE [0] hG rfl rfl rfl sub_nil rfl ?_ | refine reg_len_slice rfl ?_)
            | ((with_reducible refine tag_field ?_); refine reg_field rfl ?_)
            | ((with_reducible refine tag_extract ?_); refine reg_pure rfl ?_)
            | ((with_reducible refine tag_bin ?_); first | refine reg_eqlT rfl rfl (by omega) ?_ | refine reg_eqlF rfl rfl (by omega) ?_ | refine reg_lssT rfl rfl (by omega) ?_ | refine reg_lssF rfl rfl (by omega) ?_ | refine reg_gtrT rfl rfl (by omega) ?_ | refine reg_gtrF rfl rfl (by omega) ?_ | refine reg_geqT rfl rfl (by omega) ?_ | refine reg_geqF rfl rfl (by omega) ?_ | refine reg_add64 rfl rfl (by omega) ?_ | refine reg_sub64 rfl rfl (by omega) ?_ | refine reg_eql rfl rfl ?_ | refine reg_lss rfl rfl ?_ | refine reg_gtr rfl rfl ?_ | refine reg_geq rfl rfl ?_ | refine reg_rem64 rfl rfl (by omega) ?_ | refine reg_eq_nil rfl rfl ?_ | refine reg_eqB rfl rfl ?_)
            | ((with_reducible refine tag_un ?_); first | refine reg_not rfl ?_ | refine reg_notB rfl ?_)
            | ((with_reducible refine tag_pick ?_); first | refine reg_pickT rfl ?_ | refine reg_pickF rfl ?_ | refine reg_pick rfl rfl rfl ?_)
            | ((with_reducible refine tag_index ?_); first | refine reg_index_slice rfl rfl (by omega) ?_ | refine reg_index_array rfl rfl (by omega) ?_)
            | ((with_reducible refine tag_box ?_); first | refine reg_box (cs := [_]) rfl (fun nb => ?_) | refine reg_box (cs := [_, _]) rfl (fun nb => ?_) | refine reg_box (cs := [_, _, _]) rfl (fun nb => ?_) | refine reg_box (cs := [_, _, _, _]) rfl (fun nb => ?_) | refine reg_box (cs := [_, _, _, _, _]) rfl (fun nb => ?_) | refine reg_box (cs := [_, _, _, _, _, _]) rfl (fun nb => ?_) | refine reg_box (cs := [_, _, _, _, _, _, _]) rfl (fun nb => ?_) | refine reg_box (cs := [_, _, _, _, _, _, _, _]) rfl (fun nb => ?_)))
        | refine reg_nil ?_
        | refine run_condT rfl ?_
        | refine run_condF rfl ?_)
      exact run_ret (same hst (Nat.le_refl _) rfl rfl)
  rw [if_neg h5] at hst
  by_cases h6 : q = 6
  · rw [if_pos h6] at hst
    by_cases hin : 0 ≤ x.i ∧ x.i < l.length
    · rw [decide_eq_true hin]
      by_cases hjn : 0 ≤ x.j ∧ x.j < l.length
      · rw [if_pos ⟨hin, hjn⟩] at hst
        obtain ⟨k, hk⟩ : ∃ k : Nat, x.i = k := ⟨x.i.toNat, by omega⟩
        obtain ⟨m, hm⟩ : ∃ k : Nat, x.j = k := ⟨x.j.toNat, by omega⟩
        have hkl : k < l.length := by omega
        have hml : m < l.length := by omega
        have hy : l[k]? = some (l.getD k 0) := by rw [List.getD_eq_getElem?_getD, List.getElem?_eq_getElem hkl]; rfl
        have hz : l[m]? = some (l.getD m 0) := by rw [List.getD_eq_getElem?_getD, List.getElem?_eq_getElem hml]; rfl
        rw [hk, hm, Int.toNat_natCast, Int.toNat_natCast] at hst
        generalize l.getD k 0 = y at hy hst
        generalize l.getD m 0 = z at hz hst
        obtain ⟨b1, o1, cc1, T1, fr1, rfl, g1, r1⟩ := hrd.at hy
        obtain ⟨b2, o2, cc2, T2, fr2, e2, g2, r2⟩ := hrd.at hz
        cases e2
        have hG := swapA w0 hw p hK l c hy hz x.i x.j hk hm
        have hS := set_spec w0 sh' _ l hrd (by omega) k hkl x.i z hk
        have hS2 := fun v => set_lent w0 v (l.set k z) (by rw [List.length_set]; omega) m (by rw [List.length_set]; exact hml) x.j y hm
        repeat' (first
          | refine run_seq ?_
          | refine run_region (by kernel_rfl) ?_
          | refine run_drawA PP_mixed (by kernel_rfl) (by kernel_rfl) ?_
          | refine run_skip ?_
          | refine run_block ?_
          | refine run_inBlock ?_
          | refine run_inLoop ?_
          | refine run_exit rfl ?_
          | (refine reg_cons rfl ?_; first
              | refine reg_load_rd rfl (fun hF Γ w h1 h2 => g1 hF Γ w (fun p hp => h1 p (List.mem_cons_of_mem _ (List.mem_cons_of_mem _ hp))) h2) (r1 _ (by omega)) ?_
              | refine reg_load_rd rfl (fun hF Γ w h1 h2 => g2 hF Γ w (fun p hp => h1 p (List.mem_cons_of_mem _ (List.mem_cons_of_mem _ hp))) h2) (r2 _ (by omega)) ?_
              | (refine reg_call [] hS rfl rfl rfl (fun p hp => List.mem_cons_of_mem _ (List.mem_cons_of_mem _ hp)) ?_; rintro v1 Γ1 rfl)
              | (refine reg_call [0] (hS2 _) rfl rfl rfl sub_nil ?_; rintro v2 Γ2 rfl)
              | ((with_reducible refine tag_guard ?_); first | refine reg_guard_in rfl ?_ | refine reg_guard_out rfl ?_ | refine reg_guard_none rfl ?_ | refine reg_guard rfl rfl (fun _ => ?_) (fun _ => ?_))
              | ((with_reducible refine tag_move ?_); refine reg_pure rfl ?_)
              | ((with_reducible refine tag_assign ?_); refine reg_pure rfl ?_)
              | ((with_reducible refine tag_load ?_); first | refine reg_load_sh 0 rfl rfl rfl ?_ | refine reg_load_sh 1 rfl rfl rfl ?_ | refine reg_load_sh 2 rfl rfl rfl ?_ | refine reg_load_sh 3 rfl rfl rfl ?_ | refine reg_load_sh 4 rfl rfl rfl ?_ | refine reg_load_sh 5 rfl rfl rfl ?_ | refine reg_load_pt 0 rfl rfl rfl ?_ | refine reg_load_pt 1 rfl rfl rfl ?_ | refine reg_load_pt 2 rfl rfl rfl ?_ | refine reg_load_pt 3 rfl rfl rfl ?_ | refine reg_load_pt 4 rfl rfl rfl ?_ | refine reg_load_pt 5 rfl rfl rfl ?_)
              | ((with_reducible refine tag_call ?_); first | refine reg_callE [0] hG rfl rfl rfl sub_nil rfl ?_ | refine reg_len_slice rfl ?_)
              | ((with_reducible refine tag_field ?_); refine reg_field rfl ?_)
              | ((with_reducible refine tag_extract ?_); refine reg_pure rfl ?_)
              | ((with_reducible refine tag_bin ?_); first | refine reg_eqlT rfl rfl (by omega) ?_ | refine reg_eqlF rfl rfl (by omega) ?_ | refine reg_lssT rfl rfl (by omega) ?_ | refine reg_lssF rfl rfl (by omega) ?_ | refine reg_gtrT rfl rfl (by omega) ?_ | refine reg_gtrF rfl rfl (by omega) ?_ | refine reg_geqT rfl rfl (by omega) ?_ | refine reg_geqF rfl rfl (by omega) ?_ | refine reg_add64 rfl rfl (by omega) ?_ | refine reg_sub64 rfl rfl (by omega) ?_ | refine reg_eql rfl rfl ?_ | refine reg_lss rfl rfl ?_ | refine reg_gtr rfl rfl ?_ | refine reg_geq rfl rfl ?_ | refine reg_rem64 rfl rfl (by omega) ?_ | refine reg_eq_nil rfl rfl ?_ | refine reg_eqB rfl rfl ?_)
              | ((with_reducible refine tag_un ?_); first | refine reg_not rfl ?_ | refine reg_notB rfl ?_)
              | ((with_reducible refine tag_pick ?_); first | refine reg_pickT rfl ?_ | refine reg_pickF rfl ?_ | refine reg_pick rfl rfl rfl ?_)
              | ((with_reducible refine tag_index ?_); first | refine reg_index_slice rfl rfl (by omega) ?_ | refine reg_index_array rfl rfl (by omega) ?_)
              | ((with_reducible refine tag_box ?_); first | refine reg_box (cs := [_]) rfl (fun nb => ?_) | refine reg_box (cs := [_, _]) rfl (fun nb => ?_) | refine reg_box (cs := [_, _, _]) rfl (fun nb => ?_) | refine reg_box (cs := [_, _, _, _]) rfl (fun nb => ?_) | refine reg_box (cs := [_, _, _, _, _]) rfl (fun nb => ?_) | refine reg_box (cs := [_, _, _, _, _, _]) rfl (fun nb => ?_) | refine reg_box (cs := [_, _, _, _, _, _, _]) rfl (fun nb => ?_) | refine reg_box (cs := [_, _, _, _, _, _, _, _]) rfl (fun nb => ?_)))
          | refine reg_nil ?_
          | refine run_condT rfl ?_
          | refine run_condF rfl ?_)
        rw [← hst]
        exact run_ret (leaves_nil (ends_take [2, 0] rfl (ends_two rfl rfl rfl ⟨rfl, _, c, Nat.le_refl _, rfl, rfl⟩)))
      · rw [if_neg (fun h => hjn h.2)] at hst
        have hG := swapA_out w0 hw p hK l c (i := x.i) (j := x.j) (by omega)
        by_cases hj0 : x.j < 0
        · repeat' (first
            | refine run_seq ?_
            | refine run_region (by kernel_rfl) ?_
            | refine run_drawA PP_mixed (by kernel_rfl) (by kernel_rfl) ?_
            | refine run_skip ?_
            | refine run_block ?_
            | refine run_inBlock ?_
            | refine run_inLoop ?_
            | refine run_exit rfl ?_
            | (refine reg_cons rfl ?_; first
                | ((with_reducible refine tag_guard ?_); first | refine reg_guard_in rfl ?_ | refine reg_guard_out rfl ?_ | refine reg_guard_none rfl ?_ | refine reg_guard rfl rfl (fun _ => ?_) (fun _ => ?_))
                | ((with_reducible refine tag_move ?_); refine reg_pure rfl ?_)
                | ((with_reducible refine tag_assign ?_); refine reg_pure rfl ?_)
                | ((with_reducible refine tag_load ?_); first | refine reg_load_sh 0 rfl rfl rfl ?_ | refine reg_load_sh 1 rfl rfl rfl ?_ | refine reg_load_sh 2 rfl rfl rfl ?_ | refine reg_load_sh 3 rfl rfl rfl ?_ | refine reg_load_sh 4 rfl rfl rfl ?_ | refine reg_load_sh 5 rfl rfl rfl ?_ | refine reg_load_pt 0 rfl rfl rfl ?_ | refine reg_load_pt 1 rfl rfl rfl ?_ | refine reg_load_pt 2 rfl rfl rfl ?_ | refine reg_load_pt 3 rfl rfl rfl ?_ | refine reg_load_pt 4 rfl rfl rfl ?_ | refine reg_load_pt 5 rfl rfl rfl ?_)
                | ((with_reducible refine tag_call ?_); first | refine reg_callE [0] hG rfl rfl rfl sub_nil rfl ?_ | refine reg_len_slice rfl ?_)
                | ((with_reducible refine tag_field ?_); refine reg_field rfl ?_)
                | ((with_reducible refine tag_extract ?_); refine reg_pure rfl ?_)
                | ((with_reducible refine tag_bin ?_); first | refine reg_eqlT rfl rfl (by omega) ?_ | refine reg_eqlF rfl rfl (by omega) ?_ | refine reg_lssT rfl rfl (by omega) ?_ | refine reg_lssF rfl rfl (by omega) ?_ | refine reg_gtrT rfl rfl (by omega) ?_ | refine reg_gtrF rfl rfl (by omega) ?_ | refine reg_geqT rfl rfl (by omega) ?_ | refine reg_geqF rfl rfl (by omega) ?_ | refine reg_add64 rfl rfl (by omega) ?_ | refine reg_sub64 rfl rfl (by omega) ?_ | refine reg_eql rfl rfl ?_ | refine reg_lss rfl rfl ?_ | refine reg_gtr rfl rfl ?_ | refine reg_geq rfl rfl ?_ | refine reg_rem64 rfl rfl (by omega) ?_ | refine reg_eq_nil rfl rfl ?_ | refine reg_eqB rfl rfl ?_)
                | ((with_reducible refine tag_un ?_); first | refine reg_not rfl ?_ | refine reg_notB rfl ?_)
                | ((with_reducible refine tag_pick ?_); first | refine reg_pickT rfl ?_ | refine reg_pickF rfl ?_ | refine reg_pick rfl rfl rfl ?_)
                | ((with_reducible refine tag_index ?_); first | refine reg_index_slice rfl rfl (by omega) ?_ | refine reg_index_array rfl rfl (by omega) ?_)
                | ((with_reducible refine tag_box ?_); first | refine reg_box (cs := [_]) rfl (fun nb => ?_) | refine reg_box (cs := [_, _]) rfl (fun nb => ?_) | refine reg_box (cs := [_, _, _]) rfl (fun nb => ?_) | refine reg_box (cs := [_, _, _, _]) rfl (fun nb => ?_) | refine reg_box (cs := [_, _, _, _, _]) rfl (fun nb => ?_) | refine reg_box (cs := [_, _, _, _, _, _]) rfl (fun nb => ?_) | refine reg_box (cs := [_, _, _, _, _, _, _]) rfl (fun nb => ?_) | refine reg_box (cs := [_, _, _, _, _, _, _, _]) rfl (fun nb => ?_)))
            | refine reg_nil ?_
            | refine run_condT rfl ?_
            | refine run_condF rfl ?_)
          exact run_ret (same hst (Nat.le_refl _) rfl rfl)
        · repeat' (first
            | refine run_seq ?_
            | refine run_region (by kernel_rfl) ?_
            | refine run_drawA PP_mixed (by kernel_rfl) (by kernel_rfl) ?_
            | refine run_skip ?_
            | refine run_block ?_
            | refine run_inBlock ?_
            | refine run_inLoop ?_
            | refine run_exit rfl ?_
            | (refine reg_cons rfl ?_; first
                | ((with_reducible refine tag_guard ?_); first | refine reg_guard_in rfl ?_ | refine reg_guard_out rfl ?_ | refine reg_guard_none rfl ?_ | refine reg_guard rfl rfl (fun _ => ?_) (fun _ => ?_))
                | ((with_reducible refine tag_move ?_); refine reg_pure rfl ?_)
                | ((with_reducible refine tag_assign ?_); refine reg_pure rfl ?_)
                | ((with_reducible refine tag_load ?_); first | refine reg_load_sh 0 rfl rfl rfl ?_ | refine reg_load_sh 1 rfl rfl rfl ?_ | refine reg_load_sh 2 rfl rfl rfl ?_ | refine reg_load_sh 3 rfl rfl rfl ?_ | refine reg_load_sh 4 rfl rfl rfl ?_ | refine reg_load_sh 5 rfl rfl rfl ?_ | refine reg_load_pt 0 rfl rfl rfl ?_ | refine reg_load_pt 1 rfl rfl rfl ?_ | refine reg_load_pt 2 rfl rfl rfl ?_ | refine reg_load_pt 3 rfl rfl rfl ?_ | refine reg_load_pt 4 rfl rfl rfl ?_ | refine reg_load_pt 5 rfl rfl rfl ?_)
                | ((with_reducible refine tag_call ?_); first | refine reg_callE [0] hG rfl rfl rfl sub_nil rfl ?_ | refine reg_len_slice rfl ?_)
                | ((with_reducible refine tag_field ?_); refine reg_field rfl ?_)
                | ((with_reducible refine tag_extract ?_); refine reg_pure rfl ?_)
                | ((with_reducible refine tag_bin ?_); first | refine reg_eqlT rfl rfl (by omega) ?_ | refine reg_eqlF rfl rfl (by omega) ?_ | refine reg_lssT rfl rfl (by omega) ?_ | refine reg_lssF rfl rfl (by omega) ?_ | refine reg_gtrT rfl rfl (by omega) ?_ | refine reg_gtrF rfl rfl (by omega) ?_ | refine reg_geqT rfl rfl (by omega) ?_ | refine reg_geqF rfl rfl (by omega) ?_ | refine reg_add64 rfl rfl (by omega) ?_ | refine reg_sub64 rfl rfl (by omega) ?_ | refine reg_eql rfl rfl ?_ | refine reg_lss rfl rfl ?_ | refine reg_gtr rfl rfl ?_ | refine reg_geq rfl rfl ?_ | refine reg_rem64 rfl rfl (by omega) ?_ | refine reg_eq_nil rfl rfl ?_ | refine reg_eqB rfl rfl ?_)
                | ((with_reducible refine tag_un ?_); first | refine reg_not rfl ?_ | refine reg_notB rfl ?_)
                | ((with_reducible refine tag_pick ?_); first | refine reg_pickT rfl ?_ | refine reg_pickF rfl ?_ | refine reg_pick rfl rfl rfl ?_)
                | ((with_reducible refine tag_index ?_); first | refine reg_index_slice rfl rfl (by omega) ?_ | refine reg_index_array rfl rfl (by omega) ?_)
                | ((with_reducible refine tag_box ?_); first | refine reg_box (cs := [_]) rfl (fun nb => ?_) | refine reg_box (cs := [_, _]) rfl (fun nb => ?_) | refine reg_box (cs := [_, _, _]) rfl (fun nb => ?_) | refine reg_box (cs := [_, _, _, _]) rfl (fun nb => ?_) | refine reg_box (cs := [_, _, _, _, _]) rfl (fun nb => ?_) | refine reg_box (cs := [_, _, _, _, _, _]) rfl (fun nb => ?_) | refine reg_box (cs := [_, _, _, _, _, _, _]) rfl (fun nb => ?_) | refine reg_box (cs := [_, _, _, _, _, _, _, _]) rfl (fun nb => ?_)))
            | refine reg_nil ?_
            | refine run_condT rfl ?_
            | refine run_condF rfl ?_)
          exact run_ret (same hst (Nat.le_refl _) rfl rfl)
    · rw [decide_eq_false hin]
      rw [if_neg (fun h => hin h.1)] at hst
      have hG := swapA_out w0 hw p hK l c (i := x.i) (j := x.j) (by omega)
      repeat' (first
        | refine run_seq ?_
        | refine run_region (by kernel_rfl) ?_
        | refine run_drawA PP_mixed (by kernel_rfl) (by kernel_rfl) ?_
        | refine run_skip ?_
        | refine run_block ?_
        | refine run_inBlock ?_
        | refine run_inLoop ?_
        | refine run_exit rfl ?_
        | (refine reg_cons rfl ?_; first
            | ((with_reducible refine tag_guard ?_); first | refine reg_guard_in rfl ?_ | refine reg_guard_out rfl ?_ | refine reg_guard_none rfl ?_ | refine reg_guard rfl rfl (fun _ => ?_) (fun _ => ?_))
            | ((with_reducible refine tag_move ?_); refine reg_pure rfl ?_)
            | ((with_reducible refine tag_assign ?_); refine reg_pure rfl ?_)
            | ((with_reducible refine tag_load ?_); first | refine reg_load_sh 0 rfl rfl rfl ?_ | refine reg_load_sh 1 rfl rfl rfl ?_ | refine reg_load_sh 2 rfl rfl rfl ?_ | refine reg_load_sh 3 rfl rfl rfl ?_ | refine reg_load_sh 4 rfl rfl rfl ?_ | refine reg_load_sh 5 rfl rfl rfl ?_ | refine reg_load_pt 0 rfl rfl rfl ?_ | refine reg_load_pt 1 rfl rfl rfl ?_ | refine reg_load_pt 2 rfl rfl rfl ?_ | refine reg_load_pt 3 rfl rfl rfl ?_ | refine reg_load_pt 4 rfl rfl rfl ?_ | refine reg_load_pt 5 rfl rfl rfl ?_)
            | ((with_reducible refine tag_call ?_); first | refine reg_callE [0] hG rfl rfl rfl sub_nil rfl ?_ | refine reg_len_slice rfl ?_)
            | ((with_reducible refine tag_field ?_); refine reg_field rfl ?_)
            | ((with_reducible refine tag_extract ?_); refine reg_pure rfl ?_)
            | ((with_reducible refine tag_bin ?_); first | refine reg_eqlT rfl rfl (by omega) ?_ | refine reg_eqlF rfl rfl (by omega) ?_ | refine reg_lssT rfl rfl (by omega) ?_ | refine reg_lssF rfl rfl (by omega) ?_ | refine reg_gtrT rfl rfl (by omega) ?_ | refine reg_gtrF rfl rfl (by omega) ?_ | refine reg_geqT rfl rfl (by omega) ?_ | refine reg_geqF rfl rfl (by omega) ?_ | refine reg_add64 rfl rfl (by omega) ?_ | refine reg_sub64 rfl rfl (by omega) ?_ | refine reg_eql rfl rfl ?_ | refine reg_lss rfl rfl ?_ | refine reg_gtr rfl rfl ?_ | refine reg_geq rfl rfl ?_ | refine reg_rem64 rfl rfl (by omega) ?_ | refine reg_eq_nil rfl rfl ?_ | refine reg_eqB rfl rfl ?_)
            | ((with_reducible refine tag_un ?_); first | refine reg_not rfl ?_ | refine reg_notB rfl ?_)
            | ((with_reducible refine tag_pick ?_); first | refine reg_pickT rfl ?_ | refine reg_pickF rfl ?_ | refine reg_pick rfl rfl rfl ?_)
            | ((with_reducible refine tag_index ?_); first | refine reg_index_slice rfl rfl (by omega) ?_ | refine reg_index_array rfl rfl (by omega) ?_)
            | ((with_reducible refine tag_box ?_); first | refine reg_box (cs := [_]) rfl (fun nb => ?_) | refine reg_box (cs := [_, _]) rfl (fun nb => ?_) | refine reg_box (cs := [_, _, _]) rfl (fun nb => ?_) | refine reg_box (cs := [_, _, _, _]) rfl (fun nb => ?_) | refine reg_box (cs := [_, _, _, _, _]) rfl (fun nb => ?_) | refine reg_box (cs := [_, _, _, _, _, _]) rfl (fun nb => ?_) | refine reg_box (cs := [_, _, _, _, _, _, _]) rfl (fun nb => ?_) | refine reg_box (cs := [_, _, _, _, _, _, _, _]) rfl (fun nb => ?_)))
        | refine reg_nil ?_
        | refine run_condT rfl ?_
        | refine run_condF rfl ?_)
      exact run_ret (same hst (Nat.le_refl _) rfl rfl)
  rw [if_neg h6] at hst
  have hN := nodes_spec w0 (l.length + 1) (by omega) ((l.length : Int) + 1) (by omega)
  have hTb := T_bd (l.length + 1) (by omega)
  have hKn : (a0 K).pool.nodes = K := rfl
  by_cases hT : (T (l.length + 1) : Int) ≤ K
  · rw [if_pos hT] at hst
    have hP := pushA w0 hw p hK l c x.v hT
    repeat' (first
      | refine run_seq ?_
      | refine run_region (by kernel_rfl) ?_
      | refine run_drawA PP_mixed (by kernel_rfl) (by kernel_rfl) ?_
      | refine run_skip ?_
      | refine run_block ?_
      | refine run_inBlock ?_
      | refine run_inLoop ?_
      | refine run_exit rfl ?_
      | (refine reg_cons rfl ?_; first
          | refine reg_buildSlice rfl rfl rfl rfl rfl rfl (fun nb => ?_)
          | (refine reg_own 1 rfl rfl (len := 0) (cap := 0) (sz := 1) ⟨rfl, Nat.le_refl _, Nat.le_refl _⟩ rfl ?_; refine reg_append_rd 1 rfl rfl (hrd.mono (fun p hp => List.mem_cons_of_mem _ (List.mem_cons_of_mem _ hp))) rfl rfl (by first | omega | (constructor <;> omega)) (fun _ _ => rfl) (fun a' cap' => ?_))
          | refine reg_append 1 2 rfl rfl rfl rfl rfl rfl rfl rfl (by first | omega | (constructor <;> omega)) (fun _ _ => rfl) (fun a'' cap'' => ?_)
          | ((with_reducible refine tag_guard ?_); first | refine reg_guard_in rfl ?_ | refine reg_guard_out rfl ?_ | refine reg_guard_none rfl ?_ | refine reg_guard rfl rfl (fun _ => ?_) (fun _ => ?_))
          | ((with_reducible refine tag_move ?_); refine reg_pure rfl ?_)
          | ((with_reducible refine tag_assign ?_); refine reg_pure rfl ?_)
          | ((with_reducible refine tag_load ?_); first | refine reg_load_sh 0 rfl rfl rfl ?_ | refine reg_load_sh 1 rfl rfl rfl ?_ | refine reg_load_sh 2 rfl rfl rfl ?_ | refine reg_load_sh 3 rfl rfl rfl ?_ | refine reg_load_sh 4 rfl rfl rfl ?_ | refine reg_load_sh 5 rfl rfl rfl ?_ | refine reg_load_pt 0 rfl rfl rfl ?_ | refine reg_load_pt 1 rfl rfl rfl ?_ | refine reg_load_pt 2 rfl rfl rfl ?_ | refine reg_load_pt 3 rfl rfl rfl ?_ | refine reg_load_pt 4 rfl rfl rfl ?_ | refine reg_load_pt 5 rfl rfl rfl ?_)
          | ((with_reducible refine tag_call ?_); first | refine reg_callE [0] hP rfl rfl rfl sub_nil rfl ?_ | refine reg_callE [] hN rfl rfl rfl sub_nil rfl ?_ | refine reg_len_slice rfl ?_)
          | ((with_reducible refine tag_field ?_); refine reg_field rfl ?_)
          | ((with_reducible refine tag_extract ?_); refine reg_pure rfl ?_)
          | ((with_reducible refine tag_bin ?_); first | refine reg_eqlT rfl rfl (by omega) ?_ | refine reg_eqlF rfl rfl (by omega) ?_ | refine reg_lssT rfl rfl (by omega) ?_ | refine reg_lssF rfl rfl (by omega) ?_ | refine reg_gtrT rfl rfl (by omega) ?_ | refine reg_gtrF rfl rfl (by omega) ?_ | refine reg_geqT rfl rfl (by omega) ?_ | refine reg_geqF rfl rfl (by omega) ?_ | refine reg_add64 rfl rfl (by omega) ?_ | refine reg_sub64 rfl rfl (by omega) ?_ | refine reg_eql rfl rfl ?_ | refine reg_lss rfl rfl ?_ | refine reg_gtr rfl rfl ?_ | refine reg_geq rfl rfl ?_ | refine reg_rem64 rfl rfl (by omega) ?_ | refine reg_eq_nil rfl rfl ?_ | refine reg_eqB rfl rfl ?_)
          | ((with_reducible refine tag_un ?_); first | refine reg_not rfl ?_ | refine reg_notB rfl ?_)
          | ((with_reducible refine tag_pick ?_); first | refine reg_pickT rfl ?_ | refine reg_pickF rfl ?_ | refine reg_pick rfl rfl rfl ?_)
          | ((with_reducible refine tag_index ?_); first | refine reg_index_slice rfl rfl (by omega) ?_ | refine reg_index_array rfl rfl (by omega) ?_)
          | ((with_reducible refine tag_box ?_); first | refine reg_box (cs := [_]) rfl (fun nb => ?_) | refine reg_box (cs := [_, _]) rfl (fun nb => ?_) | refine reg_box (cs := [_, _, _]) rfl (fun nb => ?_) | refine reg_box (cs := [_, _, _, _]) rfl (fun nb => ?_) | refine reg_box (cs := [_, _, _, _, _]) rfl (fun nb => ?_) | refine reg_box (cs := [_, _, _, _, _, _]) rfl (fun nb => ?_) | refine reg_box (cs := [_, _, _, _, _, _, _]) rfl (fun nb => ?_) | refine reg_box (cs := [_, _, _, _, _, _, _, _]) rfl (fun nb => ?_)))
      | refine reg_nil ?_
      | refine run_condT rfl ?_
      | refine run_condF rfl ?_)

    refine run_ret (leaves_nil (ends_takeconv [0, 0] (Γ' := [ArrA p K (l ++ [x.v]) c, LA (.slice a'' (0 + l.length + 1) cap'') (l ++ [x.v])]) rfl (fun h hh => ?_) (ends_two rfl rfl rfl ⟨rfl, _, c, Nat.le_refl _, rfl, by rw [hst]; rfl⟩)))
    refine stars_two (fun _ h => h) (fun g hg => ?_) hh
    have h4 : SlA 2 1 a'' (0 + l.length + 1) cap'' ([] ++ intsV l ++ [.int .i64 x.v]) g := hg
    refine ⟨a'', cap'', by rw [List.length_append, Nat.zero_add]; rfl, ?_⟩
    rw [show intsV (l ++ [x.v]) = [] ++ intsV l ++ [.int .i64 x.v] by simp [intsV], show (l ++ [x.v]).length = 0 + l.length + 1 by simp]
    exact h4
  · rw [if_neg hT] at hst
    have hP := pushA_full w0 hw p hK l c x.v (by omega)
    repeat' (first
      | refine run_seq ?_
      | refine run_region (by kernel_rfl) ?_
      | refine run_drawA PP_mixed (by kernel_rfl) (by kernel_rfl) ?_
      | refine run_skip ?_
      | refine run_block ?_
      | refine run_inBlock ?_
      | refine run_inLoop ?_
      | refine run_exit rfl ?_
      | (refine reg_cons rfl ?_; first
          | ((with_reducible refine tag_guard ?_); first | refine reg_guard_in rfl ?_ | refine reg_guard_out rfl ?_ | refine reg_guard_none rfl ?_ | refine reg_guard rfl rfl (fun _ => ?_) (fun _ => ?_))
          | ((with_reducible refine tag_move ?_); refine reg_pure rfl ?_)
          | ((with_reducible refine tag_assign ?_); refine reg_pure rfl ?_)
          | ((with_reducible refine tag_load ?_); first | refine reg_load_sh 0 rfl rfl rfl ?_ | refine reg_load_sh 1 rfl rfl rfl ?_ | refine reg_load_sh 2 rfl rfl rfl ?_ | refine reg_load_sh 3 rfl rfl rfl ?_ | refine reg_load_sh 4 rfl rfl rfl ?_ | refine reg_load_sh 5 rfl rfl rfl ?_ | refine reg_load_pt 0 rfl rfl rfl ?_ | refine reg_load_pt 1 rfl rfl rfl ?_ | refine reg_load_pt 2 rfl rfl rfl ?_ | refine reg_load_pt 3 rfl rfl rfl ?_ | refine reg_load_pt 4 rfl rfl rfl ?_ | refine reg_load_pt 5 rfl rfl rfl ?_)
          | ((with_reducible refine tag_call ?_); first | refine reg_callE [0] hP rfl rfl rfl sub_nil rfl ?_ | refine reg_callE [] hN rfl rfl rfl sub_nil rfl ?_ | refine reg_len_slice rfl ?_)
          | ((with_reducible refine tag_field ?_); refine reg_field rfl ?_)
          | ((with_reducible refine tag_extract ?_); refine reg_pure rfl ?_)
          | ((with_reducible refine tag_bin ?_); first | refine reg_eqlT rfl rfl (by omega) ?_ | refine reg_eqlF rfl rfl (by omega) ?_ | refine reg_lssT rfl rfl (by omega) ?_ | refine reg_lssF rfl rfl (by omega) ?_ | refine reg_gtrT rfl rfl (by omega) ?_ | refine reg_gtrF rfl rfl (by omega) ?_ | refine reg_geqT rfl rfl (by omega) ?_ | refine reg_geqF rfl rfl (by omega) ?_ | refine reg_add64 rfl rfl (by omega) ?_ | refine reg_sub64 rfl rfl (by omega) ?_ | refine reg_eql rfl rfl ?_ | refine reg_lss rfl rfl ?_ | refine reg_gtr rfl rfl ?_ | refine reg_geq rfl rfl ?_ | refine reg_rem64 rfl rfl (by omega) ?_ | refine reg_eq_nil rfl rfl ?_ | refine reg_eqB rfl rfl ?_)
          | ((with_reducible refine tag_un ?_); first | refine reg_not rfl ?_ | refine reg_notB rfl ?_)
          | ((with_reducible refine tag_pick ?_); first | refine reg_pickT rfl ?_ | refine reg_pickF rfl ?_ | refine reg_pick rfl rfl rfl ?_)
          | ((with_reducible refine tag_index ?_); first | refine reg_index_slice rfl rfl (by omega) ?_ | refine reg_index_array rfl rfl (by omega) ?_)
          | ((with_reducible refine tag_box ?_); first | refine reg_box (cs := [_]) rfl (fun nb => ?_) | refine reg_box (cs := [_, _]) rfl (fun nb => ?_) | refine reg_box (cs := [_, _, _]) rfl (fun nb => ?_) | refine reg_box (cs := [_, _, _, _]) rfl (fun nb => ?_) | refine reg_box (cs := [_, _, _, _, _]) rfl (fun nb => ?_) | refine reg_box (cs := [_, _, _, _, _, _]) rfl (fun nb => ?_) | refine reg_box (cs := [_, _, _, _, _, _, _]) rfl (fun nb => ?_) | refine reg_box (cs := [_, _, _, _, _, _, _, _]) rfl (fun nb => ?_)))
      | refine reg_nil ?_
      | refine run_condT rfl ?_
      | refine run_condF rfl ?_)
    exact run_ret (same hst (Nat.le_refl _) rfl rfl)
end Go.Proofs.YtilnknokgflkjaaDoor

/- The walk of ArrayPlays. -/
namespace Sim
theorem stepL_len (K : Int) (l : List Int) (x : Act39) : (stepL K l x).length ≤ l.length + 1 := by
  unfold stepL
  (repeat' split) <;> simp <;> omega
def runL (K : Int) (l : List Act39) (i : Nat) : List Int := (l.take i).foldl (stepL K) []
theorem runL_succ {K : Int} {l : List Act39} {i : Nat} {x : Act39} (h : l[i]? = some x) : runL K l (i + 1) = stepL K (runL K l i) x := by
  unfold runL
  rw [List.take_add_one, h, List.foldl_append]; rfl
theorem runL_len (K : Int) (l : List Act39) : ∀ i, (runL K l i).length ≤ i
  | 0 => by simp [runL]
  | i + 1 => by
    cases h : l[i]? with
    | none =>
      have : runL K l (i + 1) = runL K l i := by unfold runL; rw [List.take_add_one, h]; simp
      rw [this]; have := runL_len K l i; omega
    | some x =>
      rw [runL_succ h]
      have := stepL_len K (runL K l i) x
      have := runL_len K l i
      omega
end Sim
namespace Go.Proofs.YtilnknokgflkjaaDoor
open Go.Vc Sim
set_option maxHeartbeats 4000000
theorem plays_spec (w0 : World) (hw : PowOk w0) (m : Int) (hm : u8P m) (v : Value) (l : List Act39) (hv : InSl w0 Act39.cells 4 v l) (hok : ∀ x ∈ l, x.ok) :
    FnE PP w0 [] 4 [.int .u8 m, v] [] (.bool true) [] := by
  obtain ⟨a, cap, rfl, hmax, hmem⟩ := hv
  have hmax2 : (l.length : Int) ≤ 9223372036854775807 := by have := hmax.2; simp only [maxLen] at this; omega
  refine fn_of_run en4 fn4 rfl rfl rfl ?_ -- @@FN 4
  by_cases hlen : (l.length : Int) > 200
  · repeat' (first
      | refine run_seq ?_
      | refine run_region (by kernel_rfl) ?_
      | refine run_drawA PP_mixed (by kernel_rfl) (by kernel_rfl) ?_
      | refine run_skip ?_
      | refine run_block ?_
      | refine run_inBlock ?_
      | refine run_inLoop ?_
      | refine run_exit rfl ?_
      | (refine reg_cons rfl ?_; first
          | ((with_reducible refine tag_guard ?_); first | refine reg_guard_in rfl ?_ | refine reg_guard_out rfl ?_ | refine reg_guard_none rfl ?_ | refine reg_guard rfl rfl (fun _ => ?_) (fun _ => ?_))
          | ((with_reducible refine tag_move ?_); refine reg_pure rfl ?_)
          | ((with_reducible refine tag_assign ?_); refine reg_pure rfl ?_)
          | ((with_reducible refine tag_load ?_); first | refine reg_load_sh 0 rfl rfl rfl ?_ | refine reg_load_sh 1 rfl rfl rfl ?_ | refine reg_load_sh 2 rfl rfl rfl ?_ | refine reg_load_sh 3 rfl rfl rfl ?_ | refine reg_load_sh 4 rfl rfl rfl ?_ | refine reg_load_sh 5 rfl rfl rfl ?_ | refine reg_load_pt 0 rfl rfl rfl ?_ | refine reg_load_pt 1 rfl rfl rfl ?_ | refine reg_load_pt 2 rfl rfl rfl ?_ | refine reg_load_pt 3 rfl rfl rfl ?_ | refine reg_load_pt 4 rfl rfl rfl ?_ | refine reg_load_pt 5 rfl rfl rfl ?_)
          | ((with_reducible refine tag_call ?_); first | refine reg_callE [] (awake_spec w0 hw) rfl rfl rfl sub_nil rfl ?_ | refine reg_len_slice rfl ?_)
          | ((with_reducible refine tag_extract ?_); refine reg_pure rfl ?_)
          | ((with_reducible refine tag_bin ?_); first | refine reg_eqlT rfl rfl (by omega) ?_ | refine reg_eqlF rfl rfl (by omega) ?_ | refine reg_lssT rfl rfl (by omega) ?_ | refine reg_lssF rfl rfl (by omega) ?_ | refine reg_gtrT rfl rfl (by omega) ?_ | refine reg_gtrF rfl rfl (by omega) ?_ | refine reg_add64 rfl rfl (by omega) ?_ | refine reg_eql rfl rfl ?_ | refine reg_lss rfl rfl ?_ | refine reg_gtr rfl rfl ?_ | refine reg_rem64 rfl rfl (by omega) ?_ | refine reg_eq_nil rfl rfl ?_ | refine reg_eqB rfl rfl ?_)
          | ((with_reducible refine tag_un ?_); first | refine reg_not rfl ?_ | refine reg_notB rfl ?_)
          | ((with_reducible refine tag_pick ?_); first | refine reg_pickT rfl ?_ | refine reg_pickF rfl ?_ | refine reg_pick rfl rfl rfl ?_)
          | ((with_reducible refine tag_store ?_); first | refine reg_store 0 rfl rfl rfl rfl rfl rfl rfl ?_ | refine reg_store 1 rfl rfl rfl rfl rfl rfl rfl ?_ | refine reg_store 2 rfl rfl rfl rfl rfl rfl rfl ?_ | refine reg_store 3 rfl rfl rfl rfl rfl rfl rfl ?_ | refine reg_store 4 rfl rfl rfl rfl rfl rfl rfl ?_ | refine reg_store 5 rfl rfl rfl rfl rfl rfl rfl ?_)
          | ((with_reducible refine tag_index ?_); first | refine reg_index_slice rfl rfl (by omega) ?_ | refine reg_index_array rfl rfl (by omega) ?_)
          | ((with_reducible refine tag_alloc ?_); refine reg_alloc (fun nb => ?_)))
      | refine reg_nil ?_
      | refine run_condT rfl ?_
      | refine run_condF rfl ?_)
    exact ret_tmp1 rfl ⟨rfl, rfl⟩
  have hK : 0 ≤ m % 24 ∧ m % 24 ≤ 23 := by omega
  generalize hKK : m % 24 = K at hK
  repeat (first | refine run_seq ?_ | refine run_block ?_ | refine run_skip ?_ | refine run_inBlock ?_)
  first | refine run_region (by kernel_rfl) ?_ | refine run_drawA PP_mixed (by kernel_rfl) (by kernel_rfl) ?_
  repeat' (refine reg_cons rfl ?_; first
        | ((with_reducible refine tag_guard ?_); first | refine reg_guard_in rfl ?_ | refine reg_guard_out rfl ?_ | refine reg_guard_none rfl ?_ | refine reg_guard rfl rfl (fun _ => ?_) (fun _ => ?_))
        | ((with_reducible refine tag_move ?_); refine reg_pure rfl ?_)
        | ((with_reducible refine tag_assign ?_); refine reg_pure rfl ?_)
        | ((with_reducible refine tag_load ?_); first | refine reg_load_sh 0 rfl rfl rfl ?_ | refine reg_load_sh 1 rfl rfl rfl ?_ | refine reg_load_sh 2 rfl rfl rfl ?_ | refine reg_load_sh 3 rfl rfl rfl ?_ | refine reg_load_sh 4 rfl rfl rfl ?_ | refine reg_load_sh 5 rfl rfl rfl ?_ | refine reg_load_pt 0 rfl rfl rfl ?_ | refine reg_load_pt 1 rfl rfl rfl ?_ | refine reg_load_pt 2 rfl rfl rfl ?_ | refine reg_load_pt 3 rfl rfl rfl ?_ | refine reg_load_pt 4 rfl rfl rfl ?_ | refine reg_load_pt 5 rfl rfl rfl ?_)
        | ((with_reducible refine tag_call ?_); refine reg_len_slice rfl ?_)
        | ((with_reducible refine tag_extract ?_); refine reg_pure rfl ?_)
        | ((with_reducible refine tag_bin ?_); first | refine reg_eqlT rfl rfl (by omega) ?_ | refine reg_eqlF rfl rfl (by omega) ?_ | refine reg_lssT rfl rfl (by omega) ?_ | refine reg_lssF rfl rfl (by omega) ?_ | refine reg_gtrT rfl rfl (by omega) ?_ | refine reg_gtrF rfl rfl (by omega) ?_ | refine reg_add64 rfl rfl (by omega) ?_ | refine reg_eql rfl rfl ?_ | refine reg_lss rfl rfl ?_ | refine reg_gtr rfl rfl ?_ | refine reg_rem64 rfl rfl (by omega) ?_ | refine reg_eq_nil rfl rfl ?_ | refine reg_eqB rfl rfl ?_)
        | ((with_reducible refine tag_un ?_); first | refine reg_not rfl ?_ | refine reg_notB rfl ?_)
        | ((with_reducible refine tag_pick ?_); first | refine reg_pickT rfl ?_ | refine reg_pickF rfl ?_ | refine reg_pick rfl rfl rfl ?_)
        | ((with_reducible refine tag_store ?_); first | refine reg_store 0 rfl rfl rfl rfl rfl rfl rfl ?_ | refine reg_store 1 rfl rfl rfl rfl rfl rfl rfl ?_ | refine reg_store 2 rfl rfl rfl rfl rfl rfl rfl ?_ | refine reg_store 3 rfl rfl rfl rfl rfl rfl rfl ?_ | refine reg_store 4 rfl rfl rfl rfl rfl rfl rfl ?_ | refine reg_store 5 rfl rfl rfl rfl rfl rfl rfl ?_)
        | ((with_reducible refine tag_index ?_); first | refine reg_index_slice rfl rfl (by omega) ?_ | refine reg_index_array rfl rfl (by omega) ?_)
        | ((with_reducible refine tag_alloc ?_); refine reg_alloc (fun nb => ?_)))
  all_goals refine reg_nil ?_
  all_goals repeat (first | refine run_seq ?_ | refine run_block ?_ | refine run_skip ?_ | refine run_inBlock ?_)
  repeat (first | refine run_seq ?_ | refine run_block ?_ | refine run_skip ?_ | refine run_inBlock ?_)
  first | refine run_region (by kernel_rfl) ?_ | refine run_drawA PP_mixed (by kernel_rfl) (by kernel_rfl) ?_
  repeat' (refine reg_cons rfl ?_; first
        | ((with_reducible refine tag_guard ?_); first | refine reg_guard_in rfl ?_ | refine reg_guard_out rfl ?_ | refine reg_guard_none rfl ?_ | refine reg_guard rfl rfl (fun _ => ?_) (fun _ => ?_))
        | ((with_reducible refine tag_move ?_); refine reg_pure rfl ?_)
        | ((with_reducible refine tag_assign ?_); refine reg_pure rfl ?_)
        | ((with_reducible refine tag_load ?_); first | refine reg_load_sh 0 rfl rfl rfl ?_ | refine reg_load_sh 1 rfl rfl rfl ?_ | refine reg_load_sh 2 rfl rfl rfl ?_ | refine reg_load_sh 3 rfl rfl rfl ?_ | refine reg_load_sh 4 rfl rfl rfl ?_ | refine reg_load_sh 5 rfl rfl rfl ?_ | refine reg_load_pt 0 rfl rfl rfl ?_ | refine reg_load_pt 1 rfl rfl rfl ?_ | refine reg_load_pt 2 rfl rfl rfl ?_ | refine reg_load_pt 3 rfl rfl rfl ?_ | refine reg_load_pt 4 rfl rfl rfl ?_ | refine reg_load_pt 5 rfl rfl rfl ?_)
        | ((with_reducible refine tag_call ?_); refine reg_len_slice rfl ?_)
        | ((with_reducible refine tag_extract ?_); refine reg_pure rfl ?_)
        | ((with_reducible refine tag_bin ?_); first | refine reg_eqlT rfl rfl (by omega) ?_ | refine reg_eqlF rfl rfl (by omega) ?_ | refine reg_lssT rfl rfl (by omega) ?_ | refine reg_lssF rfl rfl (by omega) ?_ | refine reg_gtrT rfl rfl (by omega) ?_ | refine reg_gtrF rfl rfl (by omega) ?_ | refine reg_add64 rfl rfl (by omega) ?_ | refine reg_eql rfl rfl ?_ | refine reg_lss rfl rfl ?_ | refine reg_gtr rfl rfl ?_ | refine reg_rem64 rfl rfl (by omega) ?_ | refine reg_eq_nil rfl rfl ?_ | refine reg_eqB rfl rfl ?_)
        | ((with_reducible refine tag_un ?_); first | refine reg_not rfl ?_ | refine reg_notB rfl ?_)
        | ((with_reducible refine tag_pick ?_); first | refine reg_pickT rfl ?_ | refine reg_pickF rfl ?_ | refine reg_pick rfl rfl rfl ?_)
        | ((with_reducible refine tag_store ?_); first | refine reg_store 0 rfl rfl rfl rfl rfl rfl rfl ?_ | refine reg_store 1 rfl rfl rfl rfl rfl rfl rfl ?_ | refine reg_store 2 rfl rfl rfl rfl rfl rfl rfl ?_ | refine reg_store 3 rfl rfl rfl rfl rfl rfl rfl ?_ | refine reg_store 4 rfl rfl rfl rfl rfl rfl rfl ?_ | refine reg_store 5 rfl rfl rfl rfl rfl rfl rfl ?_)
        | ((with_reducible refine tag_index ?_); first | refine reg_index_slice rfl rfl (by omega) ?_ | refine reg_index_array rfl rfl (by omega) ?_)
        | ((with_reducible refine tag_alloc ?_); refine reg_alloc (fun nb => ?_)))
  all_goals refine reg_nil ?_
  all_goals repeat (first | refine run_seq ?_ | refine run_block ?_ | refine run_skip ?_ | refine run_inBlock ?_)
  refine run_condF rfl ?_
  repeat (first | refine run_seq ?_ | refine run_block ?_ | refine run_skip ?_ | refine run_inBlock ?_ | refine run_inLoop ?_)
  repeat (first | refine run_seq ?_ | refine run_block ?_ | refine run_skip ?_ | refine run_inBlock ?_)
  first | refine run_region (by kernel_rfl) ?_ | refine run_drawA PP_mixed (by kernel_rfl) (by kernel_rfl) ?_
  repeat' (refine reg_cons rfl ?_; first
        | (refine reg_call [] (startA w0 m hm K hKK.symm) rfl rfl rfl sub_nil ?_; rintro v Γ' ⟨vb, rfl, rfl⟩)
        | ((with_reducible refine tag_guard ?_); first | refine reg_guard_in rfl ?_ | refine reg_guard_out rfl ?_ | refine reg_guard_none rfl ?_ | refine reg_guard rfl rfl (fun _ => ?_) (fun _ => ?_))
        | ((with_reducible refine tag_move ?_); refine reg_pure rfl ?_)
        | ((with_reducible refine tag_assign ?_); refine reg_pure rfl ?_)
        | ((with_reducible refine tag_load ?_); first | refine reg_load_sh 0 rfl rfl rfl ?_ | refine reg_load_sh 1 rfl rfl rfl ?_ | refine reg_load_sh 2 rfl rfl rfl ?_ | refine reg_load_sh 3 rfl rfl rfl ?_ | refine reg_load_sh 4 rfl rfl rfl ?_ | refine reg_load_sh 5 rfl rfl rfl ?_ | refine reg_load_pt 0 rfl rfl rfl ?_ | refine reg_load_pt 1 rfl rfl rfl ?_ | refine reg_load_pt 2 rfl rfl rfl ?_ | refine reg_load_pt 3 rfl rfl rfl ?_ | refine reg_load_pt 4 rfl rfl rfl ?_ | refine reg_load_pt 5 rfl rfl rfl ?_)
        | ((with_reducible refine tag_call ?_); refine reg_len_slice rfl ?_)
        | ((with_reducible refine tag_extract ?_); refine reg_pure rfl ?_)
        | ((with_reducible refine tag_bin ?_); first | refine reg_eqlT rfl rfl (by omega) ?_ | refine reg_eqlF rfl rfl (by omega) ?_ | refine reg_lssT rfl rfl (by omega) ?_ | refine reg_lssF rfl rfl (by omega) ?_ | refine reg_gtrT rfl rfl (by omega) ?_ | refine reg_gtrF rfl rfl (by omega) ?_ | refine reg_add64 rfl rfl (by omega) ?_ | refine reg_eql rfl rfl ?_ | refine reg_lss rfl rfl ?_ | refine reg_gtr rfl rfl ?_ | refine reg_rem64 rfl rfl (by omega) ?_ | refine reg_eq_nil rfl rfl ?_ | refine reg_eqB rfl rfl ?_)
        | ((with_reducible refine tag_un ?_); first | refine reg_not rfl ?_ | refine reg_notB rfl ?_)
        | ((with_reducible refine tag_pick ?_); first | refine reg_pickT rfl ?_ | refine reg_pickF rfl ?_ | refine reg_pick rfl rfl rfl ?_)
        | ((with_reducible refine tag_store ?_); first | refine reg_store 0 rfl rfl rfl rfl rfl rfl rfl ?_ | refine reg_store 1 rfl rfl rfl rfl rfl rfl rfl ?_ | refine reg_store 2 rfl rfl rfl rfl rfl rfl rfl ?_ | refine reg_store 3 rfl rfl rfl rfl rfl rfl rfl ?_ | refine reg_store 4 rfl rfl rfl rfl rfl rfl rfl ?_ | refine reg_store 5 rfl rfl rfl rfl rfl rfl rfl ?_)
        | ((with_reducible refine tag_index ?_); first | refine reg_index_slice rfl rfl (by omega) ?_ | refine reg_index_array rfl rfl (by omega) ?_)
        | ((with_reducible refine tag_alloc ?_); refine reg_alloc (fun nb => ?_)))
  all_goals refine reg_nil ?_
  all_goals repeat (first | refine run_seq ?_ | refine run_block ?_ | refine run_skip ?_ | refine run_inBlock ?_)
  rename_i b1
  revert nb; intro b2
  refine run_share [0] rfl ?_
  refine run_share [0] rfl ?_
  refine run_share [0] rfl ?_
  repeat (first | refine run_seq ?_ | refine run_block ?_ | refine run_skip ?_ | refine run_inBlock ?_)
  first | refine run_region (by kernel_rfl) ?_ | refine run_drawA PP_mixed (by kernel_rfl) (by kernel_rfl) ?_
  repeat' (refine reg_cons rfl ?_; first
        | (refine reg_call [] (knownA w0 vb _ K hK 2 (0, 0)) rfl rfl rfl (by intro p hp; simp at hp; subst hp; simp) ?_; rintro v Γ' ⟨mb, rfl, rfl⟩)
        | (refine reg_call [0] (newA w0 mb hK 1000 (by decide)) rfl rfl rfl sub_nil ?_; rintro v Γ' ⟨p, rfl, rfl⟩)
        | ((with_reducible refine tag_guard ?_); first | refine reg_guard_in rfl ?_ | refine reg_guard_out rfl ?_ | refine reg_guard_none rfl ?_ | refine reg_guard rfl rfl (fun _ => ?_) (fun _ => ?_))
        | ((with_reducible refine tag_move ?_); refine reg_pure rfl ?_)
        | ((with_reducible refine tag_assign ?_); refine reg_pure rfl ?_)
        | ((with_reducible refine tag_load ?_); first | refine reg_load_sh 0 rfl rfl rfl ?_ | refine reg_load_sh 1 rfl rfl rfl ?_ | refine reg_load_sh 2 rfl rfl rfl ?_ | refine reg_load_sh 3 rfl rfl rfl ?_ | refine reg_load_sh 4 rfl rfl rfl ?_ | refine reg_load_sh 5 rfl rfl rfl ?_ | refine reg_load_pt 0 rfl rfl rfl ?_ | refine reg_load_pt 1 rfl rfl rfl ?_ | refine reg_load_pt 2 rfl rfl rfl ?_ | refine reg_load_pt 3 rfl rfl rfl ?_ | refine reg_load_pt 4 rfl rfl rfl ?_ | refine reg_load_pt 5 rfl rfl rfl ?_)
        | ((with_reducible refine tag_call ?_); refine reg_len_slice rfl ?_)
        | ((with_reducible refine tag_extract ?_); refine reg_pure rfl ?_)
        | ((with_reducible refine tag_bin ?_); first | refine reg_eqlT rfl rfl (by omega) ?_ | refine reg_eqlF rfl rfl (by omega) ?_ | refine reg_lssT rfl rfl (by omega) ?_ | refine reg_lssF rfl rfl (by omega) ?_ | refine reg_gtrT rfl rfl (by omega) ?_ | refine reg_gtrF rfl rfl (by omega) ?_ | refine reg_add64 rfl rfl (by omega) ?_ | refine reg_eql rfl rfl ?_ | refine reg_lss rfl rfl ?_ | refine reg_gtr rfl rfl ?_ | refine reg_rem64 rfl rfl (by omega) ?_ | refine reg_eq_nil rfl rfl ?_ | refine reg_eqB rfl rfl ?_)
        | ((with_reducible refine tag_un ?_); first | refine reg_not rfl ?_ | refine reg_notB rfl ?_)
        | ((with_reducible refine tag_pick ?_); first | refine reg_pickT rfl ?_ | refine reg_pickF rfl ?_ | refine reg_pick rfl rfl rfl ?_)
        | ((with_reducible refine tag_store ?_); first | refine reg_store 0 rfl rfl rfl rfl rfl rfl rfl ?_ | refine reg_store 1 rfl rfl rfl rfl rfl rfl rfl ?_ | refine reg_store 2 rfl rfl rfl rfl rfl rfl rfl ?_ | refine reg_store 3 rfl rfl rfl rfl rfl rfl rfl ?_ | refine reg_store 4 rfl rfl rfl rfl rfl rfl rfl ?_ | refine reg_store 5 rfl rfl rfl rfl rfl rfl rfl ?_)
        | ((with_reducible refine tag_index ?_); first | refine reg_index_slice rfl rfl (by omega) ?_ | refine reg_index_array rfl rfl (by omega) ?_)
        | ((with_reducible refine tag_alloc ?_); refine reg_alloc (fun nb => ?_)))
  all_goals refine reg_nil ?_
  all_goals repeat (first | refine run_seq ?_ | refine run_block ?_ | refine run_skip ?_ | refine run_inBlock ?_)
  repeat (first | refine run_seq ?_ | refine run_block ?_ | refine run_skip ?_ | refine run_inBlock ?_)
  first | refine run_region (by kernel_rfl) ?_ | refine run_drawA PP_mixed (by kernel_rfl) (by kernel_rfl) ?_
  repeat' (refine reg_cons rfl ?_; first
        | ((with_reducible refine tag_guard ?_); first | refine reg_guard_in rfl ?_ | refine reg_guard_out rfl ?_ | refine reg_guard_none rfl ?_ | refine reg_guard rfl rfl (fun _ => ?_) (fun _ => ?_))
        | ((with_reducible refine tag_move ?_); refine reg_pure rfl ?_)
        | ((with_reducible refine tag_assign ?_); refine reg_pure rfl ?_)
        | ((with_reducible refine tag_load ?_); first | refine reg_load_sh 0 rfl rfl rfl ?_ | refine reg_load_sh 1 rfl rfl rfl ?_ | refine reg_load_sh 2 rfl rfl rfl ?_ | refine reg_load_sh 3 rfl rfl rfl ?_ | refine reg_load_sh 4 rfl rfl rfl ?_ | refine reg_load_sh 5 rfl rfl rfl ?_ | refine reg_load_pt 0 rfl rfl rfl ?_ | refine reg_load_pt 1 rfl rfl rfl ?_ | refine reg_load_pt 2 rfl rfl rfl ?_ | refine reg_load_pt 3 rfl rfl rfl ?_ | refine reg_load_pt 4 rfl rfl rfl ?_ | refine reg_load_pt 5 rfl rfl rfl ?_)
        | ((with_reducible refine tag_call ?_); refine reg_len_slice rfl ?_)
        | ((with_reducible refine tag_extract ?_); refine reg_pure rfl ?_)
        | ((with_reducible refine tag_bin ?_); first | refine reg_eqlT rfl rfl (by omega) ?_ | refine reg_eqlF rfl rfl (by omega) ?_ | refine reg_lssT rfl rfl (by omega) ?_ | refine reg_lssF rfl rfl (by omega) ?_ | refine reg_gtrT rfl rfl (by omega) ?_ | refine reg_gtrF rfl rfl (by omega) ?_ | refine reg_add64 rfl rfl (by omega) ?_ | refine reg_eql rfl rfl ?_ | refine reg_lss rfl rfl ?_ | refine reg_gtr rfl rfl ?_ | refine reg_rem64 rfl rfl (by omega) ?_ | refine reg_eq_nil rfl rfl ?_ | refine reg_eqB rfl rfl ?_)
        | ((with_reducible refine tag_un ?_); first | refine reg_not rfl ?_ | refine reg_notB rfl ?_)
        | ((with_reducible refine tag_pick ?_); first | refine reg_pickT rfl ?_ | refine reg_pickF rfl ?_ | refine reg_pick rfl rfl rfl ?_)
        | ((with_reducible refine tag_store ?_); first | refine reg_store 0 rfl rfl rfl rfl rfl rfl rfl ?_ | refine reg_store 1 rfl rfl rfl rfl rfl rfl rfl ?_ | refine reg_store 2 rfl rfl rfl rfl rfl rfl rfl ?_ | refine reg_store 3 rfl rfl rfl rfl rfl rfl rfl ?_ | refine reg_store 4 rfl rfl rfl rfl rfl rfl rfl ?_ | refine reg_store 5 rfl rfl rfl rfl rfl rfl rfl ?_)
        | ((with_reducible refine tag_index ?_); first | refine reg_index_slice rfl rfl (by omega) ?_ | refine reg_index_array rfl rfl (by omega) ?_)
        | ((with_reducible refine tag_alloc ?_); refine reg_alloc (fun nb => ?_)))
  all_goals refine reg_nil ?_
  all_goals repeat (first | refine run_seq ?_ | refine run_block ?_ | refine run_skip ?_ | refine run_inBlock ?_)
  repeat (first | refine run_seq ?_ | refine run_block ?_ | refine run_skip ?_ | refine run_inBlock ?_)
  first | refine run_region (by kernel_rfl) ?_ | refine run_drawA PP_mixed (by kernel_rfl) (by kernel_rfl) ?_
  repeat' (refine reg_cons rfl ?_; first
        | ((with_reducible refine tag_guard ?_); first | refine reg_guard_in rfl ?_ | refine reg_guard_out rfl ?_ | refine reg_guard_none rfl ?_ | refine reg_guard rfl rfl (fun _ => ?_) (fun _ => ?_))
        | ((with_reducible refine tag_move ?_); refine reg_pure rfl ?_)
        | ((with_reducible refine tag_assign ?_); refine reg_pure rfl ?_)
        | ((with_reducible refine tag_load ?_); first | refine reg_load_sh 0 rfl rfl rfl ?_ | refine reg_load_sh 1 rfl rfl rfl ?_ | refine reg_load_sh 2 rfl rfl rfl ?_ | refine reg_load_sh 3 rfl rfl rfl ?_ | refine reg_load_sh 4 rfl rfl rfl ?_ | refine reg_load_sh 5 rfl rfl rfl ?_ | refine reg_load_pt 0 rfl rfl rfl ?_ | refine reg_load_pt 1 rfl rfl rfl ?_ | refine reg_load_pt 2 rfl rfl rfl ?_ | refine reg_load_pt 3 rfl rfl rfl ?_ | refine reg_load_pt 4 rfl rfl rfl ?_ | refine reg_load_pt 5 rfl rfl rfl ?_)
        | ((with_reducible refine tag_call ?_); refine reg_len_slice rfl ?_)
        | ((with_reducible refine tag_extract ?_); refine reg_pure rfl ?_)
        | ((with_reducible refine tag_bin ?_); first | refine reg_eqlT rfl rfl (by omega) ?_ | refine reg_eqlF rfl rfl (by omega) ?_ | refine reg_lssT rfl rfl (by omega) ?_ | refine reg_lssF rfl rfl (by omega) ?_ | refine reg_gtrT rfl rfl (by omega) ?_ | refine reg_gtrF rfl rfl (by omega) ?_ | refine reg_add64 rfl rfl (by omega) ?_ | refine reg_eql rfl rfl ?_ | refine reg_lss rfl rfl ?_ | refine reg_gtr rfl rfl ?_ | refine reg_rem64 rfl rfl (by omega) ?_ | refine reg_eq_nil rfl rfl ?_ | refine reg_eqB rfl rfl ?_)
        | ((with_reducible refine tag_un ?_); first | refine reg_not rfl ?_ | refine reg_notB rfl ?_)
        | ((with_reducible refine tag_pick ?_); first | refine reg_pickT rfl ?_ | refine reg_pickF rfl ?_ | refine reg_pick rfl rfl rfl ?_)
        | ((with_reducible refine tag_store ?_); first | refine reg_store 0 rfl rfl rfl rfl rfl rfl rfl ?_ | refine reg_store 1 rfl rfl rfl rfl rfl rfl rfl ?_ | refine reg_store 2 rfl rfl rfl rfl rfl rfl rfl ?_ | refine reg_store 3 rfl rfl rfl rfl rfl rfl rfl ?_ | refine reg_store 4 rfl rfl rfl rfl rfl rfl rfl ?_ | refine reg_store 5 rfl rfl rfl rfl rfl rfl rfl ?_)
        | ((with_reducible refine tag_index ?_); first | refine reg_index_slice rfl rfl (by omega) ?_ | refine reg_index_array rfl rfl (by omega) ?_)
        | ((with_reducible refine tag_alloc ?_); refine reg_alloc (fun nb => ?_)))
  all_goals refine reg_nil ?_
  all_goals repeat (first | refine run_seq ?_ | refine run_block ?_ | refine run_skip ?_ | refine run_inBlock ?_)
  refine run_slots [(1, .slice a l.length cap), (5, ptr b1), (7, spP p), (8, .slice none 0 0), (9, .int .i64 0)] ⟨rfl, rfl, rfl, rfl, rfl, trivial⟩ (fun junk => ?_)
  refine run_emp (A := LA (.slice none 0 0) []) ⟨none, 0, rfl, SlA_nil⟩ ?_
  refine run_loop (S := Nat × Nat × Value) (fun st => [(1, .slice a l.length cap), (5, ptr b1), (7, spP p), (8, st.2.2), (9, .int .i64 (st.1 : Int))])
    (fun st Γ => Γ = [ArrA p K (runL K l st.1) st.2.1, LA st.2.2 (runL K l st.1)] ∧ st.1 ≤ l.length ∧ 700 ≤ st.2.1 + st.1) (fun st => l.length - st.1) (0, 1000, .slice none 0 0) ⟨rfl, rfl, rfl, rfl, rfl, trivial⟩ ⟨rfl, Nat.zero_le _, by decide⟩ ?_
  rintro ⟨k, c, vm⟩ Γ junk ⟨rfl, hk, hc⟩
  dsimp only at hk hc ⊢
  have hrl := runL_len K l k
  by_cases hlt : k < l.length
  · have hx : l[k]? = some l[k] := List.getElem?_eq_getElem hlt
    generalize l[k] = x at hx
    obtain ⟨b, off, cc, TT, fr, rfl, hh, hcc⟩ := hmem.resolve_left (by intro e; subst e; simp at hlt)
    have hcx := rd_cells (c := cc) (o := off + k * 4) (vs := x.cells) (hcc k x hx).1 (fun q u hu => by rw [Nat.add_assoc]; exact (hcc k x hx).2 q u hu)
    have hxo := hok x (List.mem_of_getElem? hx)
    have hD := done_spec w0 hw p hK (runL K l k) (by omega) (c - 1) vm x hxo
    rw [show c - 1 + 1 = c by omega, ← runL_succ hx] at hD
    repeat (first | refine run_seq ?_ | refine run_block ?_ | refine run_skip ?_ | refine run_inBlock ?_)
    first | refine run_region (by kernel_rfl) ?_ | refine run_drawA PP_mixed (by kernel_rfl) (by kernel_rfl) ?_
    repeat' (refine reg_cons rfl ?_; first
          | refine reg_load_base rfl hh (hcx _ (by omega)) ?_
          | (refine reg_call [0, 0] hD rfl rfl rfl sub_nil ?_; rintro v1 Γ1 ⟨vm2, c2, hc2, rfl, rfl⟩)
          | ((with_reducible refine tag_guard ?_); first | refine reg_guard_in rfl ?_ | refine reg_guard_out rfl ?_ | refine reg_guard_none rfl ?_ | refine reg_guard rfl rfl (fun _ => ?_) (fun _ => ?_))
          | ((with_reducible refine tag_move ?_); refine reg_pure rfl ?_)
          | ((with_reducible refine tag_assign ?_); refine reg_pure rfl ?_)
          | ((with_reducible refine tag_load ?_); first | refine reg_load_sh 0 rfl rfl rfl ?_ | refine reg_load_sh 1 rfl rfl rfl ?_ | refine reg_load_sh 2 rfl rfl rfl ?_ | refine reg_load_sh 3 rfl rfl rfl ?_ | refine reg_load_sh 4 rfl rfl rfl ?_ | refine reg_load_sh 5 rfl rfl rfl ?_ | refine reg_load_pt 0 rfl rfl rfl ?_ | refine reg_load_pt 1 rfl rfl rfl ?_ | refine reg_load_pt 2 rfl rfl rfl ?_ | refine reg_load_pt 3 rfl rfl rfl ?_ | refine reg_load_pt 4 rfl rfl rfl ?_ | refine reg_load_pt 5 rfl rfl rfl ?_)
          | ((with_reducible refine tag_call ?_); refine reg_len_slice rfl ?_)
          | ((with_reducible refine tag_extract ?_); refine reg_pure rfl ?_)
          | ((with_reducible refine tag_bin ?_); first | refine reg_eqlT rfl rfl (by omega) ?_ | refine reg_eqlF rfl rfl (by omega) ?_ | refine reg_lssT rfl rfl (by omega) ?_ | refine reg_lssF rfl rfl (by omega) ?_ | refine reg_gtrT rfl rfl (by omega) ?_ | refine reg_gtrF rfl rfl (by omega) ?_ | refine reg_add64 rfl rfl (by omega) ?_ | refine reg_eql rfl rfl ?_ | refine reg_lss rfl rfl ?_ | refine reg_gtr rfl rfl ?_ | refine reg_rem64 rfl rfl (by omega) ?_ | refine reg_eq_nil rfl rfl ?_ | refine reg_eqB rfl rfl ?_)
          | ((with_reducible refine tag_un ?_); first | refine reg_not rfl ?_ | refine reg_notB rfl ?_)
          | ((with_reducible refine tag_pick ?_); first | refine reg_pickT rfl ?_ | refine reg_pickF rfl ?_ | refine reg_pick rfl rfl rfl ?_)
          | ((with_reducible refine tag_store ?_); first | refine reg_store 0 rfl rfl rfl rfl rfl rfl rfl ?_ | refine reg_store 1 rfl rfl rfl rfl rfl rfl rfl ?_ | refine reg_store 2 rfl rfl rfl rfl rfl rfl rfl ?_ | refine reg_store 3 rfl rfl rfl rfl rfl rfl rfl ?_ | refine reg_store 4 rfl rfl rfl rfl rfl rfl rfl ?_ | refine reg_store 5 rfl rfl rfl rfl rfl rfl rfl ?_)
          | ((with_reducible refine tag_index ?_); first | refine reg_index_slice rfl rfl (by omega) ?_ | refine reg_index_array rfl rfl (by omega) ?_)
          | ((with_reducible refine tag_alloc ?_); refine reg_alloc (fun nb => ?_)))
    all_goals refine reg_nil ?_
    all_goals repeat (first | refine run_seq ?_ | refine run_block ?_ | refine run_skip ?_ | refine run_inBlock ?_)
    refine run_condT rfl ?_
    repeat (first | refine run_seq ?_ | refine run_block ?_ | refine run_skip ?_ | refine run_inBlock ?_ | refine run_inLoop ?_)
    repeat (first | refine run_seq ?_ | refine run_block ?_ | refine run_skip ?_ | refine run_inBlock ?_)
    first | refine run_region (by kernel_rfl) ?_ | refine run_drawA PP_mixed (by kernel_rfl) (by kernel_rfl) ?_
    repeat' (refine reg_cons rfl ?_; first
          | refine reg_load_base rfl hh (hcx _ (by omega)) ?_
          | (refine reg_call [0, 0] hD rfl rfl rfl sub_nil ?_; rintro v1 Γ1 ⟨vm2, c2, hc2, rfl, rfl⟩)
          | ((with_reducible refine tag_guard ?_); first | refine reg_guard_in rfl ?_ | refine reg_guard_out rfl ?_ | refine reg_guard_none rfl ?_ | refine reg_guard rfl rfl (fun _ => ?_) (fun _ => ?_))
          | ((with_reducible refine tag_move ?_); refine reg_pure rfl ?_)
          | ((with_reducible refine tag_assign ?_); refine reg_pure rfl ?_)
          | ((with_reducible refine tag_load ?_); first | refine reg_load_sh 0 rfl rfl rfl ?_ | refine reg_load_sh 1 rfl rfl rfl ?_ | refine reg_load_sh 2 rfl rfl rfl ?_ | refine reg_load_sh 3 rfl rfl rfl ?_ | refine reg_load_sh 4 rfl rfl rfl ?_ | refine reg_load_sh 5 rfl rfl rfl ?_ | refine reg_load_pt 0 rfl rfl rfl ?_ | refine reg_load_pt 1 rfl rfl rfl ?_ | refine reg_load_pt 2 rfl rfl rfl ?_ | refine reg_load_pt 3 rfl rfl rfl ?_ | refine reg_load_pt 4 rfl rfl rfl ?_ | refine reg_load_pt 5 rfl rfl rfl ?_)
          | ((with_reducible refine tag_call ?_); refine reg_len_slice rfl ?_)
          | ((with_reducible refine tag_extract ?_); refine reg_pure rfl ?_)
          | ((with_reducible refine tag_bin ?_); first | refine reg_eqlT rfl rfl (by omega) ?_ | refine reg_eqlF rfl rfl (by omega) ?_ | refine reg_lssT rfl rfl (by omega) ?_ | refine reg_lssF rfl rfl (by omega) ?_ | refine reg_gtrT rfl rfl (by omega) ?_ | refine reg_gtrF rfl rfl (by omega) ?_ | refine reg_add64 rfl rfl (by omega) ?_ | refine reg_eql rfl rfl ?_ | refine reg_lss rfl rfl ?_ | refine reg_gtr rfl rfl ?_ | refine reg_rem64 rfl rfl (by omega) ?_ | refine reg_eq_nil rfl rfl ?_ | refine reg_eqB rfl rfl ?_)
          | ((with_reducible refine tag_un ?_); first | refine reg_not rfl ?_ | refine reg_notB rfl ?_)
          | ((with_reducible refine tag_pick ?_); first | refine reg_pickT rfl ?_ | refine reg_pickF rfl ?_ | refine reg_pick rfl rfl rfl ?_)
          | ((with_reducible refine tag_store ?_); first | refine reg_store 0 rfl rfl rfl rfl rfl rfl rfl ?_ | refine reg_store 1 rfl rfl rfl rfl rfl rfl rfl ?_ | refine reg_store 2 rfl rfl rfl rfl rfl rfl rfl ?_ | refine reg_store 3 rfl rfl rfl rfl rfl rfl rfl ?_ | refine reg_store 4 rfl rfl rfl rfl rfl rfl rfl ?_ | refine reg_store 5 rfl rfl rfl rfl rfl rfl rfl ?_)
          | ((with_reducible refine tag_index ?_); first | refine reg_index_slice rfl rfl (by omega) ?_ | refine reg_index_array rfl rfl (by omega) ?_)
          | ((with_reducible refine tag_alloc ?_); refine reg_alloc (fun nb => ?_)))
    all_goals refine reg_nil ?_
    all_goals repeat (first | refine run_seq ?_ | refine run_block ?_ | refine run_skip ?_ | refine run_inBlock ?_)
    have hrl2 := runL_len K l (k + 1)
    have hTl := tells_spec w0 hw p hK (runL K l (k + 1)) (by omega) c2 vm2
    by_cases h4 : (k : Int) % 4 = 0
    · repeat' (first
        | refine run_seq ?_
        | refine run_region (by kernel_rfl) ?_
        | refine run_drawA PP_mixed (by kernel_rfl) (by kernel_rfl) ?_
        | refine run_skip ?_
        | refine run_block ?_
        | refine run_inBlock ?_
        | refine run_inLoop ?_
        | refine run_exit rfl ?_
        | (refine reg_cons rfl ?_; first
            | ((with_reducible refine tag_guard ?_); first | refine reg_guard_in rfl ?_ | refine reg_guard_out rfl ?_ | refine reg_guard_none rfl ?_ | refine reg_guard rfl rfl (fun _ => ?_) (fun _ => ?_))
            | ((with_reducible refine tag_move ?_); refine reg_pure rfl ?_)
            | ((with_reducible refine tag_assign ?_); refine reg_pure rfl ?_)
            | ((with_reducible refine tag_load ?_); first | refine reg_load_sh 0 rfl rfl rfl ?_ | refine reg_load_sh 1 rfl rfl rfl ?_ | refine reg_load_sh 2 rfl rfl rfl ?_ | refine reg_load_sh 3 rfl rfl rfl ?_ | refine reg_load_sh 4 rfl rfl rfl ?_ | refine reg_load_sh 5 rfl rfl rfl ?_ | refine reg_load_pt 0 rfl rfl rfl ?_ | refine reg_load_pt 1 rfl rfl rfl ?_ | refine reg_load_pt 2 rfl rfl rfl ?_ | refine reg_load_pt 3 rfl rfl rfl ?_ | refine reg_load_pt 4 rfl rfl rfl ?_ | refine reg_load_pt 5 rfl rfl rfl ?_)
            | ((with_reducible refine tag_call ?_); first | refine reg_callE [0, 0] hTl rfl rfl rfl sub_nil rfl ?_ | refine reg_len_slice rfl ?_)
            | ((with_reducible refine tag_extract ?_); refine reg_pure rfl ?_)
            | ((with_reducible refine tag_bin ?_); first | refine reg_eqlT rfl rfl (by omega) ?_ | refine reg_eqlF rfl rfl (by omega) ?_ | refine reg_lssT rfl rfl (by omega) ?_ | refine reg_lssF rfl rfl (by omega) ?_ | refine reg_gtrT rfl rfl (by omega) ?_ | refine reg_gtrF rfl rfl (by omega) ?_ | refine reg_add64 rfl rfl (by omega) ?_ | refine reg_eql rfl rfl ?_ | refine reg_lss rfl rfl ?_ | refine reg_gtr rfl rfl ?_ | refine reg_rem64 rfl rfl (by omega) ?_ | refine reg_eq_nil rfl rfl ?_ | refine reg_eqB rfl rfl ?_)
            | ((with_reducible refine tag_un ?_); first | refine reg_not rfl ?_ | refine reg_notB rfl ?_)
            | ((with_reducible refine tag_pick ?_); first | refine reg_pickT rfl ?_ | refine reg_pickF rfl ?_ | refine reg_pick rfl rfl rfl ?_)
            | ((with_reducible refine tag_store ?_); first | refine reg_store 0 rfl rfl rfl rfl rfl rfl rfl ?_ | refine reg_store 1 rfl rfl rfl rfl rfl rfl rfl ?_ | refine reg_store 2 rfl rfl rfl rfl rfl rfl rfl ?_ | refine reg_store 3 rfl rfl rfl rfl rfl rfl rfl ?_ | refine reg_store 4 rfl rfl rfl rfl rfl rfl rfl ?_ | refine reg_store 5 rfl rfl rfl rfl rfl rfl rfl ?_)
            | ((with_reducible refine tag_index ?_); first | refine reg_index_slice rfl rfl (by omega) ?_ | refine reg_index_array rfl rfl (by omega) ?_)
            | ((with_reducible refine tag_alloc ?_); refine reg_alloc (fun nb => ?_)))
        | refine reg_nil ?_
        | refine run_condT rfl ?_
        | refine run_condF rfl ?_)
      refine cut_end ⟨rfl, (k + 1, c2, vm2), ⟨rfl, rfl, rfl, rfl, int_eq (by dsimp only; omega), trivial⟩, ⟨rfl, by dsimp only; omega, by dsimp only; omega⟩, by dsimp only; omega⟩
    · repeat' (first
        | refine run_seq ?_
        | refine run_region (by kernel_rfl) ?_
        | refine run_drawA PP_mixed (by kernel_rfl) (by kernel_rfl) ?_
        | refine run_skip ?_
        | refine run_block ?_
        | refine run_inBlock ?_
        | refine run_inLoop ?_
        | refine run_exit rfl ?_
        | (refine reg_cons rfl ?_; first
            | ((with_reducible refine tag_guard ?_); first | refine reg_guard_in rfl ?_ | refine reg_guard_out rfl ?_ | refine reg_guard_none rfl ?_ | refine reg_guard rfl rfl (fun _ => ?_) (fun _ => ?_))
            | ((with_reducible refine tag_move ?_); refine reg_pure rfl ?_)
            | ((with_reducible refine tag_assign ?_); refine reg_pure rfl ?_)
            | ((with_reducible refine tag_load ?_); first | refine reg_load_sh 0 rfl rfl rfl ?_ | refine reg_load_sh 1 rfl rfl rfl ?_ | refine reg_load_sh 2 rfl rfl rfl ?_ | refine reg_load_sh 3 rfl rfl rfl ?_ | refine reg_load_sh 4 rfl rfl rfl ?_ | refine reg_load_sh 5 rfl rfl rfl ?_ | refine reg_load_pt 0 rfl rfl rfl ?_ | refine reg_load_pt 1 rfl rfl rfl ?_ | refine reg_load_pt 2 rfl rfl rfl ?_ | refine reg_load_pt 3 rfl rfl rfl ?_ | refine reg_load_pt 4 rfl rfl rfl ?_ | refine reg_load_pt 5 rfl rfl rfl ?_)
            | ((with_reducible refine tag_call ?_); first | refine reg_callE [0, 0] hTl rfl rfl rfl sub_nil rfl ?_ | refine reg_len_slice rfl ?_)
            | ((with_reducible refine tag_extract ?_); refine reg_pure rfl ?_)
            | ((with_reducible refine tag_bin ?_); first | refine reg_eqlT rfl rfl (by omega) ?_ | refine reg_eqlF rfl rfl (by omega) ?_ | refine reg_lssT rfl rfl (by omega) ?_ | refine reg_lssF rfl rfl (by omega) ?_ | refine reg_gtrT rfl rfl (by omega) ?_ | refine reg_gtrF rfl rfl (by omega) ?_ | refine reg_add64 rfl rfl (by omega) ?_ | refine reg_eql rfl rfl ?_ | refine reg_lss rfl rfl ?_ | refine reg_gtr rfl rfl ?_ | refine reg_rem64 rfl rfl (by omega) ?_ | refine reg_eq_nil rfl rfl ?_ | refine reg_eqB rfl rfl ?_)
            | ((with_reducible refine tag_un ?_); first | refine reg_not rfl ?_ | refine reg_notB rfl ?_)
            | ((with_reducible refine tag_pick ?_); first | refine reg_pickT rfl ?_ | refine reg_pickF rfl ?_ | refine reg_pick rfl rfl rfl ?_)
            | ((with_reducible refine tag_store ?_); first | refine reg_store 0 rfl rfl rfl rfl rfl rfl rfl ?_ | refine reg_store 1 rfl rfl rfl rfl rfl rfl rfl ?_ | refine reg_store 2 rfl rfl rfl rfl rfl rfl rfl ?_ | refine reg_store 3 rfl rfl rfl rfl rfl rfl rfl ?_ | refine reg_store 4 rfl rfl rfl rfl rfl rfl rfl ?_ | refine reg_store 5 rfl rfl rfl rfl rfl rfl rfl ?_)
            | ((with_reducible refine tag_index ?_); first | refine reg_index_slice rfl rfl (by omega) ?_ | refine reg_index_array rfl rfl (by omega) ?_)
            | ((with_reducible refine tag_alloc ?_); refine reg_alloc (fun nb => ?_)))
        | refine reg_nil ?_
        | refine run_condT rfl ?_
        | refine run_condF rfl ?_)
      refine cut_end ⟨rfl, (k + 1, c2, vm2), ⟨rfl, rfl, rfl, rfl, int_eq (by dsimp only; omega), trivial⟩, ⟨rfl, by dsimp only; omega, by dsimp only; omega⟩, by dsimp only; omega⟩
  · have hTl := tells_spec w0 hw p hK (runL K l k) (by omega) c vm
    repeat' (first
      | refine run_seq ?_
      | refine run_region (by kernel_rfl) ?_
      | refine run_drawA PP_mixed (by kernel_rfl) (by kernel_rfl) ?_
      | refine run_skip ?_
      | refine run_block ?_
      | refine run_inBlock ?_
      | refine run_inLoop ?_
      | refine run_exit rfl ?_
      | (refine reg_cons rfl ?_; first
          | ((with_reducible refine tag_guard ?_); first | refine reg_guard_in rfl ?_ | refine reg_guard_out rfl ?_ | refine reg_guard_none rfl ?_ | refine reg_guard rfl rfl (fun _ => ?_) (fun _ => ?_))
          | ((with_reducible refine tag_move ?_); refine reg_pure rfl ?_)
          | ((with_reducible refine tag_assign ?_); refine reg_pure rfl ?_)
          | ((with_reducible refine tag_load ?_); first | refine reg_load_sh 0 rfl rfl rfl ?_ | refine reg_load_sh 1 rfl rfl rfl ?_ | refine reg_load_sh 2 rfl rfl rfl ?_ | refine reg_load_sh 3 rfl rfl rfl ?_ | refine reg_load_sh 4 rfl rfl rfl ?_ | refine reg_load_sh 5 rfl rfl rfl ?_ | refine reg_load_pt 0 rfl rfl rfl ?_ | refine reg_load_pt 1 rfl rfl rfl ?_ | refine reg_load_pt 2 rfl rfl rfl ?_ | refine reg_load_pt 3 rfl rfl rfl ?_ | refine reg_load_pt 4 rfl rfl rfl ?_ | refine reg_load_pt 5 rfl rfl rfl ?_)
          | ((with_reducible refine tag_call ?_); refine reg_len_slice rfl ?_)
          | ((with_reducible refine tag_extract ?_); refine reg_pure rfl ?_)
          | ((with_reducible refine tag_bin ?_); first | refine reg_eqlT rfl rfl (by omega) ?_ | refine reg_eqlF rfl rfl (by omega) ?_ | refine reg_lssT rfl rfl (by omega) ?_ | refine reg_lssF rfl rfl (by omega) ?_ | refine reg_gtrT rfl rfl (by omega) ?_ | refine reg_gtrF rfl rfl (by omega) ?_ | refine reg_add64 rfl rfl (by omega) ?_ | refine reg_eql rfl rfl ?_ | refine reg_lss rfl rfl ?_ | refine reg_gtr rfl rfl ?_ | refine reg_rem64 rfl rfl (by omega) ?_ | refine reg_eq_nil rfl rfl ?_ | refine reg_eqB rfl rfl ?_)
          | ((with_reducible refine tag_un ?_); first | refine reg_not rfl ?_ | refine reg_notB rfl ?_)
          | ((with_reducible refine tag_pick ?_); first | refine reg_pickT rfl ?_ | refine reg_pickF rfl ?_ | refine reg_pick rfl rfl rfl ?_)
          | ((with_reducible refine tag_store ?_); first | refine reg_store 0 rfl rfl rfl rfl rfl rfl rfl ?_ | refine reg_store 1 rfl rfl rfl rfl rfl rfl rfl ?_ | refine reg_store 2 rfl rfl rfl rfl rfl rfl rfl ?_ | refine reg_store 3 rfl rfl rfl rfl rfl rfl rfl ?_ | refine reg_store 4 rfl rfl rfl rfl rfl rfl rfl ?_ | refine reg_store 5 rfl rfl rfl rfl rfl rfl rfl ?_)
          | ((with_reducible refine tag_index ?_); first | refine reg_index_slice rfl rfl (by omega) ?_ | refine reg_index_array rfl rfl (by omega) ?_)
          | ((with_reducible refine tag_alloc ?_); refine reg_alloc (fun nb => ?_)))
      | refine reg_nil ?_
      | refine run_condT rfl ?_
      | refine run_condF rfl ?_)
    refine cut_exit rfl rfl ?_
    repeat' (first
      | refine run_seq ?_
      | refine run_region (by kernel_rfl) ?_
      | refine run_drawA PP_mixed (by kernel_rfl) (by kernel_rfl) ?_
      | refine run_skip ?_
      | refine run_block ?_
      | refine run_inBlock ?_
      | refine run_inLoop ?_
      | refine run_exit rfl ?_
      | (refine reg_cons rfl ?_; first
          | ((with_reducible refine tag_guard ?_); first | refine reg_guard_in rfl ?_ | refine reg_guard_out rfl ?_ | refine reg_guard_none rfl ?_ | refine reg_guard rfl rfl (fun _ => ?_) (fun _ => ?_))
          | ((with_reducible refine tag_move ?_); refine reg_pure rfl ?_)
          | ((with_reducible refine tag_assign ?_); refine reg_pure rfl ?_)
          | ((with_reducible refine tag_load ?_); first | refine reg_load_sh 0 rfl rfl rfl ?_ | refine reg_load_sh 1 rfl rfl rfl ?_ | refine reg_load_sh 2 rfl rfl rfl ?_ | refine reg_load_sh 3 rfl rfl rfl ?_ | refine reg_load_sh 4 rfl rfl rfl ?_ | refine reg_load_sh 5 rfl rfl rfl ?_ | refine reg_load_pt 0 rfl rfl rfl ?_ | refine reg_load_pt 1 rfl rfl rfl ?_ | refine reg_load_pt 2 rfl rfl rfl ?_ | refine reg_load_pt 3 rfl rfl rfl ?_ | refine reg_load_pt 4 rfl rfl rfl ?_ | refine reg_load_pt 5 rfl rfl rfl ?_)
          | ((with_reducible refine tag_call ?_); first | refine reg_callE [0, 0] hTl rfl rfl rfl sub_nil rfl ?_ | refine reg_callE [] (awake_spec w0 hw) rfl rfl rfl sub_nil rfl ?_ | refine reg_len_slice rfl ?_)
          | ((with_reducible refine tag_extract ?_); refine reg_pure rfl ?_)
          | ((with_reducible refine tag_bin ?_); first | refine reg_eqlT rfl rfl (by omega) ?_ | refine reg_eqlF rfl rfl (by omega) ?_ | refine reg_lssT rfl rfl (by omega) ?_ | refine reg_lssF rfl rfl (by omega) ?_ | refine reg_gtrT rfl rfl (by omega) ?_ | refine reg_gtrF rfl rfl (by omega) ?_ | refine reg_add64 rfl rfl (by omega) ?_ | refine reg_eql rfl rfl ?_ | refine reg_lss rfl rfl ?_ | refine reg_gtr rfl rfl ?_ | refine reg_rem64 rfl rfl (by omega) ?_ | refine reg_eq_nil rfl rfl ?_ | refine reg_eqB rfl rfl ?_)
          | ((with_reducible refine tag_un ?_); first | refine reg_not rfl ?_ | refine reg_notB rfl ?_)
          | ((with_reducible refine tag_pick ?_); first | refine reg_pickT rfl ?_ | refine reg_pickF rfl ?_ | refine reg_pick rfl rfl rfl ?_)
          | ((with_reducible refine tag_store ?_); first | refine reg_store 0 rfl rfl rfl rfl rfl rfl rfl ?_ | refine reg_store 1 rfl rfl rfl rfl rfl rfl rfl ?_ | refine reg_store 2 rfl rfl rfl rfl rfl rfl rfl ?_ | refine reg_store 3 rfl rfl rfl rfl rfl rfl rfl ?_ | refine reg_store 4 rfl rfl rfl rfl rfl rfl rfl ?_ | refine reg_store 5 rfl rfl rfl rfl rfl rfl rfl ?_)
          | ((with_reducible refine tag_index ?_); first | refine reg_index_slice rfl rfl (by omega) ?_ | refine reg_index_array rfl rfl (by omega) ?_)
          | ((with_reducible refine tag_alloc ?_); refine reg_alloc (fun nb => ?_)))
      | refine reg_nil ?_
      | refine run_condT rfl ?_
      | refine run_condF rfl ?_)
    refine run_ret (leaves_nil (ends_take [] rfl (ends_one rfl rfl ⟨rfl, rfl, rfl⟩)))
end Go.Proofs.YtilnknokgflkjaaDoor

