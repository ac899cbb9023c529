import Derived.Test.YtpcnbaddkblbhaaPart3
import Derived.Test.YtpcnbaddkblbhaaKit1
import Derived.Test.YtpcnbaddkblbhaaPart2
/- Lemmas and walks for the claims of this seat (own work): Fo6 Wr0 Wq0 Dn0 Dn1 Rg0 Rg1 Lw0 Lw1 Lw2 Lw3. -/
/- The walk of package forest: Make. -/
namespace Go.Proofs.Ytpcnbaddkblbhaa
open Go.Vc Sim
set_option maxHeartbeats 4000000
abbrev cel (b : Nat) (v : Value) (T : TypeId) : Asn := pt b (.cells (List.toArray [v]) T (0, 0))
abbrev celO (v : Value) (T : TypeId) : Obj := .cells (List.toArray [v]) T (0, 0)
theorem foMake1 (w0 : World) (p : Nat) (s : Sp) (m : Nat) (e x : Int) (eb sb mb xb : Nat) :
    FnD PP w0 [] 46 [.pointer (some ⟨eb, 0, none⟩), .pointer (some ⟨sb, 0, none⟩), .pointer (some ⟨mb, 0, none⟩), .pointer (some ⟨xb, 0, none⟩)]
    [SpaceA p s, cel xb (.int .i64 x) 2, cel eb (.int .i64 e) 49, cel mb (.int .i64 m) 3, cel sb (spP p) 45]
    fun v Γ' => v = .tuple #[] ∧ Γ' = [SpaceA p (if e ≠ 0 then s.back m else s), cel xb (.int .i64 (if e ≠ 0 then 0 else x)) 2, cel eb (.int .i64 e) 49, cel mb (.int .i64 m) 3, cel sb (spP p) 45] := by
  refine fnD_of_run en46 fn46 rfl rfl rfl ?_
 
  repeat' (first | refine zck ?_ | refine zcp (by kernel_rfl) ?_ | (refine zap rfl ?_; first | ((with_reducible refine zcw ?_); refine zab 2 rfl rfl rfl ?_) | ((with_reducible refine zda ?_); refine zbp rfl rfl ?_)) | refine zch ?_)
  refine run_cond rfl (fun hE => ?_) (fun hE => ?_)
  · repeat' (first | refine zck ?_ | refine zcp (by kernel_rfl) ?_ | (refine zap rfl ?_; first | ((with_reducible refine zcw ?_); first | refine zab 3 rfl rfl rfl ?_ | refine zab 4 rfl rfl rfl ?_) | ((with_reducible refine zcx ?_); refine zah [0] (back_spec w0 p s m) rfl rfl rfl sub_nil rfl ?_) | ((with_reducible refine zdd ?_); refine zae 1 rfl rfl rfl rfl rfl rfl rfl ?_)) | refine zch ?_)
    refine run_nil ⟨rfl, ends_none rfl ?_⟩
    rw [if_pos hE, if_pos hE]; exact ⟨rfl, rfl⟩
  · repeat' (first | refine zcm ?_ | (refine zap rfl ?_; first | ((with_reducible refine zct ?_); first | refine zaj rfl ?_ | refine zak rfl ?_ | refine zal rfl ?_ | refine zam rfl rfl (fun _ => ?_) (fun _ => ?_))) | refine zch ?_)
    refine run_nil ⟨rfl, ends_none rfl ?_⟩
    rw [if_neg hE, if_neg hE]; exact ⟨rfl, rfl⟩
def makeD (eb sb mb xb : Nat) : Deferred := { target := .fn (.func 46) (List.toArray [.pointer (some ⟨eb, 0, none⟩), .pointer (some ⟨sb, 0, none⟩), .pointer (some ⟨mb, 0, none⟩), .pointer (some ⟨xb, 0, none⟩)]), args := List.toArray [] }
theorem make_fin (w0 : World) (p eb sb mb xb : Nat) (m : Nat) (R : (Int × Int) × Sp) (x e : Int) (s : Sp) (ρ : Env) (h4 : ρ 4 = .pointer (some ⟨xb, 0, none⟩)) (h5 : ρ 5 = .pointer (some ⟨eb, 0, none⟩)) (hG : At R (Fo.after m (x, e)) s) :
    LeavesS PP w0 [] Try.f18 ρ [makeD eb sb mb xb] [SpaceA p s, cel xb (.int .i64 x) 2, cel eb (.int .i64 e) 49, cel mb (.int .i64 m) 3, cel sb (spP p) 45] (fun v Γ => v = encI2 R.1 ∧ Γ = [SpaceA p R.2]) := by
  refine leaves_defer1 [0, 0, 0, 0, 0] (foMake1 w0 p s m e x eb sb mb xb) rfl rfl sub_nil ?_
  refine leaves_nil (ends_take [0] rfl (ends_two rfl (resOk_pt 1 h4 rfl rfl) (resOk_pt 2 h5 rfl rfl) ?_))
  refine ⟨rfl, ?_⟩
  unfold Fo.after at hG
  by_cases hE : e ≠ 0
  · dsimp only at hG
    rw [if_pos hE] at hG
    rw [hG.step.2.done, if_pos hE, if_pos hE]
    exact ⟨rfl, rfl⟩
  · dsimp only at hG
    rw [if_neg hE] at hG
    rw [hG.done, if_neg hE, if_neg hE]
    exact ⟨rfl, rfl⟩
theorem foMake (w0 : World) (p : Nat) (F : Fo) (hF : F.Ok) : FnG w0 [] 18 [foV F, spP p] p F.make encI2 := by
  obtain ⟨_, h1, h2⟩ := id hF
  intro s hS; have hG := At.start hS; generalize Pg.run _ s = R at hG ⊢
  refine fn_of_run en18 fn18 rfl rfl rfl ?_
  repeat (first | refine zck ?_ | refine zcl ?_ | refine zcm ?_ | refine zcn ?_)
  first | refine zcp (by kernel_rfl) ?_ | refine zcq PP_mixed (by kernel_rfl) (by kernel_rfl) ?_
  repeat' (refine zap rfl ?_; first | ((with_reducible refine zdg ?_); first | refine zaq (cs := [_]) rfl (fun nb => ?_) | refine zaq (cs := [_, _, _, _]) rfl (fun nb => ?_)) | ((with_reducible refine zdh ?_); refine zar (fun nb => ?_)))
  all_goals refine zch ?_
  all_goals repeat (first | refine zck ?_ | refine zcl ?_ | refine zcm ?_ | refine zcn ?_)
  rename_i fb sb xb
  revert nb; intro eb
  refine run_share [1] rfl ?_
  refine run_share_keep [1] rfl ?_
  repeat (first | refine zck ?_ | refine zcl ?_ | refine zcm ?_ | refine zcn ?_)
  first | refine zcp (by kernel_rfl) ?_ | refine zcq PP_mixed (by kernel_rfl) (by kernel_rfl) ?_
  repeat' (refine zap rfl ?_; first | ((with_reducible refine zcu ?_); refine zan rfl ?_) | ((with_reducible refine zcv ?_); refine zan rfl ?_) | ((with_reducible refine zcw ?_); first | refine zaa 0 rfl rfl rfl ?_ | refine zaa 1 rfl rfl rfl ?_) | ((with_reducible refine zcx ?_); refine reg_callGP [0] hG F.all_many (foMany w0 p F hF) rfl rfl rfl sub_nil (fun n s hn hG => ?_)) | ((with_reducible refine zcz ?_); refine zan rfl ?_))
  all_goals refine zch ?_
  all_goals repeat (first | refine zck ?_ | refine zcl ?_ | refine zcm ?_ | refine zcn ?_)
  obtain ⟨n1, n2⟩ := n
  dsimp only at hn hG
  cases n2 with
  | false =>
    rw [if_neg (by decide)] at hG
    rw [hG.done]
    repeat' (first | refine zck ?_ | refine zcp (by kernel_rfl) ?_ | (refine zap rfl ?_; first | refine zbx rfl ?_ | ((with_reducible refine zcu ?_); refine zan rfl ?_) | ((with_reducible refine zcv ?_); refine zan rfl ?_) | ((with_reducible refine zdd ?_); first | refine zae 1 rfl rfl rfl rfl rfl rfl rfl ?_ | refine zae 2 rfl rfl rfl rfl rfl rfl rfl ?_)) | refine zch ?_ | refine zci rfl ?_)
    exact run_ret (leaves_nil (ends_take [0] rfl (ends_two rfl (resOk_pt 1 rfl rfl rfl) (resOk_pt 2 rfl rfl rfl) ⟨rfl, rfl, rfl⟩)))
  | true =>
    rw [if_pos rfl] at hG
    have hn := hn rfl
    by_cases c1 : n1 = 64
    · rw [if_pos c1] at hG
      rw [hG.done]
      repeat' (first | refine zck ?_ | refine zcp (by kernel_rfl) ?_ | (refine zap rfl ?_; first | refine zbx rfl ?_ | ((with_reducible refine zcu ?_); refine zan rfl ?_) | ((with_reducible refine zcv ?_); refine zan rfl ?_) | ((with_reducible refine zda ?_); refine zbc rfl rfl (by omega) ?_) | ((with_reducible refine zdd ?_); first | refine zae 1 rfl rfl rfl rfl rfl rfl rfl ?_ | refine zae 2 rfl rfl rfl rfl rfl rfl rfl ?_)) | refine zch ?_ | refine zci rfl ?_ | refine zcj rfl ?_)
      exact run_ret (leaves_nil (ends_take [0] rfl (ends_two rfl (resOk_pt 1 rfl rfl rfl) (resOk_pt 2 rfl rfl rfl) ⟨rfl, rfl, rfl⟩)))
    rw [if_neg c1] at hG
    repeat (first | refine zck ?_ | refine zcl ?_ | refine zcm ?_ | refine zcn ?_)
    first | refine zcp (by kernel_rfl) ?_ | refine zcq PP_mixed (by kernel_rfl) (by kernel_rfl) ?_
    repeat' (refine zap rfl ?_; first | refine zbx rfl ?_ | ((with_reducible refine zcu ?_); refine zan rfl ?_) | ((with_reducible refine zcv ?_); refine zan rfl ?_))
    all_goals refine zch ?_
    all_goals repeat (first | refine zck ?_ | refine zcl ?_ | refine zcm ?_ | refine zcn ?_)
    refine zcj rfl ?_
    repeat (first | refine zck ?_ | refine zcl ?_ | refine zcm ?_ | refine zcn ?_)
    first | refine zcp (by kernel_rfl) ?_ | refine zcq PP_mixed (by kernel_rfl) (by kernel_rfl) ?_
    repeat' (refine zap rfl ?_; first | ((with_reducible refine zcu ?_); refine zan rfl ?_) | ((with_reducible refine zcv ?_); refine zan rfl ?_) | ((with_reducible refine zda ?_); refine zbd rfl rfl (by omega) ?_))
    all_goals refine zch ?_
    all_goals repeat (first | refine zck ?_ | refine zcl ?_ | refine zcm ?_ | refine zcn ?_)
    refine zcj rfl ?_
    repeat (first | refine zck ?_ | refine zcl ?_ | refine zcm ?_ | refine zcn ?_)
    first | refine zcp (by kernel_rfl) ?_ | refine zcq PP_mixed (by kernel_rfl) (by kernel_rfl) ?_
    repeat' (refine zap rfl ?_; first | ((with_reducible refine zcw ?_); refine zaa 0 rfl rfl rfl ?_) | ((with_reducible refine zcx ?_); refine reg_callG [0] hG (markG w0 p) rfl rfl rfl sub_nil (fun m s hG => ?_)) | ((with_reducible refine zdd ?_); refine zae 3 rfl rfl rfl rfl rfl rfl rfl ?_) | ((with_reducible refine zdh ?_); refine zar (fun nb => ?_)))
    all_goals refine zch ?_
    all_goals repeat (first | refine zck ?_ | refine zcl ?_ | refine zcm ?_ | refine zcn ?_)
    revert nb; intro mb
    refine run_share_keep [3] rfl ?_
    simp only [Fo.makeIn, Pg.bind_assoc, Pg.ite_bind, Pg.pure_bind] at hG
    repeat (first | refine zck ?_ | refine zcl ?_ | refine zcm ?_ | refine zcn ?_)
    first | refine zcp (by kernel_rfl) ?_ | refine zcq PP_mixed (by kernel_rfl) (by kernel_rfl) ?_
    repeat' (refine zap rfl ?_; first | refine zan rfl ?_ | refine zcd rfl rfl ?_)
    all_goals refine zch ?_
    all_goals repeat (first | refine zck ?_ | refine zcl ?_ | refine zcm ?_ | refine zcn ?_)
    repeat (first | refine zck ?_ | refine zcl ?_ | refine zcm ?_ | refine zcn ?_)
    first | refine zcp (by kernel_rfl) ?_ | refine zcq PP_mixed (by kernel_rfl) (by kernel_rfl) ?_
    repeat' (refine zap rfl ?_; first | ((with_reducible refine zcu ?_); refine zan rfl ?_) | ((with_reducible refine zda ?_); refine zau rfl rfl (by omega) ?_) | ((with_reducible refine zdd ?_); refine zae 1 rfl rfl rfl rfl rfl rfl rfl ?_))
    all_goals refine zch ?_
    all_goals repeat (first | refine zck ?_ | refine zcl ?_ | refine zcm ?_ | refine zcn ?_)
    repeat (first | refine zck ?_ | refine zcl ?_ | refine zcm ?_ | refine zcn ?_)
    first | refine zcp (by kernel_rfl) ?_ | refine zcq PP_mixed (by kernel_rfl) (by kernel_rfl) ?_
    repeat' (refine zap rfl ?_; first | ((with_reducible refine zcw ?_); first | refine zaa 1 rfl rfl rfl ?_ | refine zaa 2 rfl rfl rfl ?_ | refine zab 1 rfl rfl rfl ?_) | ((with_reducible refine zcx ?_); refine reg_callG [0] hG (foRoom w0 p F hF (n1 + 1) (by omega)) rfl rfl rfl sub_nil (fun e s hG => ?_)) | ((with_reducible refine zdd ?_); refine zae 2 rfl rfl rfl rfl rfl rfl rfl ?_))
    all_goals refine zch ?_
    all_goals repeat (first | refine zck ?_ | refine zcl ?_ | refine zcm ?_ | refine zcn ?_)
    repeat (first | refine zck ?_ | refine zcl ?_ | refine zcm ?_ | refine zcn ?_)
    first | refine zcp (by kernel_rfl) ?_ | refine zcq PP_mixed (by kernel_rfl) (by kernel_rfl) ?_
    repeat' (refine zap rfl ?_; first | ((with_reducible refine zcw ?_); refine zab 2 rfl rfl rfl ?_) | ((with_reducible refine zda ?_); refine zbp rfl rfl ?_))
    all_goals refine zch ?_
    all_goals repeat (first | refine zck ?_ | refine zcl ?_ | refine zcm ?_ | refine zcn ?_)
    refine run_cond rfl (fun hE => ?_) (fun hE => ?_)
    · rw [if_pos hE] at hG
      refine run_share_keep [2] rfl ?_
      repeat' (first | refine zck ?_ | refine zcq PP_mixed (by kernel_rfl) (by kernel_rfl) ?_ | (refine zap rfl ?_; first | refine reg_store_same 0 rfl rfl rfl rfl rfl rfl ?_ | ((with_reducible refine zcw ?_); refine zaa 0 rfl rfl rfl ?_) | ((with_reducible refine zdd ?_); refine zae 1 rfl rfl rfl rfl rfl rfl rfl ?_)) | refine zch ?_)
      exact run_ret (make_fin w0 p eb sb mb xb m R 0 e s _ rfl rfl hG)
    rw [if_neg hE] at hG
    refine run_slots [(2, .pointer (some ⟨fb, 0, none⟩)), (3, .pointer (some ⟨sb, 0, none⟩)), (4, .pointer (some ⟨xb, 0, none⟩)), (5, .pointer (some ⟨eb, 0, none⟩))] ⟨rfl, rfl, rfl, rfl, trivial⟩ (fun junk => ?_)
    repeat (first | refine zck ?_ | refine zcl ?_ | refine zcm ?_ | refine zcn ?_)
    first | refine zcp (by kernel_rfl) ?_ | refine zcq PP_mixed (by kernel_rfl) (by kernel_rfl) ?_
    repeat' (refine zap rfl ?_; first | ((with_reducible refine zcu ?_); refine zan rfl ?_) | ((with_reducible refine zcv ?_); refine zan rfl ?_) | ((with_reducible refine zcw ?_); first | refine zaa 1 rfl rfl rfl ?_ | refine zaa 2 rfl rfl rfl ?_ | refine zab 1 rfl rfl rfl ?_) | ((with_reducible refine zcx ?_); refine reg_callGP [0] hG (F.all_place (n1 + 1)) (foPlace w0 p F hF (n1 + 1) ⟨by omega, by omega⟩) rfl rfl rfl sub_nil (fun c s hb hG => ?_)) | ((with_reducible refine zcz ?_); refine zan rfl ?_))
    all_goals refine zch ?_
    all_goals repeat (first | refine zck ?_ | refine zcl ?_ | refine zcm ?_ | refine zcn ?_)
    repeat (first | refine zck ?_ | refine zcl ?_ | refine zcm ?_ | refine zcn ?_)
    first | refine zcp (by kernel_rfl) ?_ | refine zcq PP_mixed (by kernel_rfl) (by kernel_rfl) ?_
    repeat' (refine zap rfl ?_; first | ((with_reducible refine zcu ?_); refine zan rfl ?_) | ((with_reducible refine zdb ?_); refine zbx rfl ?_))
    all_goals refine zch ?_
    all_goals repeat (first | refine zck ?_ | refine zcl ?_ | refine zcm ?_ | refine zcn ?_)
    refine run_condV rfl (fun hE => ?_) (fun hE => ?_)
    · have hE : c.2 = false := by simpa using hE
      simp only [hE, Bool.false_eq_true, if_false] at hG
      repeat' (first | refine zck ?_ | refine zcp (by kernel_rfl) ?_ | (refine zap rfl ?_; first | ((with_reducible refine zdd ?_); first | refine zae 1 rfl rfl rfl rfl rfl rfl rfl ?_ | refine zae 2 rfl rfl rfl rfl rfl rfl rfl ?_)) | refine zch ?_)
      exact run_ret (make_fin w0 p eb sb mb xb m R 0 24 s _ rfl rfl hG)
    have hE : c.2 = true := by simpa using hE
    simp only [hE, if_true] at hG
    repeat (first | refine zck ?_ | refine zcl ?_ | refine zcm ?_ | refine zcn ?_)
    first | refine zcp (by kernel_rfl) ?_ | refine zcq PP_mixed (by kernel_rfl) (by kernel_rfl) ?_
    repeat' (refine zap rfl ?_; first | ((with_reducible refine zcu ?_); refine zan rfl ?_) | refine reg_buildA rfl ?_)
    all_goals refine zch ?_
    all_goals repeat (first | refine zck ?_ | refine zcl ?_ | refine zcm ?_ | refine zcn ?_)
    refine run_loop1 ?_
    repeat' (first | refine zck ?_ | refine zcp (by kernel_rfl) ?_ | refine zcq PP_mixed (by kernel_rfl) (by kernel_rfl) ?_ | refine zcm ?_ | refine zcl ?_ | refine zcn ?_ | refine zco ?_ | refine zcs rfl ?_ | (refine zap rfl ?_; first | refine reg_add (t := 2) rfl rfl ?_ | ((with_reducible refine zcu ?_); refine zan rfl ?_) | ((with_reducible refine zcv ?_); refine zan rfl ?_) | ((with_reducible refine zcw ?_); first | refine zaa 1 rfl rfl rfl ?_ | refine zaa 2 rfl rfl rfl ?_ | refine zab 1 rfl rfl rfl ?_) | ((with_reducible refine zcx ?_); first | refine reg_callG [0] hG (getG w0 p _) rfl rfl rfl sub_nil (fun u s hG => ?_) | refine reg_callG [0] hG (putG w0 p _ _) rfl rfl rfl sub_nil (fun u s hG => ?_)) | ((with_reducible refine zcy ?_); refine zao rfl ?_) | ((with_reducible refine zda ?_); first | refine zbg rfl rfl (by omega) ?_ | refine zbh rfl rfl (by omega) ?_ | refine reg_addZ rfl rfl (by omega) ?_ | refine zau rfl rfl (by omega) ?_) | ((with_reducible refine zdd ?_); first | refine zae 1 rfl rfl rfl rfl rfl rfl rfl ?_ | refine zae 2 rfl rfl rfl rfl rfl rfl rfl ?_) | refine reg_indexA rfl rfl (by omega) rfl ?_) | refine zch ?_ | refine zci rfl ?_ | refine zcj rfl ?_)
    exact run_ret (make_fin w0 p eb sb mb xb m R (n1 + 1) 0 s _ rfl rfl hG)
end Go.Proofs.Ytpcnbaddkblbhaa

/- Worlds: space.New, Fresh, Alike over maps that are shared. -/
namespace Sim
open Go Go.Vc
/-- A world's map: its keys differ. -/
def KnOk (kn : List (Int × Wd)) : Prop := ∀ (q : Nat) a w, kn[q]? = some (a, w) → lookW kn a = some w
def valW (kn : List (Int × Wd)) (a : Int) : Int := match lookW kn a with | some w => w.val | none => 0
def alikeB (ka kb : List (Int × Wd)) : Bool := decide (ka.length = kb.length) && ka.all fun p => decide (valW kb p.1 = p.2.val)
theorem valW_look (kn : List (Int × Wd)) (a : Int) (zv : Value) (hz : zv = wordV ⟨0, 0, 0⟩) : (Vc.look (knM kn) a).getD zv = wordV ((lookW kn a).getD ⟨0, 0, 0⟩) := by
  rw [look_knM, hz]
  cases lookW kn a <;> rfl
theorem valW_getD (kn : List (Int × Wd)) (a : Int) : ((lookW kn a).getD ⟨0, 0, 0⟩).val = valW kn a := by unfold valW; cases lookW kn a <;> rfl
end Sim
namespace Go.Proofs.Ytpcnbaddkblbhaa
open Go.Vc Sim
set_option maxHeartbeats 4000000
theorem new_sh (w0 : World) (kb : Nat) (kn : List (Int × Wd)) (hkn : ∀ (q : Nat) a w, kn[q]? = some (a, w) → lookW kn a = some w ∧ w.ref = 0) :
    Vc.Fn PP w0 [(kb, mapI (knM kn))] 29 [.map (some kb)] []
      (fun v Γ => ∃ p kn', v = spP p ∧ Γ = [SpaceA p ⟨kn', [], [], 0, false⟩] ∧ ∀ a, lookW kn' a = lookW kn a) := by
  refine fn_of_run en29 fn29 rfl rfl rfl ?_
  repeat (first | refine zck ?_ | refine zcl ?_ | refine zcm ?_ | refine zcn ?_)
  first | refine zcp (by kernel_rfl) ?_ | refine zcq PP_mixed (by kernel_rfl) (by kernel_rfl) ?_
  repeat' (refine zap rfl ?_; first | ((with_reducible refine zcv ?_); refine zan rfl ?_))
  all_goals refine zch ?_
  all_goals repeat (first | refine zck ?_ | refine zcl ?_ | refine zcm ?_ | refine zcn ?_)
  repeat (first | refine zck ?_ | refine zcl ?_ | refine zcm ?_ | refine zcn ?_)
  first | refine zcp (by kernel_rfl) ?_ | refine zcq PP_mixed (by kernel_rfl) (by kernel_rfl) ?_
  repeat' (refine zap rfl ?_; first | ((with_reducible refine zcv ?_); refine zan rfl ?_) | ((with_reducible refine zdg ?_); refine zaq (cs := [_, _, _, _, _]) rfl (fun nb => ?_)) | refine zcc (fun nb => ?_) | refine zcb rfl ?_)
  all_goals refine zch ?_
  all_goals repeat (first | refine zck ?_ | refine zcl ?_ | refine zcm ?_ | refine zcn ?_)
  rename_i m1 m2
  revert nb; intro p
  refine run_share_keep [2] rfl ?_
  repeat (first | refine zck ?_ | refine zcl ?_ | refine zcm ?_ | refine zcn ?_)
  first | refine zcp (by kernel_rfl) ?_ | refine zcq PP_mixed (by kernel_rfl) (by kernel_rfl) ?_
  repeat' (refine zap rfl ?_; first | refine reg_rangeK rfl (sh_know 1 rfl) (fun nb => ?_) | ((with_reducible refine zcu ?_); refine zan rfl ?_))
  all_goals refine zch ?_
  all_goals repeat (first | refine zck ?_ | refine zcl ?_ | refine zcm ?_ | refine zcn ?_)
  revert nb; intro it
  refine run_loop (S := List (Int × Wd) × List Nat) (fun _ => [(3, spP p), (11, .pointer (some ⟨it, 0, none⟩))])
    (fun st Γ => Γ = [pt m1 (mapI (knM st.1)), pt m2 (mapI []), pt it (iterI kb (knM kn).length st.2 (knM kn).length)] ∧ (∀ q ∈ st.2, ∀ a w, kn[q]? = some (a, w) → lookW st.1 a = some w) ∧ (∀ a w, lookW st.1 a = some w → lookW kn a = some w))
    (fun st => cnt kn.length st.2) ([], []) ⟨rfl, rfl, trivial⟩ ⟨rfl, by simp, by simp [lookW]⟩ ?_
  rintro ⟨kn', seen⟩ Γ junk ⟨rfl, h1, h2⟩
  dsimp only at h1 h2 ⊢
  repeat (first | refine zck ?_ | refine zcl ?_ | refine zcm ?_ | refine zcn ?_ | refine zco ?_)
  refine zcp (by kernel_rfl) ?_
  refine zap rfl ?_
  refine reg_next 2 0 rfl rfl (sh_know 1 rfl) rfl (fun _ => rfl) (fun hall => ?_) (fun q e hq hns => ?_)
  · repeat' (first | refine zck ?_ | (refine zap rfl ?_; first | ((with_reducible refine zcz ?_); refine zan rfl ?_)) | refine zch ?_ | refine zcj rfl ?_)
    refine cut_exit rfl rfl ?_
    repeat' (first | refine zck ?_ | refine zcp (by kernel_rfl) ?_ | (refine zap rfl ?_; first | ((with_reducible refine zcu ?_); refine zan rfl ?_) | ((with_reducible refine zcv ?_); refine zan rfl ?_)) | refine zch ?_)
    refine run_nilslice 104 2 ?_
    refine run_ret (leaves_nil (ends_close1 (A := SpaceA p ⟨kn', [], [], 0, false⟩) [4, 0, 0, 1] rfl (fun _ h => ⟨(m1, m2, none, 0), h⟩) (ends_one rfl rfl ⟨rfl, p, kn', rfl, rfl, fun a => ?_⟩)))
    cases hk : lookW kn a with
    | none =>
      cases hk' : lookW kn' a with
      | none => rfl
      | some w => have := h2 a w hk'; rw [hk] at this; cases this
    | some w =>
      obtain ⟨q, hq⟩ := lookW_mem kn a w hk
      have hql := (List.getElem?_eq_some_iff.1 hq).1
      exact h1 q (hall q (by rw [knM_length]; exact hql)) a w hq
  · rw [knM_get] at hq
    obtain ⟨⟨a, w⟩, hq2, rfl⟩ : ∃ aw, kn[q]? = some aw ∧ e = (aw.1, wordV aw.2) := by
      cases h : kn[q]? with
      | none => rw [h] at hq; cases hq
      | some aw => rw [h] at hq; exact ⟨aw, rfl, (Option.some.inj hq).symm⟩
    obtain ⟨hk1, hk2⟩ := hkn q a w hq2
    have hql := (List.getElem?_eq_some_iff.1 hq2).1
    have hq3 : (knM kn)[q]? = some (a, wordV w) := by rw [knM_get, hq2]; rfl
    repeat' (refine zap rfl ?_; first | ((with_reducible refine zcz ?_); refine zan rfl ?_))
    refine zch ?_
    repeat (first | refine zck ?_ | refine zcl ?_ | refine zcm ?_ | refine zcn ?_ | refine zco ?_)
    refine zci rfl ?_
    repeat (first | refine zck ?_ | refine zcl ?_ | refine zcm ?_ | refine zcn ?_ | refine zco ?_)
    repeat (first | refine zck ?_ | refine zcl ?_ | refine zcm ?_ | refine zcn ?_)
    first | refine zcp (by kernel_rfl) ?_ | refine zcq PP_mixed (by kernel_rfl) (by kernel_rfl) ?_
    repeat' (refine zap rfl ?_; first | refine reg_entry 2 rfl rfl (sh_know 1 rfl) hq3 ?_ | ((with_reducible refine zcv ?_); refine zan rfl ?_) | ((with_reducible refine zcz ?_); refine zan rfl ?_) | ((with_reducible refine zdd ?_); refine zae 3 rfl rfl rfl rfl rfl rfl rfl ?_) | ((with_reducible refine zdh ?_); refine zar (fun nb => ?_)))
    all_goals refine zch ?_
    all_goals repeat (first | refine zck ?_ | refine zcl ?_ | refine zcm ?_ | refine zcn ?_)
    refine run_share [3] rfl ?_
    repeat (first | refine zck ?_ | refine zcl ?_ | refine zcm ?_ | refine zcn ?_)
    first | refine zcp (by kernel_rfl) ?_ | refine zcq PP_mixed (by kernel_rfl) (by kernel_rfl) ?_
    repeat' (refine zap rfl ?_; first | ((with_reducible refine zcw ?_); refine zaa 0 rfl rfl rfl ?_) | ((with_reducible refine zcy ?_); refine zao rfl ?_) | ((with_reducible refine zda ?_); refine zbo rfl rfl ?_))
    all_goals refine zch ?_
    all_goals repeat (first | refine zck ?_ | refine zcl ?_ | refine zcm ?_ | refine zcn ?_)
    refine zci (bool_eq (decide_eq_true hk2)) ?_
    repeat' (first | refine zcq PP_mixed (by kernel_rfl) (by kernel_rfl) ?_ | refine zcn ?_ | (refine zap rfl ?_; first | refine reg_mapUpdate 0 rfl rfl rfl rfl rfl ?_ | ((with_reducible refine zcu ?_); refine zan rfl ?_) | ((with_reducible refine zcw ?_); first | refine zaa 0 rfl rfl rfl ?_ | refine zaa 1 rfl rfl rfl ?_) | ((with_reducible refine zcy ?_); refine zao rfl ?_) | ((with_reducible refine zde ?_); refine zan rfl ?_)) | refine zch ?_)
    refine cut_end ⟨rfl, (insW kn' a w, seen ++ [q]), ⟨rfl, rfl, trivial⟩, ⟨?_, ?_, ?_⟩, ?_⟩
    · show _ = [pt m1 (mapI (knM (insW kn' a w))), _, _]
      rw [← ins_knM]; rfl
    · intro q' hq' a' w' h
      rw [look_insW]
      rcases List.mem_append.1 hq' with hq' | hq'
      · have := h1 q' hq' a' w' h
        by_cases e : a = a'
        · subst e; rw [if_pos rfl]
          have := (hkn q' a w' h).1
          rw [hk1] at this; exact this
        · rw [if_neg e]; exact this
      · simp at hq'; subst hq'
        rw [hq2] at h; cases h; rw [if_pos rfl]
    · intro a' w' h
      rw [look_insW] at h
      by_cases e : a = a'
      · subst e; rw [if_pos rfl] at h; cases h; exact hk1
      · rw [if_neg e] at h; exact h2 a' w' h
    · have := (cnt_more q seen hns kn.length).2 hql
      dsimp only; omega
theorem wk_rep (i : Nat) : wk 0 (List.replicate (i + 1) 0) = wk 0 (List.replicate i 0) ++ [((i : Int), ⟨0, 0, 0⟩)] := by
  rw [List.replicate_succ', wk_snoc, List.length_replicate, Nat.zero_add]
theorem fresh_spec (w0 : World) (n : Nat) (hn : n ≤ 100000) :
    Vc.Fn PP w0 [] 33 [.int .i64 n] [] (fun v Γ => ∃ mb, v = .map (some mb) ∧ Γ = [pt mb (mapI (knM (wk 0 (List.replicate n 0))))]) := by
  refine fn_of_run en33 fn33 rfl rfl rfl ?_
  repeat (first | refine zck ?_ | refine zcl ?_ | refine zcm ?_ | refine zcn ?_)
  first | refine zcp (by kernel_rfl) ?_ | refine zcq PP_mixed (by kernel_rfl) (by kernel_rfl) ?_
  repeat' (refine zap rfl ?_; first | ((with_reducible refine zcv ?_); refine zan rfl ?_))
  all_goals refine zch ?_
  all_goals repeat (first | refine zck ?_ | refine zcl ?_ | refine zcm ?_ | refine zcn ?_)
  repeat (first | refine zck ?_ | refine zcl ?_ | refine zcm ?_ | refine zcn ?_)
  first | refine zcp (by kernel_rfl) ?_ | refine zcq PP_mixed (by kernel_rfl) (by kernel_rfl) ?_
  repeat' (refine zap rfl ?_; first | ((with_reducible refine zcv ?_); refine zan rfl ?_) | refine zcc (fun nb => ?_))
  all_goals refine zch ?_
  all_goals repeat (first | refine zck ?_ | refine zcl ?_ | refine zcm ?_ | refine zcn ?_)
  repeat (first | refine zck ?_ | refine zcl ?_ | refine zcm ?_ | refine zcn ?_)
  first | refine zcp (by kernel_rfl) ?_ | refine zcq PP_mixed (by kernel_rfl) (by kernel_rfl) ?_
  repeat' (refine zap rfl ?_; first | ((with_reducible refine zcu ?_); refine zan rfl ?_))
  all_goals refine zch ?_
  all_goals repeat (first | refine zck ?_ | refine zcl ?_ | refine zcm ?_ | refine zcn ?_)
  refine run_loop (S := Nat) (fun i => [(3, .map (some nb)), (6, .int .i64 (n : Int)), (7, .int .i64 (i : Int))])
    (fun i Γ => Γ = [pt nb (mapI (knM (wk 0 (List.replicate i 0))))] ∧ i ≤ n) (fun i => n - i) 0 ⟨rfl, rfl, rfl, trivial⟩ ⟨rfl, Nat.zero_le _⟩ ?_
  rintro i Γ junk ⟨rfl, hi⟩
  by_cases hlt : i < n
  · have hnone : lookW (wk 0 (List.replicate i 0)) (i : Int) = none := by rw [lookW_wk, if_neg]; simp
    have hins : ins (knM (wk 0 (List.replicate i 0))) (i : Int) (wordV ⟨0, 0, 0⟩) = knM (wk 0 (List.replicate (i + 1) 0)) := by
      rw [ins_knM, insW_none _ _ _ hnone, wk_rep]
    repeat' (first | refine zck ?_ | refine zcp (by kernel_rfl) ?_ | refine zcm ?_ | refine zcl ?_ | refine zcn ?_ | (refine zap rfl ?_; first | refine zcb rfl ?_ | refine reg_mapUpdate 0 rfl rfl rfl rfl rfl ?_ | ((with_reducible refine zcu ?_); refine zan rfl ?_) | ((with_reducible refine zcv ?_); refine zan rfl ?_) | ((with_reducible refine zda ?_); first | refine zbg rfl rfl (by omega) ?_ | refine zau rfl rfl (by omega) ?_)) | refine zch ?_ | refine zci rfl ?_)
    refine cut_end ⟨rfl, i + 1, ⟨rfl, rfl, int_eq (by omega), trivial⟩, ⟨?_, hlt⟩, by omega⟩
    rw [← hins]; rfl
  · repeat' (first | refine zck ?_ | refine zcp (by kernel_rfl) ?_ | (refine zap rfl ?_; first | ((with_reducible refine zda ?_); refine zbh rfl rfl (by omega) ?_)) | refine zch ?_ | refine zcj rfl ?_)
    refine cut_exit rfl rfl ?_
    repeat' (first | refine zck ?_ | refine zcp (by kernel_rfl) ?_ | (refine zap rfl ?_; first | ((with_reducible refine zcu ?_); refine zan rfl ?_) | ((with_reducible refine zcv ?_); refine zan rfl ?_)) | refine zch ?_)
    have e : i = n := by omega
    subst e
    exact ret_tmp1 rfl ⟨_, rfl, rfl⟩
theorem alike_spec (w0 : World) (ab bb : Nat) (ka kb : List (Int × Wd)) :
    FnE PP w0 [(ab, mapI (knM ka)), (bb, mapI (knM kb))] 21 [.map (some ab), .map (some bb)] [] (.bool (alikeB ka kb)) [] := by
  refine fn_of_run en21 fn21 rfl rfl rfl ?_
  by_cases hl : ka.length = kb.length
  case neg =>
    have e : alikeB ka kb = false := by unfold alikeB; rw [decide_eq_false hl]; rfl
    have hl2 : (((knM ka).length : Nat) : Int) ≠ ((knM kb).length : Nat) := by rw [knM_length, knM_length]; omega
    repeat' (first | refine zck ?_ | refine zcp (by kernel_rfl) ?_ | (refine zap rfl ?_; first | refine reg_len_mapS 0 rfl rfl ?_ | refine reg_len_mapS 1 rfl rfl ?_ | ((with_reducible refine zcu ?_); refine zan rfl ?_) | ((with_reducible refine zcv ?_); refine zan rfl ?_) | ((with_reducible refine zda ?_); refine zbe rfl rfl (by omega) ?_)) | refine zch ?_ | refine zci rfl ?_)
    rw [e]
    exact ret_tmp1 rfl ⟨rfl, rfl⟩
  have hl2 : (((knM ka).length : Nat) : Int) = ((knM kb).length : Nat) := by rw [knM_length, knM_length]; omega
  repeat (first | refine zck ?_ | refine zcl ?_ | refine zcm ?_ | refine zcn ?_)
  first | refine zcp (by kernel_rfl) ?_ | refine zcq PP_mixed (by kernel_rfl) (by kernel_rfl) ?_
  repeat' (refine zap rfl ?_; first | ((with_reducible refine zcv ?_); refine zan rfl ?_))
  all_goals refine zch ?_
  all_goals repeat (first | refine zck ?_ | refine zcl ?_ | refine zcm ?_ | refine zcn ?_)
  repeat (first | refine zck ?_ | refine zcl ?_ | refine zcm ?_ | refine zcn ?_)
  first | refine zcp (by kernel_rfl) ?_ | refine zcq PP_mixed (by kernel_rfl) (by kernel_rfl) ?_
  repeat' (refine zap rfl ?_; first | refine reg_len_mapS 0 rfl rfl ?_ | refine reg_len_mapS 1 rfl rfl ?_ | ((with_reducible refine zcu ?_); refine zan rfl ?_) | ((with_reducible refine zda ?_); refine zbf rfl rfl (by omega) ?_))
  all_goals refine zch ?_
  all_goals repeat (first | refine zck ?_ | refine zcl ?_ | refine zcm ?_ | refine zcn ?_)
  refine zcj rfl ?_
  repeat (first | refine zck ?_ | refine zcl ?_ | refine zcm ?_ | refine zcn ?_)
  first | refine zcp (by kernel_rfl) ?_ | refine zcq PP_mixed (by kernel_rfl) (by kernel_rfl) ?_
  repeat' (refine zap rfl ?_; first | refine reg_rangeK rfl (sh_know 0 rfl) (fun nb => ?_) | ((with_reducible refine zcu ?_); refine zan rfl ?_))
  all_goals refine zch ?_
  all_goals repeat (first | refine zck ?_ | refine zcl ?_ | refine zcm ?_ | refine zcn ?_)
  revert nb; intro it
  refine run_loop (S := List Nat) (fun _ => [(1, .map (some bb)), (13, .pointer (some ⟨it, 0, none⟩))])
    (fun st Γ => Γ = [pt it (iterI ab (knM ka).length st (knM ka).length)] ∧ (∀ q ∈ st, ∀ p, ka[q]? = some p → valW kb p.1 = p.2.val))
    (fun st => cnt ka.length st) [] ⟨rfl, rfl, trivial⟩ ⟨rfl, by simp⟩ ?_
  rintro seen Γ junk ⟨rfl, h1⟩
  repeat (first | refine zck ?_ | refine zcl ?_ | refine zcm ?_ | refine zcn ?_ | refine zco ?_)
  refine zcp (by kernel_rfl) ?_
  refine zap rfl ?_
  refine reg_next 0 0 rfl rfl (sh_know 0 rfl) rfl (fun _ => rfl) (fun hall => ?_) (fun q e hq hns => ?_)
  · repeat' (first | refine zck ?_ | (refine zap rfl ?_; first | ((with_reducible refine zcz ?_); refine zan rfl ?_)) | refine zch ?_ | refine zcj rfl ?_)
    refine cut_exit rfl rfl ?_
    repeat' (first | refine zck ?_ | refine zcp (by kernel_rfl) ?_ | (refine zap rfl ?_; first | ((with_reducible refine zcv ?_); refine zan rfl ?_)) | refine zch ?_)
    refine run_take [] rfl ?_
    have e : alikeB ka kb = true := by
      unfold alikeB
      rw [decide_eq_true hl, Bool.true_and, List.all_eq_true]
      intro p hp
      obtain ⟨q, hq⟩ := List.mem_iff_getElem?.1 hp
      exact decide_eq_true (h1 q (hall q (by rw [knM_length]; exact (List.getElem?_eq_some_iff.1 hq).1)) p hq)
    rw [e]
    exact ret_tmp1 rfl ⟨rfl, rfl⟩
  · rw [knM_get] at hq
    obtain ⟨⟨a, w⟩, hq2, rfl⟩ : ∃ aw, ka[q]? = some aw ∧ e = (aw.1, wordV aw.2) := by
      cases h : ka[q]? with
      | none => rw [h] at hq; cases hq
      | some aw => rw [h] at hq; exact ⟨aw, rfl, (Option.some.inj hq).symm⟩
    have hql := (List.getElem?_eq_some_iff.1 hq2).1
    have hq3 : (knM ka)[q]? = some (a, wordV w) := by rw [knM_get, hq2]; rfl
    repeat' (refine zap rfl ?_; first | ((with_reducible refine zcz ?_); refine zan rfl ?_))
    refine zch ?_
    repeat (first | refine zck ?_ | refine zcl ?_ | refine zcm ?_ | refine zcn ?_ | refine zco ?_)
    refine zci rfl ?_
    repeat (first | refine zck ?_ | refine zcl ?_ | refine zcm ?_ | refine zcn ?_ | refine zco ?_)
    repeat (first | refine zck ?_ | refine zcl ?_ | refine zcm ?_ | refine zcn ?_)
    first | refine zcp (by kernel_rfl) ?_ | refine zcq PP_mixed (by kernel_rfl) (by kernel_rfl) ?_
    repeat' (refine zap rfl ?_; first | refine reg_entry 0 rfl rfl (sh_know 0 rfl) hq3 ?_ | ((with_reducible refine zcv ?_); refine zan rfl ?_) | ((with_reducible refine zcz ?_); refine zan rfl ?_) | ((with_reducible refine zdd ?_); refine zae 1 rfl rfl rfl rfl rfl rfl rfl ?_) | ((with_reducible refine zdh ?_); refine zar (fun nb => ?_)))
    all_goals refine zch ?_
    all_goals repeat (first | refine zck ?_ | refine zcl ?_ | refine zcm ?_ | refine zcn ?_)
    refine run_share [1] rfl ?_
    repeat (first | refine zck ?_ | refine zcl ?_ | refine zcm ?_ | refine zcn ?_)
    first | refine zcp (by kernel_rfl) ?_ | refine zcq PP_mixed (by kernel_rfl) (by kernel_rfl) ?_
    repeat' (refine zap rfl ?_; first | refine reg_lookup_sh 2 rfl rfl rfl (valW_look kb a _ rfl) ?_ | refine reg_fieldV rfl rfl ?_ | ((with_reducible refine zcu ?_); refine zan rfl ?_) | ((with_reducible refine zcw ?_); refine zaa 0 rfl rfl rfl ?_) | ((with_reducible refine zcy ?_); refine zao rfl ?_) | ((with_reducible refine zda ?_); refine zbp rfl rfl ?_))
    all_goals refine zch ?_
    all_goals repeat (first | refine zck ?_ | refine zcl ?_ | refine zcm ?_ | refine zcn ?_)
    refine run_cond rfl (fun hE => ?_) (fun hE => ?_)
    · have hE : valW kb a ≠ w.val := by rw [← valW_getD]; exact hE
      repeat' (first | refine zck ?_ | refine zcp (by kernel_rfl) ?_ | (refine zap rfl ?_; first | ((with_reducible refine zcv ?_); refine zan rfl ?_)) | refine zch ?_)
      refine run_take [] rfl ?_
      have e : alikeB ka kb = false := by
        unfold alikeB
        rw [decide_eq_true hl, Bool.true_and, List.all_eq_false]
        exact ⟨(a, w), List.mem_of_getElem? hq2, by simpa using hE⟩
      rw [e]
      exact qret1 (fun _ _ h => h) rfl ⟨rfl, rfl⟩
    · have hE : valW kb a = w.val := by rw [← valW_getD]; exact Classical.not_not.1 hE
      repeat' (first | refine zcm ?_ | refine zcn ?_ | (refine zap rfl ?_; first | ((with_reducible refine zcu ?_); refine zan rfl ?_)) | refine zch ?_)
      refine cut_end ⟨rfl, seen ++ [q], ⟨rfl, rfl, trivial⟩, ⟨rfl, ?_⟩, ?_⟩
      · intro q' hq' p hp
        rcases List.mem_append.1 hq' with hq' | hq'
        · exact h1 q' hq' p hp
        · simp at hq'; subst hq'
          rw [hq2] at hp; cases hp; exact hE
      · have := (cnt_more q seen hns ka.length).2 hql
        omega
end Go.Proofs.Ytpcnbaddkblbhaa

/- Words compared. -/
namespace Go.Proofs.Ytpcnbaddkblbhaa
open Go.Vc Sim
set_option maxHeartbeats 4000000
theorem word_underlying : PP.underlying 48 = some (.struct #[⟨"Val", 2, 0, false, "", "", 0⟩, ⟨"Ver", 46, 1, false, "", "", 8⟩, ⟨"Ref", 46, 2, false, "", "", 12⟩]) := by
  rw [PP_def, Try.underlying48]
theorem word_stood : PP.stoodInHeld 48 = false := by rw [PP_def]; kernel_rfl
theorem word_guard : PP.eqGuardType PP.depth 48 = false := by rw [PP_def]; kernel_rfl
theorem int_eqIn {t : TypeId} {k : IntKind} (h : PP.underlying t = some (.int k)) (d : Nat) (m : Int) (w : World) : (Op.equalIn (d + 1) t (.int k m) (.int k m)).run PP w = .ok true w := by
  simp [Op.equalIn, run_underlying h]
theorem run_equal2 {P : Program} {t : TypeId} {u v : Value} {q : Bool} {w : World} (h : ∀ d, (Op.equalIn (d + 2) t u v).run P w = .ok q w) : (Op.equal t u v).run P w = .ok q w := h 9998
theorem word_equal (a b c : Int) (w : World) : (Op.equal 48 (.agg #[.int .i64 a, .int .u32 b, .int .u32 c]) (.agg #[.int .i64 a, .int .u32 b, .int .u32 c])).run PP w = .ok true w := by
  have h2 : PP.underlying 2 = some (.int .i64) := by rw [PP_def, Try.underlying2]
  have h46 : PP.underlying 46 = some (.int .u32) := by rw [PP_def, Try.underlying46]
  have e2 := fun d w => int_eqIn h2 d a w
  have e46 := fun d m w => int_eqIn h46 d m w
  have a2 : ∀ w, (isAgg 2).run PP w = .ok false w := fun w => TShape.agg_run w
  have a46 : ∀ w, (isAgg 46).run PP w = .ok false w := fun w => TShape.agg_run w
  have p2 : ∀ w, (part 2 #[Value.int .i64 a, .int .u32 b, .int .u32 c] 0).run PP w = .ok (.int .i64 a) w := fun w => by simp [part, a2]
  have p3 : ∀ w, (part 46 #[Value.int .i64 a, .int .u32 b, .int .u32 c] 1).run PP w = .ok (.int .u32 b) w := fun w => by simp [part, a46]
  have p4 : ∀ w, (part 46 #[Value.int .i64 a, .int .u32 b, .int .u32 c] 2).run PP w = .ok (.int .u32 c) w := fun w => by simp [part, a46]
  refine run_equal2 (fun d => ?_)
  rw [Op.equalIn]
  simp only [Sem.run_bind, run_underlying word_underlying, Result.andThen_ok]
  have hs : (program).run PP w = .ok PP w := rfl
  simp only [hs, Result.andThen_ok, word_stood, Bool.false_eq_true, if_false]
  simp [← Array.forIn_toList, p2, p3, p4, e2, e46]
section
variable {w0 : World} {n : Nat} {sh : Shared} {Q : Exit → Env → List Deferred → List Asn → Prop} {k : List Item} {ρ : Env} {df : List Deferred} {Γ : List Asn}
variable {ops : Array Oper} {l : List (Fl × Nat × Oper)} {bf : Fl} {i d : Nat} {ty : TypeId} {pos : String} {aft : Array Edge} {x y : Operand} {yt : TypeId}
theorem reg_ne_word {a b c a' b' c' : Int} (hx : ev ρ x = .agg #[.int .i64 a, .int .u32 b, .int .u32 c]) (hy : ev ρ y = .agg #[.int .i64 a', .int .u32 b', .int .u32 c']) (he : a = a' ∧ b = b' ∧ c = c')
    (h : Reg PP w0 n sh Q ops l k (ρ.set d (.bool false)) df Γ) : Reg PP w0 n sh Q ops ((bf, i, ⟨some d, .binOp .neq 48 x y yt, ty, pos, aft, none⟩) :: l) k ρ df Γ :=
  reg_quiet rfl (fun hF _ => quiet_of_run fun w => by
    obtain ⟨rfl, rfl, rfl⟩ := he
    have hs : (program).run PP w = .ok PP w := rfl
    have hg : (eqGuard .neq 48 x y (.agg #[.int .i64 a, .int .u32 b, .int .u32 c]) (.agg #[.int .i64 a, .int .u32 b, .int .u32 c])).run PP w = .ok () w := by
      simp [eqGuard, hs, word_guard]
    have hb : (binOp .neq 48 (.agg #[.int .i64 a, .int .u32 b, .int .u32 c]) (.agg #[.int .i64 a, .int .u32 b, .int .u32 c])).run PP w = .ok (.bool false) w := by
      show (do let r ← Op.equal _ _ _; pure (Value.bool (!r)) : Sem Value).run PP w = _
      simp [word_equal]
    simp only [execOp, hx, hy, Sem.run_bind, hg, hb, Result.andThen_ok, Sem.run_pure]) h
end
end Go.Proofs.Ytpcnbaddkblbhaa

/- World.Done: the plain part. -/
namespace Sim
open Go Go.Vc
/-- A world: its keys differ and are locations, its words are plain, their versions at most `T`. -/
structure WOk (T : Int) (kn : List (Int × Wd)) : Prop where
  nd : (kn.map (·.1)).Nodup
  wd : ∀ a w, lookW kn a = some w → w.ref = 0 ∧ 0 ≤ w.ver ∧ w.ver ≤ T ∧ 0 ≤ a ∧ a < 4096
theorem keys_look : ∀ (kn : List (Int × Wd)), (kn.map (·.1)).Nodup → ∀ (q : Nat) a w, kn[q]? = some (a, w) → lookW kn a = some w
  | [], _, q, a, w, h => by simp at h
  | (b, u) :: r, hn, 0, a, w, h => by simp at h; obtain ⟨rfl, rfl⟩ := h; simp [lookW]
  | (b, u) :: r, hn, q + 1, a, w, h => by
    rw [List.map_cons, List.nodup_cons] at hn
    have h : r[q]? = some (a, w) := by simpa using h
    have ih := keys_look r hn.2 q a w h
    have hne : b ≠ a := fun e => hn.1 (e ▸ List.mem_map.2 ⟨(a, w), List.mem_of_getElem? h, rfl⟩)
    simp [lookW, hne, ih]
theorem look_none : ∀ (kn : List (Int × Wd)) (a : Int), lookW kn a = none ↔ a ∉ kn.map (·.1)
  | [], a => by simp [lookW]
  | (b, u) :: r, a => by
    simp only [lookW, List.map_cons, List.mem_cons, not_or]
    by_cases h : b = a
    · subst h; simp
    · rw [if_neg h, look_none r a]
      exact ⟨fun h2 => ⟨fun e => h e.symm, h2⟩, fun h2 => h2.2⟩
theorem insW_keys : ∀ (kn : List (Int × Wd)) (a : Int) (w : Wd), (kn.map (·.1)).Nodup → ((insW kn a w).map (·.1)).Nodup
  | [], a, w, _ => by simp [insW]
  | (b, u) :: r, a, w, h => by
    rw [List.map_cons, List.nodup_cons] at h
    simp only [insW]
    by_cases e : b = a
    · rw [if_pos e, List.map_cons, List.nodup_cons]; exact h
    · rw [if_neg e, List.map_cons, List.nodup_cons]
      refine ⟨fun hm => ?_, insW_keys r a w h.2⟩
      by_cases hb : lookW r b = none
      · have h2 := look_insW r a b w
        rw [if_neg (fun e2 => e e2.symm), hb] at h2
        exact (look_none _ _).1 h2 hm
      · exact hb ((look_none _ _).2 h.1)
/-- The words after a transaction. -/
def nextW (kn : List (Int × Wd)) (s : Sp) (a : Int) : Option Wd := (lookW kn a).map fun w => if (s.value a).2 = true then ⟨(s.value a).1, w.ver + 1, 0⟩ else w
theorem lastV_some : ∀ (l : List (Int × Int)) (a : Int), lastV l a ≠ none → ∃ p ∈ l, p.1 = a
  | [], a, h => absurd rfl h
  | (b, v) :: l, a, h => by
    simp only [lastV] at h
    by_cases h2 : lastV l a = none
    · rw [h2] at h
      by_cases e : b = a
      · exact ⟨(b, v), by simp, e⟩
      · simp [e] at h
    · obtain ⟨p, hp, h3⟩ := lastV_some l a h2
      exact ⟨p, by simp [hp], h3⟩
theorem value_put {s : Sp} {a : Int} (h : (s.value a).2 = true) : ∃ p ∈ s.puts, p.1 = a := by
  refine lastV_some s.puts a fun e => ?_
  simp only [Sp.value, e] at h
  cases h
theorem value_wr {s : Sp} {p : Int × Int} (h : p ∈ s.puts) : (s.value p.1).2 = true := by
  cases hl : lastV s.puts p.1 with
  | some v => simp only [Sp.value, hl]
  | none =>
    exfalso
    have key : ∀ l : List (Int × Int), p ∈ l → lastV l p.1 ≠ none := by
      intro l
      induction l with
      | nil => intro h; cases h
      | cons q l ih =>
        intro h
        obtain ⟨b, v⟩ := q
        simp only [lastV]
        cases h2 : lastV l p.1 with
        | some u => simp
        | none =>
          rcases List.mem_cons.1 h with h3 | h3
          · subst h3; simp
          · exact absurd h2 (ih h3)
    exact key _ h hl
theorem value_not {s : Sp} {a : Int} (h : (s.value a).2 = false) : (s.value a).1 = match lookW s.kn a with | some w => w.val | none => 0 := by
  simp only [Sp.value] at h ⊢
  cases hl : lastV s.puts a with
  | some v => rw [hl] at h; cases h
  | none => rfl
theorem nextW_ok {T : Int} {kn : List (Int × Wd)} {s : Sp} {kn2 : List (Int × Wd)} (h : WOk T kn) (hk : (kn2.map (·.1)).Nodup) (h2 : ∀ a, lookW kn2 a = nextW kn s a) : WOk (T + 1) kn2 := by
  refine ⟨hk, fun a w hw => ?_⟩
  rw [h2, nextW] at hw
  cases h3 : lookW kn a with
  | none => rw [h3] at hw; cases hw
  | some u =>
    rw [h3] at hw
    obtain ⟨g1, g2, g3, g4, g5⟩ := h.wd a u h3
    have := (Option.some.inj hw).symm
    subst this
    split
    · exact ⟨rfl, by dsimp only; omega, by dsimp only; omega, g4, g5⟩
    · exact ⟨g1, g2, Int.le_trans g3 (by omega), g4, g5⟩
/-- The words after the first entries. -/
def partW (kn : List (Int × Wd)) (s : Sp) (l : List Int) (a : Int) : Option Wd := if a ∈ l then nextW kn s a else lookW kn a
theorem partW_nil (kn : List (Int × Wd)) (s : Sp) (a : Int) : partW kn s [] a = lookW kn a := by simp [partW]
theorem partW_snoc (kn : List (Int × Wd)) (s : Sp) (l : List Int) (x a : Int) : partW kn s (l ++ [x]) a = if x = a then nextW kn s a else partW kn s l a := by
  unfold partW
  by_cases h : x = a
  · subst h; simp
  · have : a ∈ l ++ [x] ↔ a ∈ l := by simp [Ne.symm h]
    simp [h, this]
theorem partW_all {kn : List (Int × Wd)} {s : Sp} {l : List Int} (h : ∀ p ∈ s.puts, p.1 ∈ l) (a : Int) : partW kn s l a = nextW kn s a := by
  unfold partW
  by_cases hm : a ∈ l
  · rw [if_pos hm]
  · rw [if_neg hm]
    have : (s.value a).2 = false := by
      cases hv : (s.value a).2 with
      | false => rfl
      | true =>
        obtain ⟨p, hp, e⟩ := value_put hv
        exact absurd (e ▸ h p hp) hm
    unfold nextW
    rw [this]
    cases lookW kn a <;> rfl
end Sim
namespace Go.Proofs.Ytpcnbaddkblbhaa
open Go.Vc Sim
theorem idx_none : ∀ (l : List En) (x k : Int), (∀ e ∈ l, e.loc ≠ x) → idxI x l k = -1
  | [], x, k, _ => rfl
  | e :: l, x, k, h => by
    simp only [idxI]
    rw [if_neg (h e (by simp))]
    exact idx_none l x (k + 1) (fun e he => h e (by simp [he]))
theorem chk_ok (es : List En) (h1 : ∀ e ∈ es, wrongI e = 0) (h2 : (es.map (·.loc)).Nodup) : ∀ (l : List En) (i : Nat), es.drop i = l → chkI es l i = 0
  | [], _, _ => rfl
  | e :: l, i, h => by
    have hi : i < es.length := by
      by_cases hi : i < es.length
      · exact hi
      · rw [List.drop_of_length_le (by omega)] at h; cases h
    have he : es[i]? = some e := by
      have := List.drop_eq_getElem_cons hi
      rw [h] at this
      rw [List.getElem?_eq_getElem hi]
      exact congrArg some (List.cons.inj this).1.symm
    simp only [chkI]
    rw [if_neg (fun hw => hw (h1 e (List.mem_of_getElem? he)))]
    have hno : idxI e.loc (es.take i) 0 = -1 := by
      refine idx_none _ _ _ fun e' he' hloc => ?_
      obtain ⟨j, hj⟩ := List.mem_iff_getElem?.1 he'
      have hji : j < i := by
        have := (List.getElem?_eq_some_iff.1 hj).1
        simp at this; omega
      rw [List.getElem?_take_of_lt hji] at hj
      have hm1 : (es.map (·.loc))[j]? = some e.loc := by simp [hj, hloc]
      have hm2 : (es.map (·.loc))[i]? = some e.loc := by simp [he]
      have := (List.getElem?_inj (by simp; omega) h2).1 (hm1.trans hm2.symm)
      omega
    rw [hno, if_neg (by decide)]
    refine chk_ok es h1 h2 l (i + 1) ?_
    rw [List.drop_eq_getElem_cons hi] at h
    exact (List.cons.inj h).2
theorem check_ok {T : Int} {kn : List (Int × Wd)} {s : Sp} (hT : T ≤ 1000000) (hw : WOk T kn) (hs : Wf s) (hk : ∀ a, lookW s.kn a = lookW kn a) (hne : (esOf s).length ≠ 0) : checkI (esOf s) = 0 ∨ checkI (esOf s) = 15 := by
  unfold checkI
  rw [if_neg hne]
  by_cases h : 32 < (esOf s).length
  · rw [if_pos h]; exact .inr rfl
  · rw [if_neg h]
    left
    have hmem : ∀ e ∈ esOf s, ∃ x ∈ s.rd, e = entE s x := fun e he => by
      unfold esOf at he
      obtain ⟨x, hx, rfl⟩ := List.mem_map.1 he
      exact ⟨x, List.mem_mergeSort.1 hx, rfl⟩
    refine chk_ok _ (fun e he => ?_) ?_ _ 0 rfl
    · obtain ⟨x, hx, rfl⟩ := hmem e he
      have h2 := hs.rk x hx
      obtain ⟨w, hlw⟩ : ∃ w, lookW s.kn x = some w := by
        cases h3 : lookW s.kn x with
        | none => exact absurd h3 h2
        | some w => exact ⟨w, rfl⟩
      obtain ⟨g1, g2, g3, g4, g5⟩ := hw.wd x w (by rw [← hk]; exact hlw)
      have ho : oldW s x = w := by unfold oldW; rw [hlw]
      unfold wrongI entE
      dsimp only
      rw [ho]
      rw [if_neg (by omega), if_neg (by rintro ⟨_, h4⟩; omega)]
      rw [if_neg]
      rintro ⟨h4, h5⟩
      have := value_not h4
      rw [hlw] at this
      exact h5 this
    · have : (esOf s).map (·.loc) = s.rd.mergeSort leI := by
        unfold esOf
        rw [List.map_map]
        exact List.map_id _
      rw [this]
      exact (List.mergeSort_perm s.rd leI).nodup_iff.2 hs.nd
theorem entries_cases {T : Int} {kn : List (Int × Wd)} {s : Sp} (hT : T ≤ 1000000) (hw : WOk T kn) (hs : Wf s) (hl : s.ended = false) (hk : ∀ a, lookW s.kn a = lookW kn a) :
    (Sp.entries s = (esOf s, 0)) ∨ (Sp.entries s = ([], 15)) := by
  unfold Sp.entries
  rw [if_neg (by rw [hl]; decide)]
  by_cases h0 : (esOf s).length = 0
  · rw [if_pos h0]
    left
    rw [List.length_eq_zero_iff.1 h0]
  · rw [if_neg h0]
    rcases check_ok hT hw hs hk h0 with h | h
    · rw [if_neg (fun h2 => h2 h)]; exact .inl rfl
    · rw [if_pos (by rw [h]; decide), h]; exact .inr rfl
theorem esOf_loc (s : Sp) (i : Nat) : ((esOf s).take i).map (·.loc) = (s.rd.mergeSort leI).take i := by
  unfold esOf
  rw [← List.map_take, List.map_map]
  exact List.map_id _
end Go.Proofs.Ytpcnbaddkblbhaa

/- World.Done. -/
namespace Sim
open Go Go.Vc
theorem nodup_bd : ∀ (n : Nat) (l : List Int), l.Nodup → (∀ x ∈ l, 0 ≤ x ∧ x < n) → l.length ≤ n
  | 0, l, _, h => by
    cases l with
    | nil => exact Nat.le_refl _
    | cons a l => have := h a (by simp); omega
  | n + 1, l, hn, h => by
    by_cases hm : (n : Int) ∈ l
    · have h1 := nodup_bd n (l.erase n) (hn.erase _) (fun x hx => by
        have h2 := h x (List.mem_of_mem_erase hx)
        have h3 : x ≠ n := fun e => by subst e; exact (List.Nodup.not_mem_erase hn) hx
        omega)
      have h2 := List.length_erase_of_mem hm
      omega
    · have := nodup_bd n l hn (fun x hx => by
        have h2 := h x hx
        have h3 : x ≠ n := fun e => hm (e ▸ hx)
        omega)
      omega
end Sim
namespace Go.Proofs.Ytpcnbaddkblbhaa
open Go.Vc Sim
set_option maxHeartbeats 8000000
theorem wrap_u32 {m : Int} (h0 : 0 ≤ m) (h1 : m ≤ 4294967295) : IntKind.u32.wrap m = m := by
  simp only [IntKind.wrap, IntKind.bits, IntKind.signed]
  simp
  omega
theorem get_live {s : Sp} {x : Int} {w : Wd} (hl : s.ended = false) (hk : lookW s.kn x = some w) : s.get x = ((s.value x).1, { s with rd := insI s.rd x }) := by
  have : s.reads x = (true, { s with rd := insI s.rd x }) := by simp [Sp.reads, hl, hk]
  simp only [Sp.get, this, if_true]
  rfl
/-- What a function over a space leaves. -/
structure Left (s s' : Sp) : Prop where
  live : s'.ended = false
  wf : Wf s'
  kn : s'.kn = s.kn
  few : s'.puts.length < 60000
theorem done_spec {σ : Type} (w0 : World) (shc : Shared) (wb : Nat) (kn : List (Int × Wd)) (T : Int) (hT : T ≤ 1000000) (hw : WOk T kn) (f : FuncId) (cap : Array Value) (A : Asn) (A' : σ → Asn) (ψ : σ → Sp → Prop)
    (hdo : ∀ p s, s.puts = [] → s.rd = [] → s.ended = false → (∀ a, lookW s.kn a = lookW kn a) →
      Vc.Fn PP w0 shc f (spP p :: cap.toList) [SpaceA p s, A] (fun v Γ => ∃ st s', v = .tuple #[] ∧ Γ = [SpaceA p s', A' st] ∧ Left s s' ∧ ψ st s')) :
    Vc.Fn PP w0 ((wb, mapI (knM kn)) :: shc) 13 [.map (some wb), .func (.func f) #[] cap] [A]
      (fun v Γ => ∃ st s' nb a len c kn2, v = .tuple #[.map (some nb), .slice a len c, .bool true] ∧ Γ = [pt nb (mapI (knM kn2)), A' st] ∧ ψ st s' ∧ WOk (T + 1) kn2 ∧ ∀ a, lookW kn2 a = nextW kn s' a) := by
  refine fn_of_run en13 fn13 rfl rfl rfl ?_
  repeat (first | refine zck ?_ | refine zcl ?_ | refine zcm ?_ | refine zcn ?_)
  first | refine zcp (by kernel_rfl) ?_ | refine zcr [(.quiet, 0), (.quiet, 1), (.quiet, 2), (.quiet, 3), (.loud, 4), (.quiet, 5), (.quiet, 6), (.loud, 7), (.quiet, 8), (.quiet, 9), (.quiet, 10), (.loud, 11)] PP_mixed (by kernel_rfl) (by kernel_rfl) ?_ | refine zcq PP_mixed (by kernel_rfl) (by kernel_rfl) ?_
  repeat' (refine zap rfl ?_; first | ((with_reducible refine zcv ?_); refine zan rfl ?_))
  all_goals refine zch ?_
  all_goals repeat (first | refine zck ?_ | refine zcl ?_ | refine zcm ?_ | refine zcn ?_)
  have hN := new_sh w0 wb kn (fun q a w h => ⟨keys_look kn hw.nd q a w h, (hw.wd a w (keys_look kn hw.nd q a w h)).1⟩)
  repeat (first | refine zck ?_ | refine zcl ?_ | refine zcm ?_ | refine zcn ?_)
  first | refine zcp (by kernel_rfl) ?_ | refine zcr [(.quiet, 0), (.quiet, 1), (.quiet, 2), (.quiet, 3), (.loud, 4), (.quiet, 5), (.quiet, 6), (.loud, 7), (.quiet, 8), (.quiet, 9), (.quiet, 10), (.loud, 11)] PP_mixed (by kernel_rfl) (by kernel_rfl) ?_ | refine zcq PP_mixed (by kernel_rfl) (by kernel_rfl) ?_
  repeat' (refine zap rfl ?_; first | (refine zai [] hN rfl rfl rfl (fun q hq => by simp only [List.mem_singleton] at hq; subst hq; exact .head _) ?_; rintro v Γ' ⟨p, kn', rfl, rfl, hkn'⟩) | ((with_reducible refine zcu ?_); refine zan rfl ?_) | ((with_reducible refine zcv ?_); refine zan rfl ?_))
  all_goals refine zch ?_
  all_goals repeat (first | refine zck ?_ | refine zcl ?_ | refine zcm ?_ | refine zcn ?_)
  repeat (first | refine zck ?_ | refine zcl ?_ | refine zcm ?_ | refine zcn ?_)
  first | refine zcp (by kernel_rfl) ?_ | refine zcr [(.quiet, 0), (.quiet, 1), (.quiet, 2), (.quiet, 3), (.loud, 4), (.quiet, 5), (.quiet, 6), (.loud, 7), (.quiet, 8), (.quiet, 9), (.quiet, 10), (.loud, 11)] PP_mixed (by kernel_rfl) (by kernel_rfl) ?_ | refine zcq PP_mixed (by kernel_rfl) (by kernel_rfl) ?_
  repeat' (refine zap rfl ?_; first | (refine zai [0, 0] (hdo p ⟨kn', [], [], 0, false⟩ rfl rfl rfl hkn') rfl rfl rfl (fun q hq => .tail _ hq) ?_; rintro v Γ' ⟨st, s, rfl, rfl, hL, hψ⟩) | ((with_reducible refine zcu ?_); refine zan rfl ?_))
  all_goals refine zch ?_
  all_goals repeat (first | refine zck ?_ | refine zcl ?_ | refine zcm ?_ | refine zcn ?_)
  have hks : ∀ a, lookW s.kn a = lookW kn a := fun a => by rw [hL.kn]; exact hkn' a
  have hrd : s.rd.length ≤ 4096 := nodup_bd 4096 s.rd hL.wf.nd (fun x hx => by
    cases h : lookW kn x with
    | none => exact absurd ((hks x).trans h) (hL.wf.rk x hx)
    | some w => have := hw.wd x w h; omega)
  have hfew := hL.few
  have hE := ents_spec w0 p s (by omega) (by omega) (fun x w h => (hw.wd x w ((hks x).symm.trans h)).1)
  have hcs := entries_cases hT hw hL.wf hL.live hks
  have hes : (Sp.entries s).1.length ≤ 4096 := by
    rcases hcs with h | h <;> rw [h]
    · show (esOf s).length ≤ 4096
      rw [esOf, List.length_map, List.length_mergeSort]; exact hrd
    · exact Nat.zero_le _
  repeat (first | refine zck ?_ | refine zcl ?_ | refine zcm ?_ | refine zcn ?_)
  first | refine zcp (by kernel_rfl) ?_ | refine zcr [(.quiet, 0), (.quiet, 1), (.quiet, 2), (.quiet, 3), (.loud, 4), (.quiet, 5), (.quiet, 6), (.loud, 7), (.quiet, 8), (.quiet, 9), (.quiet, 10), (.loud, 11)] PP_mixed (by kernel_rfl) (by kernel_rfl) ?_ | refine zcq PP_mixed (by kernel_rfl) (by kernel_rfl) ?_
  repeat' (refine zap rfl ?_; first | (refine zai [0] hE rfl rfl rfl sub_nil ?_; rintro v Γ' ⟨ea, ecap, rfl, rfl⟩) | ((with_reducible refine zcu ?_); refine zan rfl ?_) | ((with_reducible refine zcv ?_); refine zan rfl ?_) | ((with_reducible refine zcz ?_); refine zan rfl ?_))
  all_goals refine zch ?_
  all_goals repeat (first | refine zck ?_ | refine zcl ?_ | refine zcm ?_ | refine zcn ?_)
  repeat (first | refine zck ?_ | refine zcl ?_ | refine zcm ?_ | refine zcn ?_)
  first | refine zcp (by kernel_rfl) ?_ | refine zcr [(.quiet, 0), (.quiet, 1), (.quiet, 2), (.quiet, 3), (.loud, 4), (.quiet, 5), (.quiet, 6), (.loud, 7), (.quiet, 8), (.quiet, 9), (.quiet, 10), (.loud, 11)] PP_mixed (by kernel_rfl) (by kernel_rfl) ?_ | refine zcq PP_mixed (by kernel_rfl) (by kernel_rfl) ?_
  repeat' (refine zap rfl ?_; first | ((with_reducible refine zcv ?_); refine zan rfl ?_) | refine zcc (fun nb => ?_))
  all_goals refine zch ?_
  all_goals repeat (first | refine zck ?_ | refine zcl ?_ | refine zcm ?_ | refine zcn ?_)
  revert nb; intro nx
  repeat (first | refine zck ?_ | refine zcl ?_ | refine zcm ?_ | refine zcn ?_)
  first | refine zcp (by kernel_rfl) ?_ | refine zcr [(.quiet, 0), (.quiet, 1), (.quiet, 2), (.quiet, 3), (.loud, 4), (.quiet, 5), (.quiet, 6), (.loud, 7), (.quiet, 8), (.quiet, 9), (.quiet, 10), (.loud, 11)] PP_mixed (by kernel_rfl) (by kernel_rfl) ?_ | refine zcq PP_mixed (by kernel_rfl) (by kernel_rfl) ?_
  repeat' (refine zap rfl ?_; first | refine reg_rangeK rfl (sh_know 0 rfl) (fun nb => ?_) | ((with_reducible refine zcu ?_); refine zan rfl ?_))
  all_goals refine zch ?_
  all_goals repeat (refine zck ?_)
  revert nb; intro it
  have hel : ∀ (i : Nat) x, (Sp.entries s).1[i]? = some x → ∃ y, y ∈ s.rd ∧ x = entE s y ∧ (s.rd.mergeSort leI)[i]? = some y := fun i x hx => by
    rcases hcs with h | h <;> rw [h] at hx
    · dsimp only at hx
      rw [esOf, List.getElem?_map] at hx
      cases hy : (s.rd.mergeSort leI)[i]? with
      | none => rw [hy] at hx; cases hx
      | some y => rw [hy] at hx; exact ⟨y, List.mem_mergeSort.1 (List.mem_of_getElem? hy), (Option.some.inj hx).symm, rfl⟩
    · simp at hx
  have hfin : ((Sp.entries s).2 = 0 ∧ (Sp.entries s).1.length = s.rd.length) ∨ ((Sp.entries s).2 = 15 ∧ (Sp.entries s).1.length = 0) := by
    rcases hcs with h | h <;> rw [h]
    · exact .inl ⟨rfl, by rw [esOf, List.length_map, List.length_mergeSort]⟩
    · exact .inr ⟨rfl, rfl⟩
  clear hE hcs
  generalize hes0 : (Sp.entries s).1 = es at *
  generalize (Sp.entries s).2 = f at *
  refine run_bind_eq2 (σ := { kn2 : List (Int × Wd) // (kn2.map (·.1)).Nodup ∧ ∀ a, lookW kn2 a = lookW kn a })
    (l' := fun _ => [(0, .map (some wb)), (7, spP p), (8, .slice ea es.length ecap), (9, .int .i64 f), (10, .map (some nx))]) (Γ' := fun kn2 => [SpaceA p s, EnA ea ecap es, A' st, pt nx (mapI (knM kn2.1))]) ?_ ?_
  · refine zcl ?_
    refine run_loop (S := List (Int × Wd) × List Nat) (fun _ => [(0, .map (some wb)), (7, spP p), (8, .slice ea es.length ecap), (9, .int .i64 f), (10, .map (some nx)), (31, .pointer (some ⟨it, 0, none⟩))])
      (fun st' Γ => Γ = [SpaceA p s, EnA ea ecap es, A' st, pt nx (mapI (knM st'.1)), pt it (iterI wb (knM kn).length st'.2 (knM kn).length)] ∧ (∀ q ∈ st'.2, ∀ a w, kn[q]? = some (a, w) → lookW st'.1 a = some w) ∧ (∀ a w, lookW st'.1 a = some w → lookW kn a = some w) ∧ (st'.1.map (·.1)).Nodup)
      (fun st' => cnt kn.length st'.2) ([], []) ⟨rfl, rfl, rfl, rfl, rfl, rfl, trivial⟩ ⟨rfl, by simp, by simp [lookW], by simp⟩ ?_
    rintro ⟨kn2, seen⟩ Γ junk ⟨rfl, h1, h2, h3⟩
    dsimp only at h1 h2 h3 ⊢
    repeat (first | refine zck ?_ | refine zcl ?_ | refine zcm ?_ | refine zcn ?_ | refine zco ?_)
    refine zcp (by kernel_rfl) ?_
    refine zap rfl ?_
    refine reg_next 4 0 rfl rfl (sh_know 0 rfl) rfl (fun _ => rfl) (fun hall => ?_) (fun q e hq hns => ?_)
    · repeat' (first | refine zck ?_ | (refine zap rfl ?_; first | ((with_reducible refine zcz ?_); refine zan rfl ?_)) | refine zch ?_ | refine zcj rfl ?_)
      refine cut_exit rfl rfl ?_
      refine run_take [0, 0, 0, 0] rfl ?_
      refine cut_end ⟨rfl, ⟨kn2, h3, fun a => ?_⟩, ⟨rfl, rfl, rfl, rfl, rfl, trivial⟩, rfl⟩
      cases hk : lookW kn a with
      | none =>
        cases hk' : lookW kn2 a with
        | none => rfl
        | some w => have := h2 a w hk'; rw [hk] at this; cases this
      | some w =>
        obtain ⟨q, hq⟩ := lookW_mem kn a w hk
        have hql := (List.getElem?_eq_some_iff.1 hq).1
        exact h1 q (hall q (by rw [knM_length]; exact hql)) a w hq
    · rw [knM_get] at hq
      obtain ⟨⟨a, w⟩, hq2, rfl⟩ : ∃ aw, kn[q]? = some aw ∧ e = (aw.1, wordV aw.2) := by
        cases h : kn[q]? with
        | none => rw [h] at hq; cases hq
        | some aw => rw [h] at hq; exact ⟨aw, rfl, (Option.some.inj hq).symm⟩
      have hk1 := keys_look kn hw.nd q a w hq2
      have hql := (List.getElem?_eq_some_iff.1 hq2).1
      have hq3 : (knM kn)[q]? = some (a, wordV w) := by rw [knM_get, hq2]; rfl
      repeat' (refine zap rfl ?_; first | ((with_reducible refine zcz ?_); refine zan rfl ?_))
      refine zch ?_
      repeat (first | refine zck ?_ | refine zcl ?_ | refine zcm ?_ | refine zcn ?_ | refine zco ?_)
      refine zci rfl ?_
      repeat (first | refine zck ?_ | refine zcl ?_ | refine zcm ?_ | refine zcn ?_ | refine zco ?_)
      repeat (first | refine zck ?_ | refine zcl ?_ | refine zcm ?_ | refine zcn ?_)
      first | refine zcp (by kernel_rfl) ?_ | refine zcr [(.quiet, 0), (.quiet, 1), (.quiet, 2), (.quiet, 3), (.loud, 4), (.quiet, 5), (.quiet, 6), (.loud, 7), (.quiet, 8), (.quiet, 9), (.quiet, 10), (.loud, 11)] PP_mixed (by kernel_rfl) (by kernel_rfl) ?_ | refine zcq PP_mixed (by kernel_rfl) (by kernel_rfl) ?_
      repeat' (refine zap rfl ?_; first | refine reg_entry 4 rfl rfl (sh_know 0 rfl) hq3 ?_ | ((with_reducible refine zcv ?_); refine zan rfl ?_) | ((with_reducible refine zcz ?_); refine zan rfl ?_) | ((with_reducible refine zdd ?_); refine zae 5 rfl rfl rfl rfl rfl rfl rfl ?_) | ((with_reducible refine zdh ?_); refine zar (fun nb => ?_)))
      all_goals refine zch ?_
      all_goals repeat (first | refine zck ?_ | refine zcl ?_ | refine zcm ?_ | refine zcn ?_)
      refine run_share [5] rfl ?_
      repeat' (first | refine zcp (by kernel_rfl) ?_ | refine zcn ?_ | (refine zap rfl ?_; first | refine reg_mapUpdate 3 rfl rfl rfl rfl rfl ?_ | ((with_reducible refine zcu ?_); refine zan rfl ?_) | ((with_reducible refine zcw ?_); refine zaa 0 rfl rfl rfl ?_)) | refine zch ?_)
      refine cut_end ⟨rfl, (insW kn2 a w, seen ++ [q]), ⟨rfl, rfl, rfl, rfl, rfl, rfl, trivial⟩, ⟨?_, ?_, ?_, insW_keys _ _ _ h3⟩, ?_⟩
      · show _ = [_, _, _, pt nx (mapI (knM (insW kn2 a w))), _]
        rw [← ins_knM]; rfl
      · intro q' hq' a' w' h
        rw [look_insW]
        rcases List.mem_append.1 hq' with hq' | hq'
        · have := h1 q' hq' a' w' h
          by_cases e : a = a'
          · subst e; rw [if_pos rfl]
            have := keys_look kn hw.nd q' a w' h
            rw [hk1] at this; exact this
          · rw [if_neg e]; exact this
        · simp at hq'; subst hq'
          rw [hq2] at h; cases h; rw [if_pos rfl]
      · intro a' w' h
        rw [look_insW] at h
        by_cases e : a = a'
        · subst e; rw [if_pos rfl] at h; cases h; exact hk1
        · rw [if_neg e] at h; exact h2 a' w' h
      · have := (cnt_more q seen hns kn.length).2 hql
        dsimp only; omega
  rintro ⟨kn2, hn2, hk2⟩ junk
  dsimp only
  repeat (first | refine zck ?_ | refine zcl ?_ | refine zcm ?_ | refine zcn ?_)
  first | refine zcp (by kernel_rfl) ?_ | refine zcr [(.quiet, 0), (.quiet, 1), (.quiet, 2), (.quiet, 3), (.loud, 4), (.quiet, 5), (.quiet, 6), (.loud, 7), (.quiet, 8), (.quiet, 9), (.quiet, 10), (.loud, 11)] PP_mixed (by kernel_rfl) (by kernel_rfl) ?_ | refine zcq PP_mixed (by kernel_rfl) (by kernel_rfl) ?_
  repeat' (refine zap rfl ?_; first | ((with_reducible refine zcu ?_); refine zan rfl ?_) | ((with_reducible refine zcx ?_); refine zce rfl ?_))
  all_goals refine zch ?_
  all_goals repeat (refine zck ?_)
  refine run_bind_eq2 (σ := { kn3 : List (Int × Wd) // (kn3.map (·.1)).Nodup ∧ ∀ a, lookW kn3 a = partW kn s ((s.rd.mergeSort leI).take es.length) a })
    (l' := fun _ => [(0, .map (some wb)), (7, spP p), (8, .slice ea es.length ecap), (9, .int .i64 f), (10, .map (some nx))]) (Γ' := fun kn3 => [SpaceA p s, A' st, pt nx (mapI (knM kn3.1))]) ?_ ?_
  · refine zcl ?_
    refine run_loop (S := Nat × List (Int × Wd)) (fun st' => [(0, .map (some wb)), (7, spP p), (8, .slice ea es.length ecap), (9, .int .i64 f), (10, .map (some nx)), (40, .slice ea es.length ecap), (41, .int .i64 (es.length : Int)), (42, .int .i64 (st'.1 : Int))])
      (fun st' Γ => Γ = [SpaceA p s, EnA ea ecap es, A' st, pt nx (mapI (knM st'.2))] ∧ st'.1 ≤ es.length ∧ (st'.2.map (·.1)).Nodup ∧ ∀ a, lookW st'.2 a = partW kn s ((s.rd.mergeSort leI).take st'.1) a)
      (fun st' => es.length - st'.1) (0, kn2) ⟨rfl, rfl, rfl, rfl, rfl, rfl, rfl, rfl, trivial⟩ ⟨rfl, Nat.zero_le _, hn2, fun a => by rw [List.take_zero, partW_nil]; exact hk2 a⟩ ?_
    rintro ⟨j, kn3⟩ Γ junk ⟨rfl, h1, h2, h3⟩
    dsimp only at h1 h2 h3 ⊢
    by_cases hj : j < es.length
    · obtain ⟨x, hx⟩ : ∃ x, es[j]? = some x := ⟨_, List.getElem?_eq_getElem hj⟩
      obtain ⟨y, hy1, rfl, hy2⟩ := hel j x hx
      obtain ⟨wy, hwy⟩ : ∃ w, lookW kn y = some w := by
        cases h : lookW kn y with
        | none => exact absurd ((hks y).trans h) (hL.wf.rk y hy1)
        | some w => exact ⟨w, rfl⟩
      obtain ⟨v1, v2, v3, v4, v5⟩ := hw.wd y wy hwy
      have hold : oldW s y = wy := by unfold oldW; rw [hks, hwy]
      obtain ⟨w3, hw3⟩ : ∃ w3, lookW kn3 y = some w3 := by
        rw [h3]; unfold partW nextW
        split
        · rw [hwy]; exact ⟨_, rfl⟩
        · exact ⟨wy, hwy⟩
      have hl3 : Vc.look (knM kn3) y = some (wordV w3) := by rw [look_knM, hw3]; rfl
      have hlk : (Vc.look (knM kn) y).getD (.agg #[.int .i64 0, .int .u32 0, .int .u32 0]) = .agg #[.int .i64 wy.val, .int .u32 wy.ver, .int .u32 wy.ref] := by rw [look_knM, hwy]; rfl
      have hr : ∀ o, o = j * 6 → rd true 6 (flatE es) o = some (.agg (List.toArray [.int .i64 y, .int .i64 wy.val, .int .u32 wy.ver, .int .u32 wy.ref, .int .i64 (s.value y).1, .bool (s.value y).2])) := fun o ho => by
        rw [← hold]; exact flatE_rd hx o ho
      have ht : (s.rd.mergeSort leI).take (j + 1) = (s.rd.mergeSort leI).take j ++ [y] := by rw [List.take_add_one, hy2]; rfl
      have hwr : IntKind.u32.wrap (wy.ver + 1) = wy.ver + 1 := wrap_u32 (by omega) (by omega)
      refine run_sl_cases 1 rfl (fun _ h _ _ => absurd h (by omega)) ?_
      intro bb k1 k2 k3
      subst k1
      repeat' (first | refine zck ?_ | refine zcp (by kernel_rfl) ?_ | refine zcm ?_ | refine zcl ?_ | (refine zap rfl ?_; first | refine zag 1 rfl rfl (hr _ (by omega)) (by intro h; decide) ?_ | refine reg_lookupOk 3 rfl rfl rfl hl3 ?_ | refine reg_lookup_sh 0 rfl rfl rfl hlk ?_ | refine reg_ne_word rfl rfl ⟨rfl, rfl, rfl⟩ ?_ | ((with_reducible refine zct ?_); refine zaj rfl ?_) | ((with_reducible refine zcu ?_); refine zan rfl ?_) | ((with_reducible refine zcv ?_); refine zan rfl ?_) | ((with_reducible refine zcw ?_); refine zab 4 rfl rfl rfl ?_) | ((with_reducible refine zcy ?_); refine zao rfl ?_) | ((with_reducible refine zcz ?_); refine zan rfl ?_) | ((with_reducible refine zda ?_); refine zbg rfl rfl (by omega) ?_) | ((with_reducible refine zdb ?_); refine zbx rfl ?_) | ((with_reducible refine zdc ?_); refine zbv rfl ?_) | ((with_reducible refine zdd ?_); first | refine zae 4 rfl rfl rfl rfl rfl rfl rfl ?_ | refine zae 5 rfl rfl rfl rfl rfl rfl rfl ?_) | ((with_reducible refine zdf ?_); refine zas rfl rfl (by omega) ?_) | ((with_reducible refine zdh ?_); refine zar (fun nb => ?_))) | refine zch ?_ | refine zci rfl ?_ | refine zcj rfl ?_)
      refine run_condV rfl (fun hE => ?_) (fun hE => ?_)
      · have hE : (s.value y).2 = true := hE
        repeat' (first | refine zcp (by kernel_rfl) ?_ | refine zcn ?_ | (refine zap rfl ?_; first | (refine reg_add (t := 46) rfl rfl ?_; rw [hwr]) | refine reg_mapUpdate 3 rfl rfl rfl rfl rfl ?_ | ((with_reducible refine zcu ?_); refine zan rfl ?_) | ((with_reducible refine zcw ?_); refine zab 4 rfl rfl rfl ?_) | ((with_reducible refine zcy ?_); refine zao rfl ?_) | ((with_reducible refine zda ?_); refine zau rfl rfl (by omega) ?_) | refine zcb rfl ?_) | refine zch ?_)
        refine run_take [0, 0, 0, 0] rfl ?_
        refine cut_end ⟨rfl, (j + 1, insW kn3 y ⟨(s.value y).1, wy.ver + 1, 0⟩), ⟨rfl, rfl, rfl, rfl, rfl, rfl, rfl, int_eq (by dsimp only; omega), trivial⟩, ⟨?_, by dsimp only; omega, insW_keys _ _ _ h2, fun a => ?_⟩, by dsimp only; omega⟩
        · show _ = [_, _, _, pt nx (mapI (knM (insW kn3 y _)))]
          rw [← ins_knM]; rfl
        · dsimp only
          rw [look_insW, ht, partW_snoc, h3]
          by_cases e : y = a
          · subst e
            rw [if_pos rfl, if_pos rfl, nextW, hwy]
            simp [hE]
          · rw [if_neg e, if_neg e]
      · have hE : (s.value y).2 = false := hE
        repeat' (first | refine zcp (by kernel_rfl) ?_ | refine zcm ?_ | refine zcn ?_ | (refine zap rfl ?_; first | ((with_reducible refine zcu ?_); refine zan rfl ?_) | ((with_reducible refine zda ?_); refine zau rfl rfl (by omega) ?_)) | refine zch ?_)
        refine run_take [0, 0, 0, 0] rfl ?_
        refine cut_end ⟨rfl, (j + 1, kn3), ⟨rfl, rfl, rfl, rfl, rfl, rfl, rfl, int_eq (by dsimp only; omega), trivial⟩, ⟨rfl, by dsimp only; omega, h2, fun a => ?_⟩, by dsimp only; omega⟩
        dsimp only
        rw [ht, partW_snoc, h3]
        by_cases e : y = a
        · subst e
          rw [if_pos rfl]
          have : nextW kn s y = lookW kn y := by rw [nextW, hwy]; simp [hE]
          unfold partW
          split
          · rfl
          · exact this.symm
        · rw [if_neg e]
    · repeat' (first | refine zck ?_ | refine zcp (by kernel_rfl) ?_ | (refine zap rfl ?_; first | ((with_reducible refine zda ?_); refine zbh rfl rfl (by omega) ?_)) | refine zch ?_ | refine zcj rfl ?_)
      refine cut_exit rfl rfl ?_
      refine run_take [0, 1, 1] rfl ?_
      have e : j = es.length := by omega
      subst e
      exact cut_end ⟨rfl, ⟨kn3, h2, h3⟩, ⟨rfl, rfl, rfl, rfl, rfl, trivial⟩, rfl⟩
  rintro ⟨kn3, hn3, hk3⟩ junk
  dsimp only
  rcases hfin with ⟨rfl, hlen⟩ | ⟨rfl, hlen⟩
  · have hk4 : ∀ a, lookW kn3 a = nextW kn s a := fun a => by
      rw [hk3, hlen]
      refine partW_all (fun q hq => ?_) a
      rw [List.take_of_length_le (by rw [List.length_mergeSort]; omega), List.mem_mergeSort]
      exact hL.wf.pr q hq
    repeat' (first | refine zck ?_ | refine zcp (by kernel_rfl) ?_ | refine zcm ?_ | (refine zap rfl ?_; first | (refine zbx rfl ?_; rw [hL.live]) | ((with_reducible refine zct ?_); first | refine zaj rfl ?_ | refine zak rfl ?_) | ((with_reducible refine zcu ?_); refine zan rfl ?_) | ((with_reducible refine zcv ?_); refine zan rfl ?_) | ((with_reducible refine zcx ?_); refine zah [0] (ended_spec w0 p s) rfl rfl rfl sub_nil rfl ?_) | ((with_reducible refine zda ?_); first | refine zbc rfl rfl (by omega) ?_ | refine zbd rfl rfl (by omega) ?_) | ((with_reducible refine zdc ?_); refine zbu rfl ?_)) | refine zch ?_ | refine zcj rfl ?_)
    refine run_take [2, 1] rfl ?_
    exact ret_tmp3 rfl ⟨st, s, nx, ea, es.length, ecap, kn3, rfl, rfl, hψ, nextW_ok hw hn3 hk4, hk4⟩
  · have hk5 : ∀ a, lookW kn3 a = lookW kn a := fun a => by rw [hk3, hlen, List.take_zero, partW_nil]
    repeat (first | refine zck ?_ | refine zcl ?_ | refine zcm ?_ | refine zcn ?_)
    first | refine zcp (by kernel_rfl) ?_ | refine zcr [(.quiet, 0), (.quiet, 1), (.quiet, 2), (.quiet, 3), (.loud, 4), (.quiet, 5), (.quiet, 6), (.loud, 7), (.quiet, 8), (.quiet, 9), (.quiet, 10), (.loud, 11)] PP_mixed (by kernel_rfl) (by kernel_rfl) ?_ | refine zcq PP_mixed (by kernel_rfl) (by kernel_rfl) ?_
    repeat' (refine zap rfl ?_; first | ((with_reducible refine zcu ?_); refine zan rfl ?_) | ((with_reducible refine zda ?_); refine zbc rfl rfl (by omega) ?_))
    all_goals refine zch ?_
    all_goals repeat (first | refine zck ?_ | refine zcl ?_ | refine zcm ?_ | refine zcn ?_)
    refine run_bind_eq2 (σ := { q : Sp × List (Int × Wd) // q.1.ended = false ∧ (q.2.map (·.1)).Nodup ∧ ∀ a, lookW q.2 a = nextW kn s a })
      (l' := fun _ => [(0, .map (some wb)), (7, spP p), (8, .slice ea es.length ecap), (9, .int .i64 15), (10, .map (some nx))]) (Γ' := fun q => [SpaceA p q.1.1, A' st, pt nx (mapI (knM q.1.2))]) ?_ ?_
    · refine zci rfl ?_
      have hW := writes_spec w0 p s (by omega)
      have hwl : s.writes.length ≤ s.puts.length := by
        have := ddN_le ((s.puts.map (·.1)).mergeSort (fun x y => decide (x ≤ y))) ((s.puts.map (·.1)).mergeSort (fun x y => decide (x ≤ y))).length
        rw [List.length_mergeSort, List.length_map] at this
        unfold Sp.writes
        simp only [List.length_mergeSort, List.length_map]
        exact this
      repeat (first | refine zck ?_ | refine zcl ?_ | refine zcm ?_ | refine zcn ?_)
      first | refine zcp (by kernel_rfl) ?_ | refine zcr [(.quiet, 0), (.quiet, 1), (.quiet, 2), (.quiet, 3), (.loud, 4), (.quiet, 5), (.quiet, 6), (.loud, 7), (.quiet, 8), (.quiet, 9), (.quiet, 10), (.loud, 11)] PP_mixed (by kernel_rfl) (by kernel_rfl) ?_ | refine zcq PP_mixed (by kernel_rfl) (by kernel_rfl) ?_
      repeat' (refine zap rfl ?_; first | (refine zai [0] hW rfl rfl rfl sub_nil ?_; rintro v Γ' ⟨wa, wcap, rfl, rfl⟩) | ((with_reducible refine zcu ?_); refine zan rfl ?_) | ((with_reducible refine zcx ?_); refine zce rfl ?_))
      all_goals refine zch ?_
      all_goals repeat (refine zck ?_)
      refine zcl ?_
      refine run_loop (S := Nat × Sp × List (Int × Wd)) (fun st' => [(0, .map (some wb)), (7, spP p), (8, .slice ea es.length ecap), (9, .int .i64 15), (10, .map (some nx)), (81, .slice wa s.writes.length wcap), (82, .int .i64 (s.writes.length : Int)), (83, .int .i64 (st'.1 : Int))])
        (fun st' Γ => Γ = [SpaceA p st'.2.1, SlA 27 1 wa s.writes.length wcap (intsV s.writes), A' st, pt nx (mapI (knM st'.2.2))] ∧ st'.1 ≤ s.writes.length ∧ (st'.2.1.ended = false ∧ st'.2.1.kn = s.kn ∧ st'.2.1.puts = s.puts) ∧ (st'.2.2.map (·.1)).Nodup ∧ ∀ a, lookW st'.2.2 a = partW kn s (s.writes.take st'.1) a)
        (fun st' => s.writes.length - st'.1) (0, s, kn3) ⟨rfl, rfl, rfl, rfl, rfl, rfl, rfl, rfl, trivial⟩ ⟨rfl, Nat.zero_le _, ⟨hL.live, rfl, rfl⟩, hn3, fun a => by rw [List.take_zero, partW_nil]; exact hk5 a⟩ ?_
      rintro ⟨j, s2, kn4⟩ Γ junk ⟨rfl, h1, ⟨g1, g2, g3⟩, h2, h3⟩
      dsimp only at h1 g1 g2 g3 h2 h3 ⊢
      by_cases hj : j < s.writes.length
      · obtain ⟨y, hy⟩ : ∃ y, s.writes[j]? = some y := ⟨_, List.getElem?_eq_getElem hj⟩
        have hr := ints_rd hy
        obtain ⟨pq, hpq, hpy⟩ := (Sp.writes_mem y).1 (List.mem_of_getElem? hy)
        have hyrd := hL.wf.pr pq hpq
        rw [hpy] at hyrd
        obtain ⟨wy, hwy⟩ : ∃ w, lookW kn y = some w := by
          cases h : lookW kn y with
          | none => exact absurd ((hks y).trans h) (hL.wf.rk y hyrd)
          | some w => exact ⟨w, rfl⟩
        obtain ⟨v1, v2, v3, v4, v5⟩ := hw.wd y wy hwy
        have hE : (s.value y).2 = true := hpy ▸ value_wr hpq
        have hval : s2.value y = s.value y := by simp only [Sp.value, g2, g3]
        have hg := get_live (s := s2) (x := y) g1 (by rw [g2, hks]; exact hwy)
        have hG := get_spec w0 p s2 y (by rw [g3]; omega)
        rw [hg, hval] at hG
        have hlk : (Vc.look (knM kn) y).getD (.agg #[.int .i64 0, .int .u32 0, .int .u32 0]) = .agg #[.int .i64 wy.val, .int .u32 wy.ver, .int .u32 wy.ref] := by rw [look_knM, hwy]; rfl
        have ht : s.writes.take (j + 1) = s.writes.take j ++ [y] := by rw [List.take_add_one, hy]; rfl
        have hwr : IntKind.u32.wrap (wy.ver + 1) = wy.ver + 1 := wrap_u32 (by omega) (by omega)
        refine run_sl_cases 1 rfl (fun _ h _ _ => absurd h (by omega)) ?_
        intro bb k1 k2 k3
        subst k1
        repeat (first | refine zck ?_ | refine zcl ?_ | refine zcm ?_ | refine zcn ?_)
        first | refine zcp (by kernel_rfl) ?_ | refine zcr [(.quiet, 0), (.quiet, 1), (.quiet, 2), (.quiet, 3), (.loud, 4), (.quiet, 5), (.quiet, 6), (.loud, 7), (.quiet, 8), (.quiet, 9), (.quiet, 10), (.loud, 11)] PP_mixed (by kernel_rfl) (by kernel_rfl) ?_ | refine zcq PP_mixed (by kernel_rfl) (by kernel_rfl) ?_
        repeat' (refine zap rfl ?_; first | ((with_reducible refine zda ?_); refine zbg rfl rfl (by omega) ?_))
        all_goals refine zch ?_
        all_goals repeat (first | refine zck ?_ | refine zcl ?_ | refine zcm ?_ | refine zcn ?_)
        refine zci rfl ?_
        repeat (first | refine zck ?_ | refine zcl ?_ | refine zcm ?_ | refine zcn ?_)
        first | refine zcp (by kernel_rfl) ?_ | refine zcr [(.quiet, 0), (.quiet, 1), (.quiet, 2), (.quiet, 3), (.loud, 4), (.quiet, 5), (.quiet, 6), (.loud, 7), (.quiet, 8), (.quiet, 9), (.quiet, 10), (.loud, 11)] PP_mixed (by kernel_rfl) (by kernel_rfl) ?_ | refine zcq PP_mixed (by kernel_rfl) (by kernel_rfl) ?_
        repeat' (refine zap rfl ?_; first | refine zag 1 rfl rfl (hr _ (by omega)) (by intro h; cases h) ?_ | ((with_reducible refine zcv ?_); refine zan rfl ?_) | ((with_reducible refine zdf ?_); refine zas rfl rfl (by omega) ?_))
        all_goals refine zch ?_
        all_goals repeat (refine zck ?_)
        refine zcr [(.quiet, 0), (.quiet, 1), (.quiet, 2), (.quiet, 3), (.loud, 4), (.quiet, 5), (.quiet, 6), (.quiet, 7), (.quiet, 8), (.quiet, 9), (.quiet, 10), (.loud, 11)] PP_mixed (by kernel_rfl) (by kernel_rfl) ?_
        repeat' (refine zap rfl ?_; first | refine reg_lookup_sh 0 rfl rfl rfl hlk ?_ | refine reg_fieldV rfl rfl ?_ | (refine reg_add (t := 46) rfl rfl ?_; rw [hwr]) | refine zcb rfl ?_ | refine reg_mapUpdate 3 rfl rfl rfl rfl rfl ?_ | ((with_reducible refine zcu ?_); refine zan rfl ?_) | ((with_reducible refine zcx ?_); refine zah [0] hG rfl rfl rfl sub_nil rfl ?_))
        refine zch ?_
        repeat' (first | refine zcp (by kernel_rfl) ?_ | refine zcn ?_ | (refine zap rfl ?_; first | ((with_reducible refine zcu ?_); refine zan rfl ?_) | ((with_reducible refine zda ?_); refine zau rfl rfl (by omega) ?_)) | refine zch ?_)
        refine cut_end ⟨rfl, (j + 1, { s2 with rd := insI s2.rd y }, insW kn4 y ⟨(s.value y).1, wy.ver + 1, 0⟩), ⟨rfl, rfl, rfl, rfl, rfl, rfl, rfl, int_eq (by dsimp only; omega), trivial⟩, ⟨?_, by dsimp only; omega, ⟨g1, g2, g3⟩, insW_keys _ _ _ h2, fun a => ?_⟩, by dsimp only; omega⟩
        · show _ = [_, _, _, pt nx (mapI (knM (insW kn4 y _)))]
          rw [← ins_knM]; rfl
        · dsimp only
          rw [look_insW, ht, partW_snoc, h3]
          by_cases e : y = a
          · subst e
            rw [if_pos rfl, if_pos rfl, nextW, hwy]
            simp [hE]
          · rw [if_neg e, if_neg e]
      · repeat' (first | refine zck ?_ | refine zcp (by kernel_rfl) ?_ | (refine zap rfl ?_; first | ((with_reducible refine zda ?_); refine zbh rfl rfl (by omega) ?_)) | refine zch ?_ | refine zcj rfl ?_)
        refine cut_exit rfl rfl ?_
        refine run_take [0, 1, 1] rfl ?_
        have e : j = s.writes.length := by omega
        subst e
        refine cut_end ⟨rfl, ⟨(s2, kn4), g1, h2, fun a => ?_⟩, ⟨rfl, rfl, rfl, rfl, rfl, trivial⟩, rfl⟩
        dsimp only
        rw [h3]
        refine partW_all (fun q hq => ?_) a
        rw [List.take_length]
        exact (Sp.writes_mem _).2 ⟨q, hq, rfl⟩
    · rintro ⟨⟨s2, kn4⟩, g1, hn4, hk4⟩ junk
      dsimp only at g1 hn4 hk4 ⊢
      repeat' (first | refine zck ?_ | refine zcp (by kernel_rfl) ?_ | (refine zap rfl ?_; first | (refine zbx rfl ?_; rw [g1]) | ((with_reducible refine zct ?_); refine zaj rfl ?_) | ((with_reducible refine zcu ?_); refine zan rfl ?_) | ((with_reducible refine zcv ?_); refine zan rfl ?_) | ((with_reducible refine zcx ?_); refine zah [0] (ended_spec w0 p s2) rfl rfl rfl sub_nil rfl ?_) | ((with_reducible refine zda ?_); first | refine zbc rfl rfl (by omega) ?_ | refine zbd rfl rfl (by omega) ?_) | ((with_reducible refine zdc ?_); first | refine zbu rfl ?_ | refine zbv rfl ?_)) | refine zch ?_)
      refine run_take [2, 1] rfl ?_
      refine ret_tmp3 rfl ?_
      exact ⟨st, s, nx, ea, es.length, ecap, kn4, rfl, rfl, hψ, nextW_ok hw hn4 hk4, hk4⟩
end Go.Proofs.Ytpcnbaddkblbhaa

/- The reference of the forest: copy, Make, Is, Find, Nodes, Sets. -/
namespace Sim
open Go Go.Vc
structure Rf where
  below : List Int
  size : List Int
  joins : List Int
def Rf.make (r : Rf) : Rf := ⟨r.below ++ [0], r.size ++ [1], r.joins⟩
/-- From `x` the way up comes to `r` in so many steps. -/
def UpN (b : List Int) : Nat → Int → Int → Prop
  | 0, x, r => x = r ∧ 1 ≤ x ∧ b[(x - 1).toNat]? = some 0
  | k + 1, x, r => 1 ≤ x ∧ ∃ y, b[(x - 1).toNat]? = some y ∧ y ≠ 0 ∧ UpN b k y r
end Sim
namespace Go.Proofs.Ytpcnbaddkblbhaa
open Go.Vc Sim
set_option maxHeartbeats 4000000
abbrev rV (a1 : Option Addr) (c1 : Nat) (a2 : Option Addr) (c2 : Nat) (a3 : Option Addr) (c3 : Nat) (b z j : List Int) : Value := .agg (List.toArray [.slice a1 b.length c1, .slice a2 z.length c2, .slice a3 j.length c3])
abbrev rP (a1 : Option Addr) (c1 : Nat) (a2 : Option Addr) (c2 : Nat) (a3 : Option Addr) (c3 : Nat) (b z j : List Int) : List Asn := [SlA 3 1 a1 b.length c1 (intsV b), SlA 3 1 a2 z.length c2 (intsV z), SlA 3 1 a3 j.length c3 (intsV j)]
/-- A reference's forest comes out. -/
abbrev rOut (b z j : List Int) (v : Value) (Γ : List Asn) : Prop := ∃ a1 c1 a2 c2 a3 c3, v = rV a1 c1 a2 c2 a3 c3 b z j ∧ Γ = rP a1 c1 a2 c2 a3 c3 b z j
structure RaR (w0 : World) (sh : Shared) (a1 : Option Addr) (c1 : Nat) (a2 : Option Addr) (c2 : Nat) (a3 : Option Addr) (c3 : Nat) (b z j : List Int) : Prop where
  r1 : RdSl w0 sh encI 1 (.slice a1 b.length c1) b
  r2 : RdSl w0 sh encI 1 (.slice a2 z.length c2) z
  r3 : RdSl w0 sh encI 1 (.slice a3 j.length c3) j
  l1 : b.length ≤ 1000
  l2 : z.length ≤ 1000
  l3 : j.length ≤ 1000
section
variable {a1 : Option Addr} {c1 : Nat} {a2 : Option Addr} {c2 : Nat} {a3 : Option Addr} {c3 : Nat} {b z j : List Int}
theorem RaR.mono {w0 : World} {sh sh' : Shared} (h : RaR w0 sh a1 c1 a2 c2 a3 c3 b z j) (hs : ∀ p ∈ sh, p ∈ sh') : RaR w0 sh' a1 c1 a2 c2 a3 c3 b z j := ⟨h.r1.mono hs, h.r2.mono hs, h.r3.mono hs, h.l1, h.l2, h.l3⟩
theorem rfCopy (w0 : World) (sh : Shared) (h : RaR w0 sh a1 c1 a2 c2 a3 c3 b z j) :
    Vc.Fn PP w0 sh 72 [rV a1 c1 a2 c2 a3 c3 b z j] [] (rOut b z j) := by
  obtain ⟨r1, r2, r3, l1, l2, l3⟩ := h
  refine fn_of_run en72 fn72 rfl rfl rfl ?_
  refine run_nilslice 3 1 ?_
  refine run_nilslice 3 1 ?_
  refine run_nilslice 3 1 ?_
  repeat (first | refine zck ?_ | refine zcl ?_ | refine zcm ?_ | refine zcn ?_)
  first | refine zcp (by kernel_rfl) ?_ | refine zcq PP_mixed (by kernel_rfl) (by kernel_rfl) ?_
  repeat' (refine zap rfl ?_; first | ((with_reducible refine zdg ?_); refine zaq (cs := [_, _, _]) rfl (fun nb => ?_)) | ((with_reducible refine zdh ?_); refine zar (fun nb => ?_)))
  all_goals refine zch ?_
  all_goals repeat (first | refine zck ?_ | refine zcl ?_ | refine zcm ?_ | refine zcn ?_)
  refine run_share [3] rfl ?_
  repeat (first | refine zck ?_ | refine zcl ?_ | refine zcm ?_ | refine zcn ?_)
  first | refine zcp (by kernel_rfl) ?_ | refine zcq PP_mixed (by kernel_rfl) (by kernel_rfl) ?_
  repeat' (refine zap rfl ?_; first | ((with_reducible refine zdh ?_); refine zar (fun nb => ?_)))
  all_goals refine zch ?_
  all_goals repeat (first | refine zck ?_ | refine zcl ?_ | refine zcm ?_ | refine zcn ?_)
  repeat (first | refine zck ?_ | refine zcl ?_ | refine zcm ?_ | refine zcn ?_)
  first | refine zcp (by kernel_rfl) ?_ | refine zcq PP_mixed (by kernel_rfl) (by kernel_rfl) ?_
  repeat' (refine zap rfl ?_; first | refine reg_append_rd 0 rfl rfl (r1.mono (fun _ hp => .tail _ hp)) rfl rfl (by omega) (fun _ _ => rfl) (fun a1' c1' => ?_) | ((with_reducible refine zcw ?_); first | refine zaa 0 rfl rfl rfl ?_ | refine zab 4 rfl rfl rfl ?_) | ((with_reducible refine zcy ?_); refine zao rfl ?_) | ((with_reducible refine zdd ?_); refine zae 4 rfl rfl rfl rfl rfl rfl rfl ?_))
  all_goals refine zch ?_
  all_goals repeat (first | refine zck ?_ | refine zcl ?_ | refine zcm ?_ | refine zcn ?_)
  repeat (first | refine zck ?_ | refine zcl ?_ | refine zcm ?_ | refine zcn ?_)
  first | refine zcp (by kernel_rfl) ?_ | refine zcq PP_mixed (by kernel_rfl) (by kernel_rfl) ?_
  repeat' (refine zap rfl ?_; first | refine reg_append_rd 1 rfl rfl (r2.mono (fun _ hp => .tail _ hp)) rfl rfl (by omega) (fun _ _ => rfl) (fun a2' c2' => ?_) | ((with_reducible refine zcw ?_); first | refine zaa 0 rfl rfl rfl ?_ | refine zab 4 rfl rfl rfl ?_) | ((with_reducible refine zcy ?_); refine zao rfl ?_) | ((with_reducible refine zdd ?_); refine zae 4 rfl rfl rfl rfl rfl rfl rfl ?_))
  all_goals refine zch ?_
  all_goals repeat (first | refine zck ?_ | refine zcl ?_ | refine zcm ?_ | refine zcn ?_)
  repeat (first | refine zck ?_ | refine zcl ?_ | refine zcm ?_ | refine zcn ?_)
  first | refine zcp (by kernel_rfl) ?_ | refine zcq PP_mixed (by kernel_rfl) (by kernel_rfl) ?_
  repeat' (refine zap rfl ?_; first | refine reg_append_rd 2 rfl rfl (r3.mono (fun _ hp => .tail _ hp)) rfl rfl (by omega) (fun _ _ => rfl) (fun a3' c3' => ?_) | ((with_reducible refine zcw ?_); first | refine zaa 0 rfl rfl rfl ?_ | refine zab 4 rfl rfl rfl ?_) | ((with_reducible refine zcy ?_); refine zao rfl ?_) | ((with_reducible refine zdd ?_); refine zae 4 rfl rfl rfl rfl rfl rfl rfl ?_))
  all_goals refine zch ?_
  all_goals repeat (first | refine zck ?_ | refine zcl ?_ | refine zcm ?_ | refine zcn ?_)
  repeat (first | refine zck ?_ | refine zcl ?_ | refine zcm ?_ | refine zcn ?_)
  first | refine zcp (by kernel_rfl) ?_ | refine zcq PP_mixed (by kernel_rfl) (by kernel_rfl) ?_
  repeat' (refine zap rfl ?_; first | ((with_reducible refine zcw ?_); refine zab 4 rfl rfl rfl ?_) | ((with_reducible refine zdd ?_); refine zae 3 rfl rfl rfl rfl rfl rfl rfl ?_))
  all_goals refine zch ?_
  all_goals repeat (first | refine zck ?_ | refine zcl ?_ | refine zcm ?_ | refine zcn ?_)
  refine run_ret (leaves_nil (ends_take [0, 0, 0] rfl (ends_one rfl (resOk_pt 3 rfl rfl rfl) ⟨rfl, a1', c1', a2', c2', a3', c3', ?_, ?_⟩)))
  · exact (show _ = Value.agg (List.toArray [.slice a1' (0 + b.length) c1', .slice a2' (0 + z.length) c2', .slice a3' (0 + j.length) c3']) from rfl).trans (by simp only [Nat.zero_add])
  · simp only [Nat.zero_add, List.nil_append]
theorem rfMake (w0 : World) (sh : Shared) (h : RaR w0 sh a1 c1 a2 c2 a3 c3 b z j) :
    Vc.Fn PP w0 sh 59 [rV a1 c1 a2 c2 a3 c3 b z j] [] (rOut (b ++ [0]) (z ++ [1]) j) := by
  have hC := rfCopy w0 sh h
  have l1 := h.l1
  have l2 := h.l2
  refine fn_of_run en59 fn59 rfl rfl rfl ?_
  repeat (first | refine zck ?_ | refine zcl ?_ | refine zcm ?_ | refine zcn ?_)
  first | refine zcp (by kernel_rfl) ?_ | refine zcq PP_mixed (by kernel_rfl) (by kernel_rfl) ?_
  repeat' (refine zap rfl ?_; first | ((with_reducible refine zdg ?_); refine zaq (cs := [_, _, _]) rfl (fun nb => ?_)) | ((with_reducible refine zdh ?_); refine zar (fun nb => ?_)))
  all_goals refine zch ?_
  all_goals repeat (first | refine zck ?_ | refine zcl ?_ | refine zcm ?_ | refine zcn ?_)
  repeat (first | refine zck ?_ | refine zcl ?_ | refine zcm ?_ | refine zcn ?_)
  first | refine zcp (by kernel_rfl) ?_ | refine zcq PP_mixed (by kernel_rfl) (by kernel_rfl) ?_
  repeat' (refine zap rfl ?_; first | (refine zai [] hC rfl rfl rfl (fun _ h => h) ?_; rintro v Γ' ⟨b1, d1, b2, d2, b3, d3, rfl, rfl⟩) | ((with_reducible refine zcw ?_); refine zab 0 rfl rfl rfl ?_) | ((with_reducible refine zdd ?_); refine zae 5 rfl rfl rfl rfl rfl rfl rfl ?_) | ((with_reducible refine zdh ?_); refine zar (fun nb => ?_)))
  all_goals refine zch ?_
  all_goals repeat (first | refine zck ?_ | refine zcl ?_ | refine zcm ?_ | refine zcn ?_)
  repeat (first | refine zck ?_ | refine zcl ?_ | refine zcm ?_ | refine zcn ?_)
  first | refine zcp (by kernel_rfl) ?_ | refine zcq PP_mixed (by kernel_rfl) (by kernel_rfl) ?_
  repeat' (refine zap rfl ?_; first | refine reg_buildSlice rfl rfl rfl rfl rfl rfl (fun nb => ?_) | refine reg_append 0 6 rfl rfl rfl rfl rfl rfl rfl rfl (by omega) (fun _ _ => rfl) (fun a1' c1' => ?_) | ((with_reducible refine zcw ?_); refine zab 5 rfl rfl rfl ?_) | ((with_reducible refine zcy ?_); refine zao rfl ?_) | ((with_reducible refine zdd ?_); refine zae 5 rfl rfl rfl rfl rfl rfl rfl ?_))
  all_goals refine zch ?_
  all_goals repeat (first | refine zck ?_ | refine zcl ?_ | refine zcm ?_ | refine zcn ?_)
  repeat (first | refine zck ?_ | refine zcl ?_ | refine zcm ?_ | refine zcn ?_)
  first | refine zcp (by kernel_rfl) ?_ | refine zcq PP_mixed (by kernel_rfl) (by kernel_rfl) ?_
  repeat' (refine zap rfl ?_; first | refine reg_buildSlice rfl rfl rfl rfl rfl rfl (fun nb => ?_) | refine reg_append 1 7 rfl rfl rfl rfl rfl rfl rfl rfl (by omega) (fun _ _ => rfl) (fun a2' c2' => ?_) | ((with_reducible refine zcw ?_); refine zab 5 rfl rfl rfl ?_) | ((with_reducible refine zcy ?_); refine zao rfl ?_) | ((with_reducible refine zdd ?_); refine zae 5 rfl rfl rfl rfl rfl rfl rfl ?_))
  all_goals refine zch ?_
  all_goals repeat (first | refine zck ?_ | refine zcl ?_ | refine zcm ?_ | refine zcn ?_)
  repeat (first | refine zck ?_ | refine zcl ?_ | refine zcm ?_ | refine zcn ?_)
  first | refine zcp (by kernel_rfl) ?_ | refine zcq PP_mixed (by kernel_rfl) (by kernel_rfl) ?_
  repeat' (refine zap rfl ?_; first | ((with_reducible refine zcw ?_); refine zab 5 rfl rfl rfl ?_) | ((with_reducible refine zdd ?_); refine zae 4 rfl rfl rfl rfl rfl rfl rfl ?_))
  all_goals refine zch ?_
  all_goals repeat (first | refine zck ?_ | refine zcl ?_ | refine zcm ?_ | refine zcn ?_)
  refine run_ret (leaves_nil (ends_take [0, 0, 0] rfl (ends_one rfl (resOk_pt 4 rfl rfl rfl) ⟨rfl, a1', c1', a2', c2', b3, d3, ?_, ?_⟩)))
  · exact (show _ = Value.agg (List.toArray [.slice a1' (b.length + 1) c1', .slice a2' (z.length + 1) c2', .slice b3 j.length d3]) from rfl).trans (by simp only [rV, List.length_append, List.length_cons, List.length_nil])
  · exact (show _ = [SlA 3 1 a1' (b.length + 1) c1' (intsV b ++ [.int .i64 0]), SlA 3 1 a2' (z.length + 1) c2' (intsV z ++ [.int .i64 1]), SlA 3 1 b3 j.length d3 (intsV j)] from rfl).trans (by simp [rP, intsV])
theorem rfIs (w0 : World) (sh : Shared) (h : RaR w0 sh a1 c1 a2 c2 a3 c3 b z j) (x : Int) :
    FnE PP w0 sh 55 [rV a1 c1 a2 c2 a3 c3 b z j, .int .i64 x] [] (.bool (decide (1 ≤ x ∧ x ≤ b.length))) [] := by
  have l1 := h.l1
  refine fn_of_run en55 fn55 rfl rfl rfl ?_
  repeat (first | refine zck ?_ | refine zcl ?_ | refine zcm ?_ | refine zcn ?_)
  first | refine zcp (by kernel_rfl) ?_ | refine zcq PP_mixed (by kernel_rfl) (by kernel_rfl) ?_
  repeat' (refine zap rfl ?_; first | ((with_reducible refine zcv ?_); refine zan rfl ?_) | ((with_reducible refine zdg ?_); refine zaq (cs := [_, _, _]) rfl (fun nb => ?_)))
  all_goals refine zch ?_
  all_goals repeat (first | refine zck ?_ | refine zcl ?_ | refine zcm ?_ | refine zcn ?_)
  refine run_share [0] rfl ?_
  by_cases hx : 1 ≤ x
  · by_cases hx2 : x ≤ b.length
    · rw [decide_eq_true ⟨hx, hx2⟩]
      repeat' (first | refine zcp (by kernel_rfl) ?_ | (refine zap rfl ?_; first | ((with_reducible refine zct ?_); refine zaj rfl ?_) | ((with_reducible refine zcu ?_); refine zan rfl ?_) | ((with_reducible refine zcv ?_); refine zan rfl ?_) | ((with_reducible refine zcw ?_); refine zaa 0 rfl rfl rfl ?_) | ((with_reducible refine zcx ?_); refine zce rfl ?_) | ((with_reducible refine zcy ?_); refine zao rfl ?_) | ((with_reducible refine zda ?_); first | refine zbi rfl rfl (by omega) ?_ | refine zbm rfl rfl (by omega) ?_) | ((with_reducible refine zdc ?_); refine zbu rfl ?_)) | refine zch ?_)
      exact ret_tmp1 rfl ⟨rfl, rfl⟩
    · rw [decide_eq_false (fun h => hx2 h.2)]
      repeat' (first | refine zcp (by kernel_rfl) ?_ | (refine zap rfl ?_; first | ((with_reducible refine zct ?_); refine zaj rfl ?_) | ((with_reducible refine zcu ?_); refine zan rfl ?_) | ((with_reducible refine zcv ?_); refine zan rfl ?_) | ((with_reducible refine zcw ?_); refine zaa 0 rfl rfl rfl ?_) | ((with_reducible refine zcx ?_); refine zce rfl ?_) | ((with_reducible refine zcy ?_); refine zao rfl ?_) | ((with_reducible refine zda ?_); first | refine zbj rfl rfl (by omega) ?_ | refine zbm rfl rfl (by omega) ?_) | ((with_reducible refine zdc ?_); refine zbu rfl ?_)) | refine zch ?_)
      exact ret_tmp1 rfl ⟨rfl, rfl⟩
  · rw [decide_eq_false (fun h => hx h.1)]
    repeat' (first | refine zcp (by kernel_rfl) ?_ | (refine zap rfl ?_; first | ((with_reducible refine zct ?_); refine zak rfl ?_) | ((with_reducible refine zcu ?_); refine zan rfl ?_) | ((with_reducible refine zcv ?_); refine zan rfl ?_) | ((with_reducible refine zda ?_); refine zbn rfl rfl (by omega) ?_) | ((with_reducible refine zdc ?_); refine zbv rfl ?_)) | refine zch ?_)
    exact ret_tmp1 rfl ⟨rfl, rfl⟩
theorem rfSets (w0 : World) (sh : Shared) (h : RaR w0 sh a1 c1 a2 c2 a3 c3 b z j) :
    FnE PP w0 sh 62 [rV a1 c1 a2 c2 a3 c3 b z j] [] (.int .i64 ((b.length : Int) - j.length)) [] := by
  have l1 := h.l1
  have l3 := h.l3
  refine fn_of_run en62 fn62 rfl rfl rfl ?_
  repeat (first | refine zck ?_ | refine zcl ?_ | refine zcm ?_ | refine zcn ?_)
  first | refine zcp (by kernel_rfl) ?_ | refine zcq PP_mixed (by kernel_rfl) (by kernel_rfl) ?_
  repeat' (refine zap rfl ?_; first | ((with_reducible refine zcv ?_); refine zan rfl ?_) | ((with_reducible refine zdg ?_); refine zaq (cs := [_, _, _]) rfl (fun nb => ?_)))
  all_goals refine zch ?_
  all_goals repeat (first | refine zck ?_ | refine zcl ?_ | refine zcm ?_ | refine zcn ?_)
  refine run_share [0] rfl ?_
  repeat' (first | refine zcp (by kernel_rfl) ?_ | (refine zap rfl ?_; first | ((with_reducible refine zcv ?_); refine zan rfl ?_) | ((with_reducible refine zcw ?_); refine zaa 0 rfl rfl rfl ?_) | ((with_reducible refine zcx ?_); refine zce rfl ?_) | ((with_reducible refine zcy ?_); refine zao rfl ?_) | ((with_reducible refine zda ?_); refine zav rfl rfl (by omega) ?_)) | refine zch ?_)
  exact ret_tmp1 rfl ⟨rfl, rfl⟩
theorem rfNodes (w0 : World) (n : Int) (hn : 0 ≤ n ∧ n ≤ 1000) : FnE PP w0 [] 60 [.int .i64 n] [] (.int .i64 ((n + 1) / 2 + ((n + 1) / 2 + 7) / 8)) [] := by
  refine fn_of_run en60 fn60 rfl rfl rfl ?_
  repeat' (first | refine zck ?_ | refine zcp (by kernel_rfl) ?_ | (refine zap rfl ?_; first | ((with_reducible refine zcu ?_); refine zan rfl ?_) | ((with_reducible refine zcv ?_); refine zan rfl ?_) | ((with_reducible refine zda ?_); first | refine zau rfl rfl (by omega) ?_ | refine zax rfl rfl (by omega) ?_)) | refine zch ?_)
  exact ret_tmp1 rfl ⟨rfl, rfl⟩
theorem rfFind (w0 : World) (sh : Shared) (h : RaR w0 sh a1 c1 a2 c2 a3 c3 b z j) (k : Nat) (x r : Int) (hu : UpN b k x r) :
    FnE PP w0 sh 71 [rV a1 c1 a2 c2 a3 c3 b z j, .int .i64 x] [] (.int .i64 r) [] := by
  have l1 := h.l1
  have r1 := h.r1
  refine fn_of_run en71 fn71 rfl rfl rfl ?_
  repeat (first | refine zck ?_ | refine zcl ?_ | refine zcm ?_ | refine zcn ?_)
  first | refine zcp (by kernel_rfl) ?_ | refine zcq PP_mixed (by kernel_rfl) (by kernel_rfl) ?_
  repeat' (refine zap rfl ?_; first | ((with_reducible refine zcv ?_); refine zan rfl ?_) | ((with_reducible refine zdg ?_); refine zaq (cs := [_, _, _]) rfl (fun nb => ?_)))
  all_goals refine zch ?_
  all_goals repeat (first | refine zck ?_ | refine zcl ?_ | refine zcm ?_ | refine zcn ?_)
  refine run_share [0] rfl ?_
  refine run_loop (S := Nat × Int) (fun st => [(2, .pointer (some ⟨nb, 0, none⟩)), (1, .int .i64 st.2)])
    (fun st Γ => Γ = [] ∧ UpN b st.1 st.2 r) (fun st => st.1) (k, x) ⟨rfl, rfl, trivial⟩ ⟨rfl, hu⟩ ?_
  rintro ⟨k, x⟩ Γ junk ⟨rfl, hu⟩
  dsimp only at hu ⊢
  cases k with
  | zero =>
    obtain ⟨rfl, hx, hy⟩ := hu
    obtain ⟨bb, off, cc, TT, fr, rfl, hm, hr⟩ := r1.at hy
    have hlt := (List.getElem?_eq_some_iff.1 hy).1
    repeat' (first | refine zck ?_ | refine zcp (by kernel_rfl) ?_ | (refine zap rfl ?_; first | refine zad rfl (fun hF Γ w h1 h2 => hm hF Γ w (fun p hp => h1 p (.tail _ hp)) h2) (hr _ (by omega)) ?_ | ((with_reducible refine zcu ?_); refine zan rfl ?_) | ((with_reducible refine zcw ?_); refine zaa 0 rfl rfl rfl ?_) | ((with_reducible refine zcy ?_); refine zao rfl ?_) | ((with_reducible refine zda ?_); first | refine zbf rfl rfl (by omega) ?_ | refine zav rfl rfl (by omega) ?_) | ((with_reducible refine zdf ?_); refine zas rfl rfl (by omega) ?_)) | refine zch ?_ | refine zcj rfl ?_)
    refine cut_exit rfl rfl ?_
    repeat' (first | refine zck ?_ | refine zcp (by kernel_rfl) ?_ | (refine zap rfl ?_; first | ((with_reducible refine zcu ?_); refine zan rfl ?_) | ((with_reducible refine zcv ?_); refine zan rfl ?_)) | refine zch ?_)
    exact ret_tmp1 rfl ⟨rfl, rfl⟩
  | succ k =>
    obtain ⟨hx, y, hy, hne, hu⟩ := hu
    obtain ⟨bb, off, cc, TT, fr, rfl, hm, hr⟩ := r1.at hy
    have hlt := (List.getElem?_eq_some_iff.1 hy).1
    repeat' (first | refine zck ?_ | refine zcp (by kernel_rfl) ?_ | refine zcm ?_ | refine zcl ?_ | refine zcn ?_ | (refine zap rfl ?_; first | refine zad rfl (fun hF Γ w h1 h2 => hm hF Γ w (fun p hp => h1 p (.tail _ hp)) h2) (hr _ (by omega)) ?_ | ((with_reducible refine zcu ?_); refine zan rfl ?_) | ((with_reducible refine zcv ?_); refine zan rfl ?_) | ((with_reducible refine zcw ?_); refine zaa 0 rfl rfl rfl ?_) | ((with_reducible refine zcy ?_); refine zao rfl ?_) | ((with_reducible refine zda ?_); first | refine zbe rfl rfl (by omega) ?_ | refine zav rfl rfl (by omega) ?_) | ((with_reducible refine zdf ?_); refine zas rfl rfl (by omega) ?_)) | refine zch ?_ | refine zci rfl ?_)
    exact cut_end ⟨rfl, (k, y), ⟨rfl, rfl, trivial⟩, ⟨rfl, hu⟩, Nat.lt_succ_self _⟩
end
end Go.Proofs.Ytpcnbaddkblbhaa

/- The reference of the forest: Union, Undo. -/
namespace Go.Proofs.Ytpcnbaddkblbhaa
open Go.Vc Sim
set_option maxHeartbeats 8000000
section
variable {a1 : Option Addr} {c1 : Nat} {a2 : Option Addr} {c2 : Nat} {a3 : Option Addr} {c3 : Nat} {b z j : List Int}
theorem UpN_end : ∀ {b : List Int} {k : Nat} {x r : Int}, UpN b k x r → 1 ≤ r ∧ b[(r - 1).toNat]? = some 0
  | _, 0, _, _, h => by obtain ⟨rfl, h1, h2⟩ := h; exact ⟨h1, h2⟩
  | _, _ + 1, _, _, h => by obtain ⟨_, y, _, _, h⟩ := h; exact UpN_end h
theorem rfSame (w0 : World) (sh : Shared) (h : RaR w0 sh a1 c1 a2 c2 a3 c3 b z j) (k k' : Nat) (x y p : Int) (hx : UpN b k x p) (hy : UpN b k' y p) :
    FnE PP w0 sh 56 [rV a1 c1 a2 c2 a3 c3 b z j, .int .i64 x, .int .i64 y] [] (.tuple #[rV a1 c1 a2 c2 a3 c3 b z j, .bool false]) [] := by
  have f1 := rfFind w0 sh h k x p hx
  have f2 := rfFind w0 sh h k' y p hy
  refine fn_of_run en56 fn56 rfl rfl rfl ?_
  repeat (first | refine zck ?_ | refine zcl ?_ | refine zcm ?_ | refine zcn ?_)
  first | refine zcp (by kernel_rfl) ?_ | refine zcq PP_mixed (by kernel_rfl) (by kernel_rfl) ?_
  repeat' (refine zap rfl ?_; first | ((with_reducible refine zcv ?_); refine zan rfl ?_) | ((with_reducible refine zdg ?_); refine zaq (cs := [_, _, _]) rfl (fun nb => ?_)) | ((with_reducible refine zdh ?_); refine zar (fun nb => ?_)))
  all_goals refine zch ?_
  all_goals repeat (first | refine zck ?_ | refine zcl ?_ | refine zcm ?_ | refine zcn ?_)
  refine run_share [0] rfl ?_
  repeat' (first | refine zck ?_ | refine zcp (by kernel_rfl) ?_ | refine zcq PP_mixed (by kernel_rfl) (by kernel_rfl) ?_ | (refine zap rfl ?_; first | ((with_reducible refine zcu ?_); refine zan rfl ?_) | ((with_reducible refine zcv ?_); refine zan rfl ?_) | ((with_reducible refine zcw ?_); refine zaa 0 rfl rfl rfl ?_) | ((with_reducible refine zcx ?_); first | refine zah [] f1 rfl rfl rfl (fun _ h => .tail _ h) rfl ?_ | refine zah [] f2 rfl rfl rfl (fun _ h => .tail _ h) rfl ?_) | ((with_reducible refine zda ?_); refine zbc rfl rfl (by omega) ?_) | ((with_reducible refine zdd ?_); refine zae 0 rfl rfl rfl rfl rfl rfl rfl ?_)) | refine zch ?_ | refine zci rfl ?_)
  refine run_ret (leaves_nil (ends_take [] rfl (ends_two rfl (resOk_pt 0 rfl rfl rfl) rfl ⟨rfl, rfl, rfl⟩)))
theorem rfJoin (w0 : World) (sh : Shared) (h : RaR w0 sh a1 c1 a2 c2 a3 c3 b z j) (k k' : Nat) (x y p q hi lo sp sq : Int) (hx : UpN b k x p) (hy : UpN b k' y q) (hne : p ≠ q) (hsp : z[(p - 1).toNat]? = some sp) (hsq : z[(q - 1).toNat]? = some sq) (hs : 0 ≤ sp ∧ sp ≤ 1000 ∧ 0 ≤ sq ∧ sq ≤ 1000)
    (hc : ((sp < sq ∨ (sp = sq ∧ q < p)) ∧ hi = q ∧ lo = p) ∨ ((sq < sp ∨ (sp = sq ∧ p < q)) ∧ hi = p ∧ lo = q)) :
    Vc.Fn PP w0 sh 56 [rV a1 c1 a2 c2 a3 c3 b z j, .int .i64 x, .int .i64 y] []
      (fun v Γ => ∃ v', v = .tuple #[v', .bool true] ∧ rOut (b.set (lo - 1).toNat hi) (z.set (hi - 1).toNat (sp + sq)) (j ++ [lo]) v' Γ) := by
  have f1 := rfFind w0 sh h k x p hx
  have f2 := rfFind w0 sh h k' y q hy
  have hC := rfCopy w0 sh h
  obtain ⟨p1, p2⟩ := UpN_end hx
  obtain ⟨q1, q2⟩ := UpN_end hy
  have lp := (List.getElem?_eq_some_iff.1 p2).1
  have lq := (List.getElem?_eq_some_iff.1 q2).1
  have zp := (List.getElem?_eq_some_iff.1 hsp).1
  have zq := (List.getElem?_eq_some_iff.1 hsq).1
  obtain ⟨r1, r2, r3, l1, l2, l3⟩ := h
  obtain ⟨bb, off, cc, TT, fr, e2, hm, hr⟩ := r2.at hsp
  obtain ⟨bb', off', cc', TT', fr', e2', hm', hr'⟩ := r2.at hsq
  have zrp := ints_rd hsp
  have zrq := ints_rd hsq
  refine fn_of_run en56 fn56 rfl rfl rfl ?_
  subst e2
  cases e2'
  repeat (first | refine zck ?_ | refine zcl ?_ | refine zcm ?_ | refine zcn ?_)
  first | refine zcp (by kernel_rfl) ?_ | refine zcq PP_mixed (by kernel_rfl) (by kernel_rfl) ?_
  repeat' (refine zap rfl ?_; first | ((with_reducible refine zcv ?_); refine zan rfl ?_) | ((with_reducible refine zdg ?_); refine zaq (cs := [_, _, _]) rfl (fun nb => ?_)) | ((with_reducible refine zdh ?_); refine zar (fun nb => ?_)))
  all_goals refine zch ?_
  all_goals repeat (first | refine zck ?_ | refine zcl ?_ | refine zcm ?_ | refine zcn ?_)
  rename_i bx
  revert nb; intro b6
  refine run_share [0] rfl ?_
  repeat (first | refine zck ?_ | refine zcl ?_ | refine zcm ?_ | refine zcn ?_)
  first | refine zcp (by kernel_rfl) ?_ | refine zcq PP_mixed (by kernel_rfl) (by kernel_rfl) ?_
  repeat' (refine zap rfl ?_; first | ((with_reducible refine zcu ?_); refine zan rfl ?_) | ((with_reducible refine zcv ?_); refine zan rfl ?_) | ((with_reducible refine zcw ?_); refine zaa 0 rfl rfl rfl ?_) | ((with_reducible refine zcx ?_); first | refine zah [] f1 rfl rfl rfl (fun _ h => .tail _ h) rfl ?_ | refine zah [] f2 rfl rfl rfl (fun _ h => .tail _ h) rfl ?_))
  all_goals refine zch ?_
  all_goals repeat (first | refine zck ?_ | refine zcl ?_ | refine zcm ?_ | refine zcn ?_)
  repeat (first | refine zck ?_ | refine zcl ?_ | refine zcm ?_ | refine zcn ?_)
  first | refine zcp (by kernel_rfl) ?_ | refine zcq PP_mixed (by kernel_rfl) (by kernel_rfl) ?_
  repeat' (refine zap rfl ?_; first | ((with_reducible refine zcu ?_); refine zan rfl ?_) | ((with_reducible refine zda ?_); refine zbd rfl rfl (by omega) ?_))
  all_goals refine zch ?_
  all_goals repeat (first | refine zck ?_ | refine zcl ?_ | refine zcm ?_ | refine zcn ?_)
  refine zcj rfl ?_
  refine zcm ?_
  repeat refine zck ?_
  refine run_bind_eq (l' := [(3, .pointer (some ⟨bx, 0, none⟩)), (6, .pointer (some ⟨b6, 0, none⟩)), (8, .int .i64 p), (9, .int .i64 q), (53, .bool (decide (sp < sq ∨ (sp = sq ∧ q < p))))]) (Γ' := [pt b6 (.cells (List.toArray [.slice none 0 0, .slice none 0 0, .slice none 0 0]) 34 (0, 0))]) ?_ (fun junk => ?_)
  · by_cases hc1 : sp < sq
    · rw [decide_eq_true (.inl hc1)]
      repeat' (first | refine zcq PP_mixed (by kernel_rfl) (by kernel_rfl) ?_ | (refine zap rfl ?_; first | refine zad rfl (fun hF Γ w h1 h2 => hm hF Γ w (fun p hp => h1 p (.tail _ hp)) h2) (hr _ (by omega)) ?_ | refine zad rfl (fun hF Γ w h1 h2 => hm' hF Γ w (fun p hp => h1 p (.tail _ hp)) h2) (hr' _ (by omega)) ?_ | ((with_reducible refine zct ?_); first | refine zak rfl ?_ | refine zal rfl ?_) | ((with_reducible refine zcu ?_); refine zan rfl ?_) | ((with_reducible refine zcw ?_); refine zaa 0 rfl rfl rfl ?_) | ((with_reducible refine zcy ?_); refine zao rfl ?_) | ((with_reducible refine zda ?_); first | refine zbg rfl rfl (by omega) ?_ | refine zav rfl rfl (by omega) ?_) | ((with_reducible refine zdc ?_); refine zbu rfl ?_) | ((with_reducible refine zdf ?_); refine zas rfl rfl (by omega) ?_)) | refine zch ?_)
      exact cut_end ⟨rfl, ⟨rfl, rfl, rfl, rfl, rfl, trivial⟩, rfl⟩
    · by_cases hc2 : sp = sq
      · by_cases hc3 : q < p
        · rw [decide_eq_true (.inr ⟨hc2, hc3⟩)]
          repeat' (first | refine zcq PP_mixed (by kernel_rfl) (by kernel_rfl) ?_ | (refine zap rfl ?_; first | refine zad rfl (fun hF Γ w h1 h2 => hm hF Γ w (fun p hp => h1 p (.tail _ hp)) h2) (hr _ (by omega)) ?_ | refine zad rfl (fun hF Γ w h1 h2 => hm' hF Γ w (fun p hp => h1 p (.tail _ hp)) h2) (hr' _ (by omega)) ?_ | ((with_reducible refine zct ?_); refine zaj rfl ?_) | ((with_reducible refine zcu ?_); refine zan rfl ?_) | ((with_reducible refine zcw ?_); refine zaa 0 rfl rfl rfl ?_) | ((with_reducible refine zcy ?_); refine zao rfl ?_) | ((with_reducible refine zda ?_); first | refine zbc rfl rfl (by omega) ?_ | refine zbh rfl rfl (by omega) ?_ | refine zbk rfl rfl (by omega) ?_ | refine zav rfl rfl (by omega) ?_) | ((with_reducible refine zdc ?_); first | refine zbu rfl ?_ | refine zbv rfl ?_) | ((with_reducible refine zdf ?_); refine zas rfl rfl (by omega) ?_)) | refine zch ?_)
          exact cut_end ⟨rfl, ⟨rfl, rfl, rfl, rfl, rfl, trivial⟩, rfl⟩
        · rw [decide_eq_false (by omega)]
          repeat' (first | refine zcq PP_mixed (by kernel_rfl) (by kernel_rfl) ?_ | (refine zap rfl ?_; first | refine zad rfl (fun hF Γ w h1 h2 => hm hF Γ w (fun p hp => h1 p (.tail _ hp)) h2) (hr _ (by omega)) ?_ | refine zad rfl (fun hF Γ w h1 h2 => hm' hF Γ w (fun p hp => h1 p (.tail _ hp)) h2) (hr' _ (by omega)) ?_ | ((with_reducible refine zct ?_); refine zaj rfl ?_) | ((with_reducible refine zcu ?_); refine zan rfl ?_) | ((with_reducible refine zcw ?_); refine zaa 0 rfl rfl rfl ?_) | ((with_reducible refine zcy ?_); refine zao rfl ?_) | ((with_reducible refine zda ?_); first | refine zbc rfl rfl (by omega) ?_ | refine zbh rfl rfl (by omega) ?_ | refine zbl rfl rfl (by omega) ?_ | refine zav rfl rfl (by omega) ?_) | ((with_reducible refine zdc ?_); first | refine zbu rfl ?_ | refine zbv rfl ?_) | ((with_reducible refine zdf ?_); refine zas rfl rfl (by omega) ?_)) | refine zch ?_)
          exact cut_end ⟨rfl, ⟨rfl, rfl, rfl, rfl, rfl, trivial⟩, rfl⟩
      · rw [decide_eq_false (by omega)]
        repeat' (first | refine zcq PP_mixed (by kernel_rfl) (by kernel_rfl) ?_ | (refine zap rfl ?_; first | refine zad rfl (fun hF Γ w h1 h2 => hm hF Γ w (fun p hp => h1 p (.tail _ hp)) h2) (hr _ (by omega)) ?_ | refine zad rfl (fun hF Γ w h1 h2 => hm' hF Γ w (fun p hp => h1 p (.tail _ hp)) h2) (hr' _ (by omega)) ?_ | ((with_reducible refine zct ?_); first | refine zaj rfl ?_ | refine zak rfl ?_) | ((with_reducible refine zcu ?_); refine zan rfl ?_) | ((with_reducible refine zcw ?_); refine zaa 0 rfl rfl rfl ?_) | ((with_reducible refine zcy ?_); refine zao rfl ?_) | ((with_reducible refine zda ?_); first | refine zbd rfl rfl (by omega) ?_ | refine zbh rfl rfl (by omega) ?_ | refine zav rfl rfl (by omega) ?_) | ((with_reducible refine zdc ?_); refine zbv rfl ?_) | ((with_reducible refine zdf ?_); refine zas rfl rfl (by omega) ?_)) | refine zch ?_)
        exact cut_end ⟨rfl, ⟨rfl, rfl, rfl, rfl, rfl, trivial⟩, rfl⟩
  refine run_bind_eq (l' := [(3, .pointer (some ⟨bx, 0, none⟩)), (6, .pointer (some ⟨b6, 0, none⟩)), (8, .int .i64 hi), (9, .int .i64 lo)]) (Γ' := [pt b6 (.cells (List.toArray [.slice none 0 0, .slice none 0 0, .slice none 0 0]) 34 (0, 0))]) ?_ (fun junk => ?_)
  · refine run_cond rfl (fun hE => ?_) (fun hE => ?_)
    · repeat' (first | refine zcp (by kernel_rfl) ?_ | (refine zap rfl ?_; first | ((with_reducible refine zcu ?_); refine zan rfl ?_) | ((with_reducible refine zcv ?_); refine zan rfl ?_)) | refine zch ?_)
      rcases hc with ⟨hc, rfl, rfl⟩ | ⟨hc, rfl, rfl⟩
      · exact cut_end ⟨rfl, ⟨rfl, rfl, rfl, rfl, trivial⟩, rfl⟩
      · omega
    · repeat' (first | refine zcm ?_ | (refine zap rfl ?_; first | ((with_reducible refine zct ?_); first | refine zaj rfl ?_ | refine zak rfl ?_ | refine zal rfl ?_ | refine zam rfl rfl (fun _ => ?_) (fun _ => ?_))) | refine zch ?_)
      rcases hc with ⟨hc, rfl, rfl⟩ | ⟨hc, rfl, rfl⟩
      · omega
      · exact cut_end ⟨rfl, ⟨rfl, rfl, rfl, rfl, trivial⟩, rfl⟩
  have hlo : (lo = p ∨ lo = q) ∧ (hi = p ∨ hi = q) := by omega
  have lhi : (hi - 1).toNat < z.length ∧ (lo - 1).toNat < z.length ∧ (lo - 1).toNat < b.length ∧ 1 ≤ hi ∧ 1 ≤ lo := by
    rcases hlo with ⟨rfl | rfl, rfl | rfl⟩ <;> exact ⟨by assumption, by assumption, by assumption, by omega, by omega⟩
  obtain ⟨g1, g2, g3, g4, g5⟩ := lhi
  obtain ⟨zh, hzh⟩ : ∃ u, z[(hi - 1).toNat]? = some u := ⟨_, List.getElem?_eq_getElem g1⟩
  obtain ⟨zl, hzl⟩ : ∃ u, z[(lo - 1).toNat]? = some u := ⟨_, List.getElem?_eq_getElem g2⟩
  have hsum : zh + zl = sp + sq ∧ 0 ≤ zh ∧ zh ≤ 1000 ∧ 0 ≤ zl ∧ zl ≤ 1000 := by
    rcases hc with ⟨hc, rfl, rfl⟩ | ⟨hc, rfl, rfl⟩
    · rw [hsq] at hzh; rw [hsp] at hzl; cases hzh; cases hzl; omega
    · rw [hsp] at hzh; rw [hsq] at hzl; cases hzh; cases hzl; omega
  have zrh := ints_rd hzh
  have zrl := ints_rd hzl
  have w1 : ∀ o, o = (lo - 1).toNat → wr [Value.int .i64 hi] o (intsV b) = some (intsV (b.set (lo - 1).toNat hi)) := fun o ho => by rw [ho]; exact wr_int1 b _ _ g3
  have w2 : ∀ o, o = (hi - 1).toNat → wr [Value.int .i64 (zh + zl)] o (intsV z) = some (intsV (z.set (hi - 1).toNat (sp + sq))) := fun o ho => by rw [ho, ← hsum.1]; exact wr_int1 z _ _ g1
  repeat (first | refine zck ?_ | refine zcl ?_ | refine zcm ?_ | refine zcn ?_)
  first | refine zcp (by kernel_rfl) ?_ | refine zcq PP_mixed (by kernel_rfl) (by kernel_rfl) ?_
  repeat' (refine zap rfl ?_; first | (refine zai [] hC rfl rfl rfl (fun _ h => .tail _ h) ?_; rintro v Γ' ⟨b1, d1, b2, d2, b3, d3, rfl, rfl⟩) | ((with_reducible refine zcw ?_); refine zaa 0 rfl rfl rfl ?_) | ((with_reducible refine zdd ?_); refine zae 4 rfl rfl rfl rfl rfl rfl rfl ?_) | ((with_reducible refine zdh ?_); refine zar (fun nb => ?_)))
  all_goals refine zch ?_
  all_goals repeat (first | refine zck ?_ | refine zcl ?_ | refine zcm ?_ | refine zcn ?_)
  refine run_sl_cases 0 rfl (fun _ h _ _ => absurd h (by omega)) ?_
  intro bb1 k1 k2 k3
  subst k1
  refine run_sl_cases 1 rfl (fun _ h _ _ => absurd h (by omega)) ?_
  intro bb2 k1 k2 k3
  subst k1
  repeat (first | refine zck ?_ | refine zcl ?_ | refine zcm ?_ | refine zcn ?_)
  first | refine zcp (by kernel_rfl) ?_ | refine zcq PP_mixed (by kernel_rfl) (by kernel_rfl) ?_
  repeat' (refine zap rfl ?_; first | refine zaf 0 rfl rfl rfl rfl rfl (w1 _ (by omega)) rfl ?_ | ((with_reducible refine zcu ?_); refine zan rfl ?_) | ((with_reducible refine zcw ?_); refine zab 4 rfl rfl rfl ?_) | ((with_reducible refine zcy ?_); refine zao rfl ?_) | ((with_reducible refine zda ?_); refine zav rfl rfl (by omega) ?_) | ((with_reducible refine zdf ?_); refine zas rfl rfl (by omega) ?_))
  all_goals refine zch ?_
  all_goals repeat (first | refine zck ?_ | refine zcl ?_ | refine zcm ?_ | refine zcn ?_)
  refine run_drawR PP_mixed (by kernel_rfl) (by kernel_rfl) ?_
  repeat' (refine zap rfl ?_; first | refine zag 1 rfl rfl (zrh _ (by omega)) (by intro h; cases h) ?_ | refine zag 1 rfl rfl (zrl _ (by omega)) (by intro h; cases h) ?_ | refine zaf 1 rfl rfl rfl rfl rfl (w2 _ (by omega)) rfl ?_ | ((with_reducible refine zcu ?_); refine zan rfl ?_) | ((with_reducible refine zcw ?_); refine zab 4 rfl rfl rfl ?_) | ((with_reducible refine zcy ?_); refine zao rfl ?_) | ((with_reducible refine zda ?_); first | refine zau rfl rfl (by omega) ?_ | refine zav rfl rfl (by omega) ?_) | ((with_reducible refine zdf ?_); refine zas rfl rfl (by omega) ?_))
  refine zch ?_
  repeat (first | refine zck ?_ | refine zcl ?_ | refine zcm ?_ | refine zcn ?_ | refine zco ?_)
  repeat (first | refine zck ?_ | refine zcl ?_ | refine zcm ?_ | refine zcn ?_)
  first | refine zcp (by kernel_rfl) ?_ | refine zcq PP_mixed (by kernel_rfl) (by kernel_rfl) ?_
  repeat' (refine zap rfl ?_; first | refine reg_buildSlice rfl rfl rfl rfl rfl rfl (fun nb => ?_) | refine reg_append 2 5 rfl rfl rfl rfl rfl rfl rfl rfl (by omega) (fun _ _ => rfl) (fun a3' c3' => ?_) | ((with_reducible refine zcu ?_); refine zan rfl ?_) | ((with_reducible refine zcw ?_); refine zab 4 rfl rfl rfl ?_) | ((with_reducible refine zcy ?_); refine zao rfl ?_) | ((with_reducible refine zdd ?_); refine zae 4 rfl rfl rfl rfl rfl rfl rfl ?_))
  all_goals refine zch ?_
  all_goals repeat (first | refine zck ?_ | refine zcl ?_ | refine zcm ?_ | refine zcn ?_)
  repeat (first | refine zck ?_ | refine zcl ?_ | refine zcm ?_ | refine zcn ?_)
  first | refine zcp (by kernel_rfl) ?_ | refine zcq PP_mixed (by kernel_rfl) (by kernel_rfl) ?_
  repeat' (refine zap rfl ?_; first | ((with_reducible refine zcv ?_); refine zan rfl ?_) | ((with_reducible refine zcw ?_); refine zab 4 rfl rfl rfl ?_) | ((with_reducible refine zdd ?_); refine zae 3 rfl rfl rfl rfl rfl rfl rfl ?_))
  all_goals refine zch ?_
  all_goals repeat (first | refine zck ?_ | refine zcl ?_ | refine zcm ?_ | refine zcn ?_)
  refine run_ret (leaves_nil (ends_take [0, 0, 0] rfl (ends_two rfl (resOk_pt 3 rfl rfl rfl) rfl ⟨rfl, _, rfl, some ⟨bb1, 0, none⟩, d1, some ⟨bb2, 0, none⟩, d2, a3', c3', ?_, ?_⟩)))
  · exact (show _ = Value.agg (List.toArray [.slice (some ⟨bb1, 0, none⟩) b.length d1, .slice (some ⟨bb2, 0, none⟩) z.length d2, .slice a3' (j.length + 1) c3']) from rfl).trans (by simp only [rV, List.length_append, List.length_cons, List.length_nil, List.length_set])
  · exact (show _ = [SlA 3 1 (some ⟨bb1, 0, none⟩) b.length d1 (intsV (b.set (lo - 1).toNat hi)), SlA 3 1 (some ⟨bb2, 0, none⟩) z.length d2 (intsV (z.set (hi - 1).toNat (sp + sq))), SlA 3 1 a3' (j.length + 1) c3' (intsV j ++ [.int .i64 lo])] from rfl).trans (by simp [rP, intsV])
theorem rfUndo0 (w0 : World) (sh : Shared) (h : RaR w0 sh a1 c1 a2 c2 a3 c3 b z j) (hj : j = []) :
    FnE PP w0 sh 57 [rV a1 c1 a2 c2 a3 c3 b z j] [] (.tuple #[rV a1 c1 a2 c2 a3 c3 b z j, .bool false]) [] := by
  have hl : (j.length : Int) = 0 := by rw [hj]; rfl
  refine fn_of_run en57 fn57 rfl rfl rfl ?_
  repeat (first | refine zck ?_ | refine zcl ?_ | refine zcm ?_ | refine zcn ?_)
  first | refine zcp (by kernel_rfl) ?_ | refine zcq PP_mixed (by kernel_rfl) (by kernel_rfl) ?_
  repeat' (refine zap rfl ?_; first | ((with_reducible refine zcv ?_); refine zan rfl ?_) | ((with_reducible refine zdg ?_); refine zaq (cs := [_, _, _]) rfl (fun nb => ?_)) | ((with_reducible refine zdh ?_); refine zar (fun nb => ?_)))
  all_goals refine zch ?_
  all_goals repeat (first | refine zck ?_ | refine zcl ?_ | refine zcm ?_ | refine zcn ?_)
  refine run_share [0] rfl ?_
  repeat' (first | refine zck ?_ | refine zcp (by kernel_rfl) ?_ | (refine zap rfl ?_; first | ((with_reducible refine zcv ?_); refine zan rfl ?_) | ((with_reducible refine zcw ?_); refine zaa 0 rfl rfl rfl ?_) | ((with_reducible refine zcx ?_); refine zce rfl ?_) | ((with_reducible refine zcy ?_); refine zao rfl ?_) | ((with_reducible refine zda ?_); refine zbc rfl rfl (by omega) ?_) | ((with_reducible refine zdd ?_); refine zae 0 rfl rfl rfl rfl rfl rfl rfl ?_)) | refine zch ?_ | refine zci rfl ?_)
  refine run_ret (leaves_nil (ends_take [] rfl (ends_two rfl (resOk_pt 0 rfl rfl rfl) rfl ⟨rfl, rfl, rfl⟩)))
theorem rfUndo (w0 : World) (sh : Shared) (h : RaR w0 sh a1 c1 a2 c2 a3 c3 b z j) (lo hi sh' sl : Int) (jl : Nat) (hjl : j.length = jl + 1) (hlo : j[jl]? = some lo) (h1 : 1 ≤ lo ∧ 1 ≤ hi) (hb : b[(lo - 1).toNat]? = some hi) (hh : z[(hi - 1).toNat]? = some sh') (hl : z[(lo - 1).toNat]? = some sl)
    (hs : 0 ≤ sh' ∧ sh' ≤ 1000 ∧ 0 ≤ sl ∧ sl ≤ 1000) :
    Vc.Fn PP w0 sh 57 [rV a1 c1 a2 c2 a3 c3 b z j] []
      (fun v Γ => ∃ v', v = .tuple #[v', .bool true] ∧ rOut (b.set (lo - 1).toNat 0) (z.set (hi - 1).toNat (sh' - sl)) (j.take jl) v' Γ) := by
  have hC := rfCopy w0 sh h
  obtain ⟨r1, r2, r3, l1, l2, l3⟩ := h
  have lb := (List.getElem?_eq_some_iff.1 hb).1
  have zh := (List.getElem?_eq_some_iff.1 hh).1
  have zl := (List.getElem?_eq_some_iff.1 hl).1
  have hjr := ints_rd hlo
  have hbr := ints_rd hb
  have hhr := ints_rd hh
  have hlr := ints_rd hl
  have w1 : ∀ o, o = (lo - 1).toNat → wr [Value.int .i64 0] o (intsV b) = some (intsV (b.set (lo - 1).toNat 0)) := fun o ho => by rw [ho]; exact wr_int1 b _ _ lb
  have w2 : ∀ o, o = (hi - 1).toNat → wr [Value.int .i64 (sh' - sl)] o (intsV z) = some (intsV (z.set (hi - 1).toNat (sh' - sl))) := fun o ho => by rw [ho]; exact wr_int1 z _ _ zh
  refine fn_of_run en57 fn57 rfl rfl rfl ?_
  repeat (first | refine zck ?_ | refine zcl ?_ | refine zcm ?_ | refine zcn ?_)
  first | refine zcp (by kernel_rfl) ?_ | refine zcq PP_mixed (by kernel_rfl) (by kernel_rfl) ?_
  repeat' (refine zap rfl ?_; first | ((with_reducible refine zcv ?_); refine zan rfl ?_) | ((with_reducible refine zdg ?_); refine zaq (cs := [_, _, _]) rfl (fun nb => ?_)) | ((with_reducible refine zdh ?_); refine zar (fun nb => ?_)))
  all_goals refine zch ?_
  all_goals repeat (first | refine zck ?_ | refine zcl ?_ | refine zcm ?_ | refine zcn ?_)
  rename_i bx
  revert nb; intro b2'
  refine run_share [0] rfl ?_
  repeat (first | refine zck ?_ | refine zcl ?_ | refine zcm ?_ | refine zcn ?_)
  first | refine zcp (by kernel_rfl) ?_ | refine zcq PP_mixed (by kernel_rfl) (by kernel_rfl) ?_
  repeat' (refine zap rfl ?_; first | ((with_reducible refine zcw ?_); refine zaa 0 rfl rfl rfl ?_) | ((with_reducible refine zcx ?_); refine zce rfl ?_) | ((with_reducible refine zcy ?_); refine zao rfl ?_) | ((with_reducible refine zda ?_); refine zbd rfl rfl (by omega) ?_))
  all_goals refine zch ?_
  all_goals repeat (first | refine zck ?_ | refine zcl ?_ | refine zcm ?_ | refine zcn ?_)
  refine zcj rfl ?_
  repeat (first | refine zck ?_ | refine zcl ?_ | refine zcm ?_ | refine zcn ?_)
  first | refine zcp (by kernel_rfl) ?_ | refine zcq PP_mixed (by kernel_rfl) (by kernel_rfl) ?_
  repeat' (refine zap rfl ?_; first | (refine zai [] hC rfl rfl rfl (fun _ h => .tail _ h) ?_; rintro v Γ' ⟨b1, d1, b2, d2, b3, d3, rfl, rfl⟩) | ((with_reducible refine zcw ?_); refine zaa 0 rfl rfl rfl ?_) | ((with_reducible refine zdd ?_); refine zae 4 rfl rfl rfl rfl rfl rfl rfl ?_) | ((with_reducible refine zdh ?_); refine zar (fun nb => ?_)))
  all_goals refine zch ?_
  all_goals repeat (first | refine zck ?_ | refine zcl ?_ | refine zcm ?_ | refine zcn ?_)
  refine run_sl_cases 0 rfl (fun _ h _ _ => absurd h (by omega)) ?_
  intro bb1 k1 k2 k3
  subst k1
  refine run_sl_cases 1 rfl (fun _ h _ _ => absurd h (by omega)) ?_
  intro bb2 k1 k2 k3
  subst k1
  refine run_sl_cases 2 rfl (fun _ h _ _ => absurd h (by omega)) ?_
  intro bb3 k1 k2 k3
  subst k1
  repeat (first | refine zck ?_ | refine zcl ?_ | refine zcm ?_ | refine zcn ?_)
  first | refine zcp (by kernel_rfl) ?_ | refine zcq PP_mixed (by kernel_rfl) (by kernel_rfl) ?_
  repeat' (refine zap rfl ?_; first | refine zag 2 rfl rfl (hjr _ (by omega)) (by intro h; cases h) ?_ | ((with_reducible refine zcv ?_); refine zan rfl ?_) | ((with_reducible refine zcw ?_); refine zab 4 rfl rfl rfl ?_) | ((with_reducible refine zcx ?_); refine zce rfl ?_) | ((with_reducible refine zcy ?_); refine zao rfl ?_) | ((with_reducible refine zda ?_); refine zav rfl rfl (by omega) ?_) | ((with_reducible refine zdf ?_); refine zas rfl rfl (by omega) ?_))
  all_goals refine zch ?_
  all_goals repeat (first | refine zck ?_ | refine zcl ?_ | refine zcm ?_ | refine zcn ?_)
  repeat (first | refine zck ?_ | refine zcl ?_ | refine zcm ?_ | refine zcn ?_)
  first | refine zcp (by kernel_rfl) ?_ | refine zcq PP_mixed (by kernel_rfl) (by kernel_rfl) ?_
  repeat' (refine zap rfl ?_; first | refine zag 0 rfl rfl (hbr _ (by omega)) (by intro h; cases h) ?_ | ((with_reducible refine zcu ?_); refine zan rfl ?_) | ((with_reducible refine zcv ?_); refine zan rfl ?_) | ((with_reducible refine zcw ?_); refine zab 4 rfl rfl rfl ?_) | ((with_reducible refine zcy ?_); refine zao rfl ?_) | ((with_reducible refine zda ?_); refine zav rfl rfl (by omega) ?_) | ((with_reducible refine zdf ?_); refine zas rfl rfl (by omega) ?_))
  all_goals refine zch ?_
  all_goals repeat (first | refine zck ?_ | refine zcl ?_ | refine zcm ?_ | refine zcn ?_)
  repeat (first | refine zck ?_ | refine zcl ?_ | refine zcm ?_ | refine zcn ?_)
  first | refine zcp (by kernel_rfl) ?_ | refine run_drawR PP_mixed (by kernel_rfl) (by kernel_rfl) ?_
  repeat' (refine zap rfl ?_; first | refine zag 1 rfl rfl (hhr _ (by omega)) (by intro h; cases h) ?_ | refine zag 1 rfl rfl (hlr _ (by omega)) (by intro h; cases h) ?_ | refine zaf 1 rfl rfl rfl rfl rfl (w2 _ (by omega)) rfl ?_ | ((with_reducible refine zcu ?_); refine zan rfl ?_) | ((with_reducible refine zcw ?_); refine zab 4 rfl rfl rfl ?_) | ((with_reducible refine zcy ?_); refine zao rfl ?_) | ((with_reducible refine zda ?_); refine zav rfl rfl (by omega) ?_) | ((with_reducible refine zdf ?_); refine zas rfl rfl (by omega) ?_))
  all_goals refine zch ?_
  all_goals repeat (first | refine zck ?_ | refine zcl ?_ | refine zcm ?_ | refine zcn ?_)
  repeat (first | refine zck ?_ | refine zcl ?_ | refine zcm ?_ | refine zcn ?_)
  first | refine zcp (by kernel_rfl) ?_ | refine zcq PP_mixed (by kernel_rfl) (by kernel_rfl) ?_
  repeat' (refine zap rfl ?_; first | refine zaf 0 rfl rfl rfl rfl rfl (w1 _ (by omega)) rfl ?_ | ((with_reducible refine zcu ?_); refine zan rfl ?_) | ((with_reducible refine zcw ?_); refine zab 4 rfl rfl rfl ?_) | ((with_reducible refine zcy ?_); refine zao rfl ?_) | ((with_reducible refine zda ?_); refine zav rfl rfl (by omega) ?_) | ((with_reducible refine zdf ?_); refine zas rfl rfl (by omega) ?_))
  all_goals refine zch ?_
  all_goals repeat (first | refine zck ?_ | refine zcl ?_ | refine zcm ?_ | refine zcn ?_)
  repeat (first | refine zck ?_ | refine zcl ?_ | refine zcm ?_ | refine zcn ?_)
  first | refine zcp (by kernel_rfl) ?_ | refine zcq PP_mixed (by kernel_rfl) (by kernel_rfl) ?_
  repeat' (refine zap rfl ?_; first | refine reg_slice2 rfl rfl ⟨by omega, by omega⟩ ?_ | ((with_reducible refine zcw ?_); refine zab 4 rfl rfl rfl ?_) | ((with_reducible refine zcx ?_); refine zce rfl ?_) | ((with_reducible refine zcy ?_); refine zao rfl ?_) | ((with_reducible refine zda ?_); refine zav rfl rfl (by omega) ?_) | ((with_reducible refine zdd ?_); refine zae 4 rfl rfl rfl rfl rfl rfl rfl ?_))
  all_goals refine zch ?_
  all_goals repeat (first | refine zck ?_ | refine zcl ?_ | refine zcm ?_ | refine zcn ?_)
  repeat (first | refine zck ?_ | refine zcl ?_ | refine zcm ?_ | refine zcn ?_)
  first | refine zcp (by kernel_rfl) ?_ | refine zcq PP_mixed (by kernel_rfl) (by kernel_rfl) ?_
  repeat' (refine zap rfl ?_; first | ((with_reducible refine zcv ?_); refine zan rfl ?_) | ((with_reducible refine zcw ?_); refine zab 4 rfl rfl rfl ?_) | ((with_reducible refine zdd ?_); refine zae 3 rfl rfl rfl rfl rfl rfl rfl ?_))
  all_goals refine zch ?_
  all_goals repeat (first | refine zck ?_ | refine zcl ?_ | refine zcm ?_ | refine zcn ?_)
  refine run_exch 2 (SlA 3 1 (some ⟨bb3, 0, none⟩) jl d3 (intsV (j.take jl))) rfl (fun g hg => ?_) rfl ?_
  · have h2 := SlA_cutc hg (q := jl) (by omega)
    rw [Nat.mul_one, intsV, ← List.map_take] at h2
    exact h2
  refine run_ret (leaves_nil (ends_take [0, 0, 0] rfl (ends_two rfl (resOk_pt 3 rfl rfl rfl) rfl ⟨rfl, _, rfl, some ⟨bb1, 0, none⟩, d1, some ⟨bb2, 0, none⟩, d2, some ⟨bb3, 0, none⟩, d3, ?_, ?_⟩)))
  · have e1 : (((j.length : Int) - 1)).toNat = jl := by omega
    exact (show _ = Value.agg (List.toArray [.slice (some ⟨bb1, 0, none⟩) b.length d1, .slice (some ⟨bb2, 0, none⟩) z.length d2, .slice (some ⟨bb3, 0, none⟩) (((j.length : Int) - 1)).toNat d3]) from rfl).trans (by rw [e1]; simp only [rV, List.length_set, List.length_take, hjl]; rw [Nat.min_eq_left (by omega)])
  · simp only [rP, List.length_set, List.length_take, hjl]; rw [Nat.min_eq_left (by omega)]
end
end Go.Proofs.Ytpcnbaddkblbhaa

/- Worlds as memory: transactions by their effect. -/
namespace Sim
open Go Go.Vc
/-- A world of N words that reads as `m`. -/
structure WM (N T : Int) (kn : List (Int × Wd)) (m : Int → Int) : Prop where
  ok : WOk T kn
  dom : ∀ a, lookW kn a ≠ none ↔ (0 ≤ a ∧ a < N)
  val : ∀ a, 0 ≤ a → a < N → valW kn a = m a
/-- Where a transaction stands. -/
structure Cu (N : Int) (s0 s : Sp) (m : Int → Int) (j : Nat) : Prop where
  vw : Vw s0 N s m
  wf : Wf s
  few : s.puts.length ≤ j
theorem Cu.start {N T : Int} {kn : List (Int × Wd)} {m : Int → Int} (h : WM N T kn m) {s : Sp} (h1 : s.puts = []) (h2 : s.rd = []) (h3 : s.ended = false) (h4 : ∀ a, lookW s.kn a = lookW kn a) : Cu N s s m 0 := by
  refine ⟨⟨h3, rfl, fun a a1 a2 => ?_, ⟨[], by simp⟩, fun a a1 a2 => ?_⟩, ⟨by rw [h2]; exact List.nodup_nil, (by rw [h2]; intro x hx; cases hx), (by rw [h1]; intro p hp; cases hp)⟩, by rw [h1]; exact Nat.le_refl _⟩
  · cases hl : lookW s.kn a with
    | some w => exact ⟨w, rfl⟩
    | none => rw [h4] at hl; exact absurd hl ((h.dom a).2 ⟨a1, a2⟩)
  · rw [← h.val a a1 a2]
    unfold Sp.value valW
    rw [h1, h4]
    rfl
theorem Cu.run {N : Int} {s0 s : Sp} {m : Int → Int} {j i : Nat} {α : Type} {g : Pg α} {Q : α → (Int → Int) → Prop} (h : Cu N s0 s m j) (hb : Pg.Bd i g) (hj : j + i ≤ 50000) (hq : Pg.Ok N g m Q) :
    Pg.Fits g s ∧ ∃ m', Cu N s0 (Pg.run g s).2 m' (j + i) ∧ Q (Pg.run g s).1 m' := by
  have hf := h.few
  refine ⟨Pg.fits_of g i s hb (by omega), ?_⟩
  obtain ⟨m', h1, h2⟩ := hq s0 s h.vw
  exact ⟨m', ⟨h1, (Pg.wf g h.wf).1, by have := Pg.run_len g i s hb; omega⟩, h2⟩
theorem WM.next {N T : Int} {kn kn2 : List (Int × Wd)} {m m' : Int → Int} (h : WM N T kn m) (h2 : WOk (T + 1) kn2) {s0 s : Sp} {j : Nat} (hc : Cu N s0 s m' j) (hk : ∀ a, lookW s0.kn a = lookW kn a) (hn : ∀ a, lookW kn2 a = nextW kn s a) : WM N (T + 1) kn2 m' := by
  refine ⟨h2, fun a => ?_, fun a a1 a2 => ?_⟩
  · rw [hn, nextW, ← h.dom a]
    cases lookW kn a <;> simp
  · have hv := hc.vw.val a a1 a2
    cases hl : lookW kn a with
    | none => exact absurd hl ((h.dom a).2 ⟨a1, a2⟩)
    | some w =>
      unfold valW
      rw [hn, nextW, hl]
      simp only [Option.map_some]
      split
      · exact hv
      · rename_i hw
        have hw : (s.value a).2 = false := by simpa using hw
        have := value_not hw
        rw [hc.vw.kn, hk, hl] at this
        rw [← hv, this]
theorem knLen {ka kb : List (Int × Wd)} (ha : (ka.map (·.1)).Nodup) (hb : (kb.map (·.1)).Nodup) (h : ∀ a, lookW ka a ≠ none ↔ lookW kb a ≠ none) : ka.length = kb.length := by
  have hp : (ka.map (·.1)).Perm (kb.map (·.1)) := by
    rw [List.perm_ext_iff_of_nodup ha hb]
    intro a
    have h1 := look_none ka a
    have h2 := look_none kb a
    have h3 := h a
    constructor
    · intro hm
      refine Classical.byContradiction fun hn => ?_
      exact (h3.1 (fun e => (h1.1 e) hm)) (h2.2 hn)
    · intro hm
      refine Classical.byContradiction fun hn => ?_
      exact (h3.2 (fun e => (h2.1 e) hm)) (h1.2 hn)
  have := hp.length_eq
  simpa using this
/-- Two worlds that read alike. -/
theorem alike_same {N T T' : Int} {ka kb : List (Int × Wd)} {m : Int → Int} (ha : WM N T ka m) (hb : WM N T' kb m) : alikeB ka kb = true := by
  unfold alikeB
  rw [decide_eq_true (knLen ha.ok.nd hb.ok.nd fun a => (ha.dom a).trans (hb.dom a).symm), Bool.true_and, List.all_eq_true]
  intro p hp
  obtain ⟨q, hq⟩ := List.mem_iff_getElem?.1 hp
  have hl := keys_look ka ha.ok.nd q p.1 p.2 hq
  obtain ⟨g1, g2⟩ := (ha.dom p.1).1 (by rw [hl]; exact fun e => by cases e)
  rw [decide_eq_true_eq, hb.val p.1 g1 g2, ← ha.val p.1 g1 g2]
  unfold valW; rw [hl]
theorem fresh_WM (N : Nat) (hN : N ≤ 4096) : WM N 0 (wk 0 (List.replicate N 0)) (fun _ => 0) := by
  have hl : ∀ a, lookW (wk 0 (List.replicate N 0)) a = if 0 ≤ a ∧ a < (N : Int) then some ⟨0, 0, 0⟩ else none := by
    intro a
    rw [lookW_wk]
    simp only [List.length_replicate, Int.natCast_zero, Int.zero_add, Int.sub_zero]
    by_cases h : 0 ≤ a ∧ a < (N : Int)
    · rw [if_pos h, if_pos h, List.getElem?_replicate, if_pos (by omega)]; rfl
    · rw [if_neg h, if_neg h]
  refine ⟨⟨?_, fun a w hw => ?_⟩, fun a => ?_, fun a a1 a2 => ?_⟩
  · have : ∀ (i : Nat) (l : List Int), ((wk i l).map (·.1)) = (List.range' i l.length).map (fun (q : Nat) => (q : Int)) := by
      intro i l
      induction l generalizing i with
      | nil => rfl
      | cons v r ih => simp only [wk, List.map_cons, List.length_cons, List.range'_succ, ih (i + 1)]
    rw [this]
    rw [List.nodup_iff_pairwise_ne, List.pairwise_map]
    exact (List.nodup_iff_pairwise_ne.1 (List.nodup_range' (s := 0) (step := 1))).imp (fun h e => h (by omega))
  · rw [hl] at hw
    split at hw
    · cases hw; dsimp only; omega
    · cases hw
  · rw [hl]; split
    · rename_i h; simp [h]
    · rename_i h; simp; omega
  · unfold valW; rw [hl, if_pos ⟨a1, a2⟩]
end Sim
namespace Go.Proofs.Ytpcnbaddkblbhaa
open Go.Vc Sim
section
variable {w0 : World} {n : Nat} {sh shf : Shared} {Q : Exit → Env → List Deferred → List Asn → Prop} {k : List Item} {ρ : Env} {df : List Deferred} {Γ Γr : List Asn}
variable {ops : Array Oper} {l : List (Fl × Nat × Oper)} {i : Nat} {ty : TypeId} {pos : String} {aft : Array Edge} {dst : Option Tmp}
variable {f : FuncId} {args : List Value} {fo : Operand} {cargs : Array Operand} {ats : Array TypeId} {first cap : Array Value}
/-- A call within a transaction. -/
theorem reg_callO (is : List Nat) {α : Type} {N : Int} {g : Pg α} {s0 s : Sp} {m : Int → Int} {j q p : Nat} {enc : α → Value} {R : α → (Int → Int) → Prop} (hC : Cu N s0 s m j) (hB : Pg.Bd q g) (hO : Pg.Ok N g m R) (hj : j + q ≤ 50000) (spec : FnG w0 shf f args p g enc)
    (hfo : ev ρ fo = .func (.func f) first cap) (hargs : first.toList ++ cargs.toList.map (ev ρ) ++ cap.toList = args)
    (hp : pick is Γ = some ([SpaceA p s], Γr)) (hsh : ∀ p ∈ shf, p ∈ sh) (h : ∀ x s' m', R x m' → Cu N s0 s' m' (j + q) → Reg PP w0 n sh Q ops l k (ρ.setO dst (enc x)) df (SpaceA p s' :: Γr)) :
    Reg PP w0 n sh Q ops ((Fl.loud, i, ⟨dst, .call ⟨.value fo, cargs, ats⟩, ty, pos, aft, none⟩) :: l) k ρ df Γ := by
  obtain ⟨h1, m', h2, h3⟩ := hC.run hB hj hO
  exact zah is (spec s h1) hfo hargs hp hsh rfl (h _ _ m' h3 h2)
end
/-- A transaction by its effect. -/
theorem done_mem {σ : Type} (w0 : World) (shc : Shared) (wb : Nat) (kn : List (Int × Wd)) (N T : Int) (m : Int → Int) (hT : T ≤ 1000000) (hw : WM N T kn m) (f : FuncId) (cap : Array Value) (A : Asn) (A' : σ → Asn) (M : σ → Int → Int)
    (hdo : ∀ p s, Cu N s s m 0 → (∀ a, lookW s.kn a = lookW kn a) → Vc.Fn PP w0 shc f (spP p :: cap.toList) [SpaceA p s, A] (fun v Γ => ∃ st s' j, v = .tuple #[] ∧ Γ = [SpaceA p s', A' st] ∧ j ≤ 50000 ∧ Cu N s s' (M st) j)) :
    Vc.Fn PP w0 ((wb, mapI (knM kn)) :: shc) 13 [.map (some wb), .func (.func f) #[] cap] [A]
      (fun v Γ => ∃ st nb a len c kn2, v = .tuple #[.map (some nb), .slice a len c, .bool true] ∧ Γ = [pt nb (mapI (knM kn2)), A' st] ∧ WM N (T + 1) kn2 (M st)) := by
  refine (done_spec w0 shc wb kn T hT hw.ok f cap A A' (fun st s' => ∃ s0 j, Cu N s0 s' (M st) j ∧ ∀ a, lookW s0.kn a = lookW kn a) fun p s h1 h2 h3 h4 => ?_).mono ?_
  · refine (hdo p s (Cu.start hw h1 h2 h3 h4) h4).mono ?_
    rintro v Γ ⟨st, s', j, hv, hΓ, hj, hc⟩
    exact ⟨st, s', hv, hΓ, ⟨hc.vw.live, hc.wf, hc.vw.kn, by have := hc.few; omega⟩, s, j, hc, h4⟩
  · rintro v Γ ⟨st, s', nb, a, len, c, kn2, hv, hΓ, ⟨s0, j, hc, hk⟩, h5, h6⟩
    exact ⟨st, nb, a, len, c, kn2, hv, hΓ, hw.next h5 hc hk h6⟩
end Go.Proofs.Ytpcnbaddkblbhaa

/- The law's own functions: made, asks. -/
namespace Sim
open Go Go.Vc
variable {K : Int} {m : Int → Int} {k nc tc : Nat} {J : Jn} {ad : Nat → Int}
theorem upN_rep {k : Nat} {J : Jn} (h : Vd k J) : ∀ (d : Nat) (x : Int), dep J x = d → 1 ≤ x → x ≤ k → UpN (bL k J) d x (rep J x)
  | 0, x, hd, h1, h2 => by
    have h0 : par J x = 0 := by
      refine Classical.byContradiction fun h0 => ?_
      have := (up_one h x h0).2
      omega
    exact ⟨(root_rep h x h0).symm, h1, by rw [bL_at k J h1 h2, h0]⟩
  | d + 1, x, hd, h1, h2 => by
    have h0 : par J x ≠ 0 := fun h0 => by
      have := dep_root h x h0
      omega
    obtain ⟨e1, e2⟩ := up_one h x h0
    rcases par_in h x with h3 | ⟨h3, h4⟩
    · exact absurd h3 h0
    · refine ⟨h1, par J x, bL_at k J h1 h2, h0, ?_⟩
      rw [← e1]
      exact upN_rep h d (par J x) (by omega) h3 h4
end Sim
namespace Go.Proofs.Ytpcnbaddkblbhaa
open Go.Vc Sim
set_option maxHeartbeats 8000000
theorem made_spec (w0 : World) (v : Int) (hv : 0 ≤ v ∧ v ≤ 255) : FnE PP w0 [] 34 [.int .u8 v] [] (foV (f0 (v % 39))) [] := by
  have hr : v.tmod 39 = v % 39 := Int.tmod_eq_emod_of_nonneg hv.1
  refine fn_of_run en34 fn34 rfl rfl rfl ?_
  repeat' (first | refine zck ?_ | refine zcp (by kernel_rfl) ?_ | (refine zap rfl ?_; first | (refine reg_rem rfl rfl (by decide) ?_; rw [hr]) | refine zbz rfl (by omega) ?_ | ((with_reducible refine zcu ?_); refine zan rfl ?_) | ((with_reducible refine zdd ?_); refine zae 0 rfl rfl rfl rfl rfl rfl rfl ?_) | ((with_reducible refine zdh ?_); refine zar (fun nb => ?_)) | refine zcb rfl ?_) | refine zch ?_)
  exact run_ret (leaves_nil (ends_take [] rfl (ends_one rfl (resOk_pt 0 rfl rfl rfl) ⟨rfl, rfl, rfl⟩)))
section
variable {a1 : Option Addr} {c1 : Nat} {a2 : Option Addr} {c2 : Nat} {a3 : Option Addr} {c3 : Nat}
/-- The law's state. -/
abbrev stV (wb : Nat) (K : Int) (a1 : Option Addr) (c1 : Nat) (a2 : Option Addr) (c2 : Nat) (a3 : Option Addr) (c3 : Nat) (k : Nat) (J : Jn) : Value :=
  .agg (List.toArray [.map (some wb), .int .i64 1, .int .i64 64, .int .i64 K, .int .i64 16, .slice a1 (bL k J).length c1, .slice a2 (zL k J).length c2, .slice a3 (jL J).length c3])
abbrev RdF (w0 : World) (sh : Shared) (a1 : Option Addr) (c1 : Nat) (a2 : Option Addr) (c2 : Nat) (a3 : Option Addr) (c3 : Nat) (k : Nat) (J : Jn) : Prop := RaR w0 sh a1 c1 a2 c2 a3 c3 (bL k J) (zL k J) (jL J)
variable {K : Int} {m : Int → Int} {k nc tc : Nat} {J : Jn} {ad : Nat → Int}
theorem asks_spec (w0 : World) (sh : Shared) (p wb : Nat) (hK : 0 ≤ K ∧ K ≤ 38) (hR : RdF w0 sh a1 c1 a2 c2 a3 c3 k J) (s0 s : Sp) (j : Nat) (hj : j ≤ 40000) (hC : Cu 368 s0 s m j) (h : Mm K m k nc tc J ad) (a b : Int) (ha : a ≤ 9223372036854775807) (hb : b ≤ 9223372036854775807) :
    Vc.Fn PP w0 sh 58 [spP p, stV wb K a1 c1 a2 c2 a3 c3 k J, .int .i64 a, .int .i64 b] [SpaceA p s] (fun v Γ => ∃ s', v = .bool true ∧ Γ = [SpaceA p s'] ∧ Cu 368 s0 s' m j) := by
  have hbl := bL_len k J
  have hzl := zL_len k J
  have hI := fun x => rfIs w0 sh hR x
  rw [hbl] at hI
  by_cases ca : 1 ≤ a ∧ a ≤ k
  · have hF := rfFind w0 sh hR _ a _ (upN_rep h.vd (dep J a) a rfl ca.1 ca.2)
    have hra := rep_in h.vd a ca.1 ca.2
    have hzr := zL_at k J hra.1 hra.2
    have hpos := h.le
    obtain ⟨r2, l2⟩ : RdSl w0 sh encI 1 (.slice a2 (zL k J).length c2) (zL k J) ∧ (zL k J).length ≤ 1000 := ⟨hR.r2, hR.l2⟩
    obtain ⟨bb, off, cc, TT, fr, e2, hm, hr⟩ := r2.at hzr
    have hda := decide_eq_true ca
    by_cases cb : 1 ≤ b ∧ b ≤ k
    · have hF2 := rfFind w0 sh hR _ b _ (upN_rep h.vd (dep J b) b rfl cb.1 cb.2)
      have hdb := decide_eq_true cb
      have hrb := rep_in h.vd b cb.1 cb.2
      by_cases he : rep J a = rep J b
      · have hS := same_ok hK h ca cb
        rw [decide_eq_true he] at hS
        have he2 := he.symm
        refine fn_of_run en58 fn58 rfl rfl rfl ?_
        subst e2
        repeat (first | refine zck ?_ | refine zcl ?_ | refine zcm ?_ | refine zcn ?_)
        first | refine zcp (by kernel_rfl) ?_ | refine zcq PP_mixed (by kernel_rfl) (by kernel_rfl) ?_
        repeat' (refine zap rfl ?_; first | ((with_reducible refine zcv ?_); refine zan rfl ?_) | ((with_reducible refine zdg ?_); refine zaq (cs := [_, _, _, _, _, _, _, _]) rfl (fun nb => ?_)))
        all_goals refine zch ?_
        all_goals repeat (first | refine zck ?_ | refine zcl ?_ | refine zcm ?_ | refine zcn ?_)
        revert nb; intro bx
        refine run_share [1] rfl ?_
        repeat (first | refine zck ?_ | refine zcl ?_ | refine zcm ?_ | refine zcn ?_)
        first | refine zcp (by kernel_rfl) ?_ | refine zcq PP_mixed (by kernel_rfl) (by kernel_rfl) ?_
        repeat' (refine zap rfl ?_; first | ((with_reducible refine zcu ?_); refine zan rfl ?_) | ((with_reducible refine zcv ?_); refine zan rfl ?_) | ((with_reducible refine zcw ?_); refine zaa 0 rfl rfl rfl ?_) | ((with_reducible refine zcx ?_); (refine reg_callO [0] hC ((f0 K).bd_find a) (find_ok hK h ca.1 ca.2) (by omega) (foFind w0 p (f0 K) (f0_ok hK) a ha) rfl rfl rfl sub_nil ?_; rintro x s m' ⟨rfl, rfl⟩ hC)) | ((with_reducible refine zcy ?_); refine zao rfl ?_) | ((with_reducible refine zcz ?_); refine zan rfl ?_))
        all_goals refine zch ?_
        all_goals repeat (first | refine zck ?_ | refine zcl ?_ | refine zcm ?_ | refine zcn ?_)
        repeat (first | refine zck ?_ | refine zcl ?_ | refine zcm ?_ | refine zcn ?_)
        first | refine zcp (by kernel_rfl) ?_ | refine zcq PP_mixed (by kernel_rfl) (by kernel_rfl) ?_
        repeat' (refine zap rfl ?_; first | ((with_reducible refine zcu ?_); refine zan rfl ?_) | ((with_reducible refine zcv ?_); refine zan rfl ?_) | ((with_reducible refine zcw ?_); refine zaa 0 rfl rfl rfl ?_) | ((with_reducible refine zcx ?_); (refine reg_callO [0] hC ((f0 K).bd_sizeOf a) (size_ok hK h ca.1 ca.2) (by omega) (foSize w0 p (f0 K) (f0_ok hK) a ha) rfl rfl rfl sub_nil ?_; rintro x s m' ⟨rfl, rfl⟩ hC)) | ((with_reducible refine zcy ?_); refine zao rfl ?_) | ((with_reducible refine zcz ?_); refine zan rfl ?_))
        all_goals refine zch ?_
        all_goals repeat (first | refine zck ?_ | refine zcl ?_ | refine zcm ?_ | refine zcn ?_)
        repeat (first | refine zck ?_ | refine zcl ?_ | refine zcm ?_ | refine zcn ?_)
        first | refine zcp (by kernel_rfl) ?_ | refine zcq PP_mixed (by kernel_rfl) (by kernel_rfl) ?_
        repeat' (refine zap rfl ?_; first | ((with_reducible refine zcu ?_); refine zan rfl ?_) | ((with_reducible refine zcv ?_); refine zan rfl ?_) | ((with_reducible refine zcw ?_); refine zaa 0 rfl rfl rfl ?_) | ((with_reducible refine zcx ?_); (refine reg_callO [0] hC ((f0 K).bd_same a b) hS (by omega) (foSame w0 p (f0 K) (f0_ok hK) a b ha hb) rfl rfl rfl sub_nil ?_; rintro x s m' ⟨rfl, rfl⟩ hC)) | ((with_reducible refine zcy ?_); refine zao rfl ?_) | ((with_reducible refine zcz ?_); refine zan rfl ?_))
        all_goals refine zch ?_
        all_goals repeat (first | refine zck ?_ | refine zcl ?_ | refine zcm ?_ | refine zcn ?_)
        refine run_slots [(2, .int .i64 a), (3, .int .i64 b), (5, .pointer (some ⟨bx, 0, none⟩)), (9, .int .i64 (rep J a)), (10, .int .i64 0), (11, .int .i64 (sz J (rep J a))), (12, .int .i64 0), (13, .bool true), (14, .int .i64 0)] ⟨rfl, rfl, rfl, rfl, rfl, rfl, rfl, rfl, rfl, trivial⟩ (fun junk => ?_)
        repeat (first | refine zck ?_ | refine zcl ?_ | refine zcm ?_ | refine zcn ?_)
        first | refine zcp (by kernel_rfl) ?_ | refine zcq PP_mixed (by kernel_rfl) (by kernel_rfl) ?_
        repeat' (refine zap rfl ?_; first | ((with_reducible refine zcu ?_); refine zan rfl ?_) | ((with_reducible refine zcw ?_); refine zaa 0 rfl rfl rfl ?_) | ((with_reducible refine zcx ?_); (refine zah [] (hI a) rfl rfl rfl (fun _ h => .tail _ h) rfl ?_; rw [hda])) | ((with_reducible refine zcy ?_); refine zao rfl ?_) | ((with_reducible refine zdb ?_); refine zbx rfl ?_))
        all_goals refine zch ?_
        all_goals repeat (first | refine zck ?_ | refine zcl ?_ | refine zcm ?_ | refine zcn ?_)
        refine zcj rfl ?_
        repeat (first | refine zck ?_ | refine zcl ?_ | refine zcm ?_ | refine zcn ?_)
        first | refine zcp (by kernel_rfl) ?_ | refine zcq PP_mixed (by kernel_rfl) (by kernel_rfl) ?_
        repeat' (refine zap rfl ?_; first | ((with_reducible refine zcu ?_); refine zan rfl ?_) | ((with_reducible refine zcv ?_); refine zan rfl ?_) | ((with_reducible refine zcw ?_); refine zaa 0 rfl rfl rfl ?_) | ((with_reducible refine zcx ?_); refine zah [] hF rfl rfl rfl (fun _ h => .tail _ h) rfl ?_) | ((with_reducible refine zcy ?_); refine zao rfl ?_))
        all_goals refine zch ?_
        all_goals repeat (first | refine zck ?_ | refine zcl ?_ | refine zcm ?_ | refine zcn ?_)
        refine run_slots [(2, .int .i64 a), (3, .int .i64 b), (5, .pointer (some ⟨bx, 0, none⟩)), (9, .int .i64 (rep J a)), (10, .int .i64 0), (11, .int .i64 (sz J (rep J a))), (12, .int .i64 0), (13, .bool true), (14, .int .i64 0), (15, .int .i64 (rep J a))] ⟨rfl, rfl, rfl, rfl, rfl, rfl, rfl, rfl, rfl, rfl, trivial⟩ (fun junk => ?_)
        repeat (first | refine zck ?_ | refine zcl ?_ | refine zcm ?_ | refine zcn ?_)
        first | refine zcp (by kernel_rfl) ?_ | refine zcq PP_mixed (by kernel_rfl) (by kernel_rfl) ?_
        repeat' (refine zap rfl ?_; first | refine zad rfl (fun hF Γ w h1 h2 => hm hF Γ w (fun p hp => h1 p (.tail _ hp)) h2) (hr _ (by omega)) ?_ | ((with_reducible refine zct ?_); refine zaj rfl ?_) | ((with_reducible refine zcu ?_); refine zan rfl ?_) | ((with_reducible refine zcw ?_); refine zaa 0 rfl rfl rfl ?_) | ((with_reducible refine zcy ?_); refine zao rfl ?_) | ((with_reducible refine zda ?_); first | refine zbf rfl rfl (by omega) ?_ | refine zav rfl rfl (by omega) ?_) | ((with_reducible refine zdc ?_); refine zbv rfl ?_) | ((with_reducible refine zdf ?_); refine zas rfl rfl (by omega) ?_))
        all_goals refine zch ?_
        all_goals repeat (first | refine zck ?_ | refine zcl ?_ | refine zcm ?_ | refine zcn ?_)
        refine zcj rfl ?_
        refine run_slots [(2, .int .i64 a), (3, .int .i64 b), (5, .pointer (some ⟨bx, 0, none⟩)), (9, .int .i64 (rep J a)), (10, .int .i64 0), (11, .int .i64 (sz J (rep J a))), (12, .int .i64 0), (13, .bool true), (14, .int .i64 0), (15, .int .i64 (rep J a))] ⟨rfl, rfl, rfl, rfl, rfl, rfl, rfl, rfl, rfl, rfl, trivial⟩ (fun junk => ?_)
        repeat' (first | refine zck ?_ | refine zcp (by kernel_rfl) ?_ | refine zcm ?_ | (refine zap rfl ?_; first | ((with_reducible refine zct ?_); refine zaj rfl ?_) | ((with_reducible refine zcu ?_); refine zan rfl ?_) | ((with_reducible refine zcv ?_); refine zan rfl ?_) | ((with_reducible refine zcw ?_); refine zaa 0 rfl rfl rfl ?_) | ((with_reducible refine zcx ?_); first | (refine zah [] (hI b) rfl rfl rfl (fun _ h => .tail _ h) rfl ?_; rw [hdb]) | refine zah [] hF2 rfl rfl rfl (fun _ h => .tail _ h) rfl ?_) | ((with_reducible refine zcy ?_); refine zao rfl ?_) | ((with_reducible refine zda ?_); first | refine zbc rfl rfl (by omega) ?_ | refine zbb rfl rfl ?_) | ((with_reducible refine zdb ?_); refine zbx rfl ?_) | ((with_reducible refine zdc ?_); refine zbu rfl ?_)) | refine zch ?_ | refine zcj rfl ?_)
        exact ret_tmp1 rfl ⟨_, rfl, rfl, hC⟩
      · have hS := same_ok hK h ca cb
        rw [decide_eq_false he] at hS
        have he2 := Ne.symm he
        refine fn_of_run en58 fn58 rfl rfl rfl ?_
        subst e2
        repeat (first | refine zck ?_ | refine zcl ?_ | refine zcm ?_ | refine zcn ?_)
        first | refine zcp (by kernel_rfl) ?_ | refine zcq PP_mixed (by kernel_rfl) (by kernel_rfl) ?_
        repeat' (refine zap rfl ?_; first | ((with_reducible refine zcv ?_); refine zan rfl ?_) | ((with_reducible refine zdg ?_); refine zaq (cs := [_, _, _, _, _, _, _, _]) rfl (fun nb => ?_)))
        all_goals refine zch ?_
        all_goals repeat (first | refine zck ?_ | refine zcl ?_ | refine zcm ?_ | refine zcn ?_)
        revert nb; intro bx
        refine run_share [1] rfl ?_
        repeat (first | refine zck ?_ | refine zcl ?_ | refine zcm ?_ | refine zcn ?_)
        first | refine zcp (by kernel_rfl) ?_ | refine zcq PP_mixed (by kernel_rfl) (by kernel_rfl) ?_
        repeat' (refine zap rfl ?_; first | ((with_reducible refine zcu ?_); refine zan rfl ?_) | ((with_reducible refine zcv ?_); refine zan rfl ?_) | ((with_reducible refine zcw ?_); refine zaa 0 rfl rfl rfl ?_) | ((with_reducible refine zcx ?_); (refine reg_callO [0] hC ((f0 K).bd_find a) (find_ok hK h ca.1 ca.2) (by omega) (foFind w0 p (f0 K) (f0_ok hK) a ha) rfl rfl rfl sub_nil ?_; rintro x s m' ⟨rfl, rfl⟩ hC)) | ((with_reducible refine zcy ?_); refine zao rfl ?_) | ((with_reducible refine zcz ?_); refine zan rfl ?_))
        all_goals refine zch ?_
        all_goals repeat (first | refine zck ?_ | refine zcl ?_ | refine zcm ?_ | refine zcn ?_)
        repeat (first | refine zck ?_ | refine zcl ?_ | refine zcm ?_ | refine zcn ?_)
        first | refine zcp (by kernel_rfl) ?_ | refine zcq PP_mixed (by kernel_rfl) (by kernel_rfl) ?_
        repeat' (refine zap rfl ?_; first | ((with_reducible refine zcu ?_); refine zan rfl ?_) | ((with_reducible refine zcv ?_); refine zan rfl ?_) | ((with_reducible refine zcw ?_); refine zaa 0 rfl rfl rfl ?_) | ((with_reducible refine zcx ?_); (refine reg_callO [0] hC ((f0 K).bd_sizeOf a) (size_ok hK h ca.1 ca.2) (by omega) (foSize w0 p (f0 K) (f0_ok hK) a ha) rfl rfl rfl sub_nil ?_; rintro x s m' ⟨rfl, rfl⟩ hC)) | ((with_reducible refine zcy ?_); refine zao rfl ?_) | ((with_reducible refine zcz ?_); refine zan rfl ?_))
        all_goals refine zch ?_
        all_goals repeat (first | refine zck ?_ | refine zcl ?_ | refine zcm ?_ | refine zcn ?_)
        repeat (first | refine zck ?_ | refine zcl ?_ | refine zcm ?_ | refine zcn ?_)
        first | refine zcp (by kernel_rfl) ?_ | refine zcq PP_mixed (by kernel_rfl) (by kernel_rfl) ?_
        repeat' (refine zap rfl ?_; first | ((with_reducible refine zcu ?_); refine zan rfl ?_) | ((with_reducible refine zcv ?_); refine zan rfl ?_) | ((with_reducible refine zcw ?_); refine zaa 0 rfl rfl rfl ?_) | ((with_reducible refine zcx ?_); (refine reg_callO [0] hC ((f0 K).bd_same a b) hS (by omega) (foSame w0 p (f0 K) (f0_ok hK) a b ha hb) rfl rfl rfl sub_nil ?_; rintro x s m' ⟨rfl, rfl⟩ hC)) | ((with_reducible refine zcy ?_); refine zao rfl ?_) | ((with_reducible refine zcz ?_); refine zan rfl ?_))
        all_goals refine zch ?_
        all_goals repeat (first | refine zck ?_ | refine zcl ?_ | refine zcm ?_ | refine zcn ?_)
        refine run_slots [(2, .int .i64 a), (3, .int .i64 b), (5, .pointer (some ⟨bx, 0, none⟩)), (9, .int .i64 (rep J a)), (10, .int .i64 0), (11, .int .i64 (sz J (rep J a))), (12, .int .i64 0), (13, .bool false), (14, .int .i64 0)] ⟨rfl, rfl, rfl, rfl, rfl, rfl, rfl, rfl, rfl, trivial⟩ (fun junk => ?_)
        repeat (first | refine zck ?_ | refine zcl ?_ | refine zcm ?_ | refine zcn ?_)
        first | refine zcp (by kernel_rfl) ?_ | refine zcq PP_mixed (by kernel_rfl) (by kernel_rfl) ?_
        repeat' (refine zap rfl ?_; first | ((with_reducible refine zcu ?_); refine zan rfl ?_) | ((with_reducible refine zcw ?_); refine zaa 0 rfl rfl rfl ?_) | ((with_reducible refine zcx ?_); (refine zah [] (hI a) rfl rfl rfl (fun _ h => .tail _ h) rfl ?_; rw [hda])) | ((with_reducible refine zcy ?_); refine zao rfl ?_) | ((with_reducible refine zdb ?_); refine zbx rfl ?_))
        all_goals refine zch ?_
        all_goals repeat (first | refine zck ?_ | refine zcl ?_ | refine zcm ?_ | refine zcn ?_)
        refine zcj rfl ?_
        repeat (first | refine zck ?_ | refine zcl ?_ | refine zcm ?_ | refine zcn ?_)
        first | refine zcp (by kernel_rfl) ?_ | refine zcq PP_mixed (by kernel_rfl) (by kernel_rfl) ?_
        repeat' (refine zap rfl ?_; first | ((with_reducible refine zcu ?_); refine zan rfl ?_) | ((with_reducible refine zcv ?_); refine zan rfl ?_) | ((with_reducible refine zcw ?_); refine zaa 0 rfl rfl rfl ?_) | ((with_reducible refine zcx ?_); refine zah [] hF rfl rfl rfl (fun _ h => .tail _ h) rfl ?_) | ((with_reducible refine zcy ?_); refine zao rfl ?_))
        all_goals refine zch ?_
        all_goals repeat (first | refine zck ?_ | refine zcl ?_ | refine zcm ?_ | refine zcn ?_)
        refine run_slots [(2, .int .i64 a), (3, .int .i64 b), (5, .pointer (some ⟨bx, 0, none⟩)), (9, .int .i64 (rep J a)), (10, .int .i64 0), (11, .int .i64 (sz J (rep J a))), (12, .int .i64 0), (13, .bool false), (14, .int .i64 0), (15, .int .i64 (rep J a))] ⟨rfl, rfl, rfl, rfl, rfl, rfl, rfl, rfl, rfl, rfl, trivial⟩ (fun junk => ?_)
        repeat (first | refine zck ?_ | refine zcl ?_ | refine zcm ?_ | refine zcn ?_)
        first | refine zcp (by kernel_rfl) ?_ | refine zcq PP_mixed (by kernel_rfl) (by kernel_rfl) ?_
        repeat' (refine zap rfl ?_; first | refine zad rfl (fun hF Γ w h1 h2 => hm hF Γ w (fun p hp => h1 p (.tail _ hp)) h2) (hr _ (by omega)) ?_ | ((with_reducible refine zct ?_); refine zaj rfl ?_) | ((with_reducible refine zcu ?_); refine zan rfl ?_) | ((with_reducible refine zcw ?_); refine zaa 0 rfl rfl rfl ?_) | ((with_reducible refine zcy ?_); refine zao rfl ?_) | ((with_reducible refine zda ?_); first | refine zbf rfl rfl (by omega) ?_ | refine zav rfl rfl (by omega) ?_) | ((with_reducible refine zdc ?_); refine zbv rfl ?_) | ((with_reducible refine zdf ?_); refine zas rfl rfl (by omega) ?_))
        all_goals refine zch ?_
        all_goals repeat (first | refine zck ?_ | refine zcl ?_ | refine zcm ?_ | refine zcn ?_)
        refine zcj rfl ?_
        refine run_slots [(2, .int .i64 a), (3, .int .i64 b), (5, .pointer (some ⟨bx, 0, none⟩)), (9, .int .i64 (rep J a)), (10, .int .i64 0), (11, .int .i64 (sz J (rep J a))), (12, .int .i64 0), (13, .bool false), (14, .int .i64 0), (15, .int .i64 (rep J a))] ⟨rfl, rfl, rfl, rfl, rfl, rfl, rfl, rfl, rfl, rfl, trivial⟩ (fun junk => ?_)
        repeat' (first | refine zck ?_ | refine zcp (by kernel_rfl) ?_ | refine zcm ?_ | (refine zap rfl ?_; first | ((with_reducible refine zct ?_); refine zaj rfl ?_) | ((with_reducible refine zcu ?_); refine zan rfl ?_) | ((with_reducible refine zcv ?_); refine zan rfl ?_) | ((with_reducible refine zcw ?_); refine zaa 0 rfl rfl rfl ?_) | ((with_reducible refine zcx ?_); first | (refine zah [] (hI b) rfl rfl rfl (fun _ h => .tail _ h) rfl ?_; rw [hdb]) | refine zah [] hF2 rfl rfl rfl (fun _ h => .tail _ h) rfl ?_) | ((with_reducible refine zcy ?_); refine zao rfl ?_) | ((with_reducible refine zda ?_); first | refine zbc rfl rfl (by omega) ?_ | refine zbd rfl rfl (by omega) ?_ | refine zbb rfl rfl ?_) | ((with_reducible refine zdb ?_); refine zbx rfl ?_) | ((with_reducible refine zdc ?_); refine zbu rfl ?_)) | refine zch ?_ | refine zcj rfl ?_)
        exact ret_tmp1 rfl ⟨_, rfl, rfl, hC⟩
    · have hS := same_none (K := K) h (x := a) (y := b) (fun h => cb h.2)
      have hdb := decide_eq_false cb
      refine fn_of_run en58 fn58 rfl rfl rfl ?_
      subst e2
      repeat (first | refine zck ?_ | refine zcl ?_ | refine zcm ?_ | refine zcn ?_)
      first | refine zcp (by kernel_rfl) ?_ | refine zcq PP_mixed (by kernel_rfl) (by kernel_rfl) ?_
      repeat' (refine zap rfl ?_; first | ((with_reducible refine zcv ?_); refine zan rfl ?_) | ((with_reducible refine zdg ?_); refine zaq (cs := [_, _, _, _, _, _, _, _]) rfl (fun nb => ?_)))
      all_goals refine zch ?_
      all_goals repeat (first | refine zck ?_ | refine zcl ?_ | refine zcm ?_ | refine zcn ?_)
      revert nb; intro bx
      refine run_share [1] rfl ?_
      repeat (first | refine zck ?_ | refine zcl ?_ | refine zcm ?_ | refine zcn ?_)
      first | refine zcp (by kernel_rfl) ?_ | refine zcq PP_mixed (by kernel_rfl) (by kernel_rfl) ?_
      repeat' (refine zap rfl ?_; first | ((with_reducible refine zcu ?_); refine zan rfl ?_) | ((with_reducible refine zcv ?_); refine zan rfl ?_) | ((with_reducible refine zcw ?_); refine zaa 0 rfl rfl rfl ?_) | ((with_reducible refine zcx ?_); (refine reg_callO [0] hC ((f0 K).bd_find a) (find_ok hK h ca.1 ca.2) (by omega) (foFind w0 p (f0 K) (f0_ok hK) a ha) rfl rfl rfl sub_nil ?_; rintro x s m' ⟨rfl, rfl⟩ hC)) | ((with_reducible refine zcy ?_); refine zao rfl ?_) | ((with_reducible refine zcz ?_); refine zan rfl ?_))
      all_goals refine zch ?_
      all_goals repeat (first | refine zck ?_ | refine zcl ?_ | refine zcm ?_ | refine zcn ?_)
      repeat (first | refine zck ?_ | refine zcl ?_ | refine zcm ?_ | refine zcn ?_)
      first | refine zcp (by kernel_rfl) ?_ | refine zcq PP_mixed (by kernel_rfl) (by kernel_rfl) ?_
      repeat' (refine zap rfl ?_; first | ((with_reducible refine zcu ?_); refine zan rfl ?_) | ((with_reducible refine zcv ?_); refine zan rfl ?_) | ((with_reducible refine zcw ?_); refine zaa 0 rfl rfl rfl ?_) | ((with_reducible refine zcx ?_); (refine reg_callO [0] hC ((f0 K).bd_sizeOf a) (size_ok hK h ca.1 ca.2) (by omega) (foSize w0 p (f0 K) (f0_ok hK) a ha) rfl rfl rfl sub_nil ?_; rintro x s m' ⟨rfl, rfl⟩ hC)) | ((with_reducible refine zcy ?_); refine zao rfl ?_) | ((with_reducible refine zcz ?_); refine zan rfl ?_))
      all_goals refine zch ?_
      all_goals repeat (first | refine zck ?_ | refine zcl ?_ | refine zcm ?_ | refine zcn ?_)
      repeat (first | refine zck ?_ | refine zcl ?_ | refine zcm ?_ | refine zcn ?_)
      first | refine zcp (by kernel_rfl) ?_ | refine zcq PP_mixed (by kernel_rfl) (by kernel_rfl) ?_
      repeat' (refine zap rfl ?_; first | ((with_reducible refine zcu ?_); refine zan rfl ?_) | ((with_reducible refine zcv ?_); refine zan rfl ?_) | ((with_reducible refine zcw ?_); refine zaa 0 rfl rfl rfl ?_) | ((with_reducible refine zcx ?_); (refine reg_callO [0] hC ((f0 K).bd_same a b) hS (by omega) (foSame w0 p (f0 K) (f0_ok hK) a b ha hb) rfl rfl rfl sub_nil ?_; rintro x s m' ⟨rfl, rfl⟩ hC)) | ((with_reducible refine zcy ?_); refine zao rfl ?_) | ((with_reducible refine zcz ?_); refine zan rfl ?_))
      all_goals refine zch ?_
      all_goals repeat (first | refine zck ?_ | refine zcl ?_ | refine zcm ?_ | refine zcn ?_)
      refine run_slots [(2, .int .i64 a), (3, .int .i64 b), (5, .pointer (some ⟨bx, 0, none⟩)), (9, .int .i64 (rep J a)), (10, .int .i64 0), (11, .int .i64 (sz J (rep J a))), (12, .int .i64 0), (13, .bool false), (14, .int .i64 10)] ⟨rfl, rfl, rfl, rfl, rfl, rfl, rfl, rfl, rfl, trivial⟩ (fun junk => ?_)
      repeat (first | refine zck ?_ | refine zcl ?_ | refine zcm ?_ | refine zcn ?_)
      first | refine zcp (by kernel_rfl) ?_ | refine zcq PP_mixed (by kernel_rfl) (by kernel_rfl) ?_
      repeat' (refine zap rfl ?_; first | ((with_reducible refine zcu ?_); refine zan rfl ?_) | ((with_reducible refine zcw ?_); refine zaa 0 rfl rfl rfl ?_) | ((with_reducible refine zcx ?_); (refine zah [] (hI a) rfl rfl rfl (fun _ h => .tail _ h) rfl ?_; rw [hda])) | ((with_reducible refine zcy ?_); refine zao rfl ?_) | ((with_reducible refine zdb ?_); refine zbx rfl ?_))
      all_goals refine zch ?_
      all_goals repeat (first | refine zck ?_ | refine zcl ?_ | refine zcm ?_ | refine zcn ?_)
      refine zcj rfl ?_
      repeat (first | refine zck ?_ | refine zcl ?_ | refine zcm ?_ | refine zcn ?_)
      first | refine zcp (by kernel_rfl) ?_ | refine zcq PP_mixed (by kernel_rfl) (by kernel_rfl) ?_
      repeat' (refine zap rfl ?_; first | ((with_reducible refine zcu ?_); refine zan rfl ?_) | ((with_reducible refine zcv ?_); refine zan rfl ?_) | ((with_reducible refine zcw ?_); refine zaa 0 rfl rfl rfl ?_) | ((with_reducible refine zcx ?_); refine zah [] hF rfl rfl rfl (fun _ h => .tail _ h) rfl ?_) | ((with_reducible refine zcy ?_); refine zao rfl ?_))
      all_goals refine zch ?_
      all_goals repeat (first | refine zck ?_ | refine zcl ?_ | refine zcm ?_ | refine zcn ?_)
      refine run_slots [(2, .int .i64 a), (3, .int .i64 b), (5, .pointer (some ⟨bx, 0, none⟩)), (9, .int .i64 (rep J a)), (10, .int .i64 0), (11, .int .i64 (sz J (rep J a))), (12, .int .i64 0), (13, .bool false), (14, .int .i64 10), (15, .int .i64 (rep J a))] ⟨rfl, rfl, rfl, rfl, rfl, rfl, rfl, rfl, rfl, rfl, trivial⟩ (fun junk => ?_)
      repeat (first | refine zck ?_ | refine zcl ?_ | refine zcm ?_ | refine zcn ?_)
      first | refine zcp (by kernel_rfl) ?_ | refine zcq PP_mixed (by kernel_rfl) (by kernel_rfl) ?_
      repeat' (refine zap rfl ?_; first | refine zad rfl (fun hF Γ w h1 h2 => hm hF Γ w (fun p hp => h1 p (.tail _ hp)) h2) (hr _ (by omega)) ?_ | ((with_reducible refine zct ?_); refine zaj rfl ?_) | ((with_reducible refine zcu ?_); refine zan rfl ?_) | ((with_reducible refine zcw ?_); refine zaa 0 rfl rfl rfl ?_) | ((with_reducible refine zcy ?_); refine zao rfl ?_) | ((with_reducible refine zda ?_); first | refine zbf rfl rfl (by omega) ?_ | refine zav rfl rfl (by omega) ?_) | ((with_reducible refine zdc ?_); refine zbv rfl ?_) | ((with_reducible refine zdf ?_); refine zas rfl rfl (by omega) ?_))
      all_goals refine zch ?_
      all_goals repeat (first | refine zck ?_ | refine zcl ?_ | refine zcm ?_ | refine zcn ?_)
      refine zcj rfl ?_
      refine run_slots [(2, .int .i64 a), (3, .int .i64 b), (5, .pointer (some ⟨bx, 0, none⟩)), (9, .int .i64 (rep J a)), (10, .int .i64 0), (11, .int .i64 (sz J (rep J a))), (12, .int .i64 0), (13, .bool false), (14, .int .i64 10), (15, .int .i64 (rep J a))] ⟨rfl, rfl, rfl, rfl, rfl, rfl, rfl, rfl, rfl, rfl, trivial⟩ (fun junk => ?_)
      repeat' (first | refine zck ?_ | refine zcp (by kernel_rfl) ?_ | refine zcm ?_ | (refine zap rfl ?_; first | ((with_reducible refine zct ?_); refine zaj rfl ?_) | ((with_reducible refine zcu ?_); refine zan rfl ?_) | ((with_reducible refine zcv ?_); refine zan rfl ?_) | ((with_reducible refine zcw ?_); refine zaa 0 rfl rfl rfl ?_) | ((with_reducible refine zcx ?_); (refine zah [] (hI b) rfl rfl rfl (fun _ h => .tail _ h) rfl ?_; rw [hdb])) | ((with_reducible refine zcy ?_); refine zao rfl ?_) | ((with_reducible refine zda ?_); refine zbc rfl rfl (by omega) ?_) | ((with_reducible refine zdb ?_); refine zbx rfl ?_) | ((with_reducible refine zdc ?_); refine zbu rfl ?_)) | refine zch ?_ | refine zci rfl ?_)
      exact ret_tmp1 rfl ⟨_, rfl, rfl, hC⟩
  · have hS := same_none (K := K) h (x := a) (y := b) (fun h => ca h.1)
    have hda := decide_eq_false ca
    refine fn_of_run en58 fn58 rfl rfl rfl ?_
    repeat (first | refine zck ?_ | refine zcl ?_ | refine zcm ?_ | refine zcn ?_)
    first | refine zcp (by kernel_rfl) ?_ | refine zcq PP_mixed (by kernel_rfl) (by kernel_rfl) ?_
    repeat' (refine zap rfl ?_; first | ((with_reducible refine zcv ?_); refine zan rfl ?_) | ((with_reducible refine zdg ?_); refine zaq (cs := [_, _, _, _, _, _, _, _]) rfl (fun nb => ?_)))
    all_goals refine zch ?_
    all_goals repeat (first | refine zck ?_ | refine zcl ?_ | refine zcm ?_ | refine zcn ?_)
    refine run_share [1] rfl ?_
    repeat' (first | refine zck ?_ | refine zcp (by kernel_rfl) ?_ | (refine zap rfl ?_; first | ((with_reducible refine zct ?_); refine zaj rfl ?_) | ((with_reducible refine zcu ?_); refine zan rfl ?_) | ((with_reducible refine zcv ?_); refine zan rfl ?_) | ((with_reducible refine zcw ?_); refine zaa 0 rfl rfl rfl ?_) | ((with_reducible refine zcx ?_); first | (refine reg_callO [0] hC ((f0 K).bd_find a) (find_none h ca) (by omega) (foFind w0 p (f0 K) (f0_ok hK) a ha) rfl rfl rfl sub_nil ?_; rintro x s m' ⟨rfl, rfl⟩ hC) | (refine reg_callO [0] hC ((f0 K).bd_sizeOf a) (size_none h ca) (by omega) (foSize w0 p (f0 K) (f0_ok hK) a ha) rfl rfl rfl sub_nil ?_; rintro x s m' ⟨rfl, rfl⟩ hC) | (refine reg_callO [0] hC ((f0 K).bd_same a b) hS (by omega) (foSame w0 p (f0 K) (f0_ok hK) a b ha hb) rfl rfl rfl sub_nil ?_; rintro x s m' ⟨rfl, rfl⟩ hC) | (refine zah [] (hI a) rfl rfl rfl (fun _ h => .tail _ h) rfl ?_; rw [hda])) | ((with_reducible refine zcy ?_); refine zao rfl ?_) | ((with_reducible refine zcz ?_); refine zan rfl ?_) | ((with_reducible refine zda ?_); refine zbc rfl rfl (by omega) ?_) | ((with_reducible refine zdb ?_); refine zbx rfl ?_) | ((with_reducible refine zdc ?_); refine zbu rfl ?_)) | refine zch ?_ | refine zci rfl ?_)
    exact ret_tmp1 rfl ⟨_, rfl, rfl, hC⟩
end
end Go.Proofs.Ytpcnbaddkblbhaa

/- The law's step, within the transaction. -/
namespace Sim
open Go Go.Vc
/-- What a call makes of the elements and the joins. -/
def stepJ (K : Int) (k : Nat) (J : Jn) (d X Y : Int) : Nat × Jn :=
  if d % 6 = 2 ∨ d % 6 = 3 then (if (1 ≤ X ∧ X ≤ k) ∧ (1 ≤ Y ∧ Y ≤ k) ∧ rep J X ≠ rep J Y then (k, lowHigh J (rep J X) (rep J Y) :: J) else (k, J))
  else if d % 6 = 4 then (k, J.tail)
  else if d % 6 = 5 then (k, J)
  else if k < 64 ∧ (cN (k + 1) : Int) ≤ K then (k + 1, J) else (k, J)
end Sim
namespace Go.Proofs.Ytpcnbaddkblbhaa
open Go.Vc Sim
set_option maxHeartbeats 8000000
abbrev ptr (b : Nat) : Value := .pointer (some ⟨b, 0, none⟩)
/-- The lists of the reference. -/
structure Rl where
  a1 : Option Addr
  c1 : Nat
  a2 : Option Addr
  c2 : Nat
  a3 : Option Addr
  c3 : Nat
abbrev rl3 (r : Rl) (k : Nat) (J : Jn) : List Asn := [LstA 3 (.slice r.a1 (bL k J).length r.c1) (bL k J), LstA 3 (.slice r.a2 (zL k J).length r.c2) (zL k J), LstA 3 (.slice r.a3 (jL J).length r.c3) (jL J)]
abbrev stC (wb : Nat) (K : Int) (r : Rl) (k : Nat) (J : Jn) : List Value := [.map (some wb), .int .i64 1, .int .i64 64, .int .i64 K, .int .i64 16, .slice r.a1 (bL k J).length r.c1, .slice r.a2 (zL k J).length r.c2, .slice r.a3 (jL J).length r.c3]
abbrev stB (xb wb : Nat) (K : Int) (r : Rl) (k : Nat) (J : Jn) : Asn := pt xb (.cells (List.toArray (stC wb K r k J)) 36 (0, 0))
abbrev okB (ob : Nat) (b : Bool) : Asn := pt ob (.cells (List.toArray [.bool b]) 4 (0, 0))
/-- A state of the forest, in memory and in lists. -/
structure Fs (K : Int) (k : Nat) (J : Jn) where
  m : Int → Int
  r : Rl
  ok : ∃ ad, Mm K m k (nC k) (tC k) J ad
abbrev clC (d X Y : Int) : Obj := .cells (List.toArray [.int .u8 d, .int .i64 X, .int .i64 Y]) 66 (0, 0)
theorem rdF {w0 : World} {sh : Shared} {r : Rl} {k : Nat} {J : Jn} (hk : k ≤ 64) (hv : Vd k J) (h1 : RdSl w0 sh encI 1 (.slice r.a1 (bL k J).length r.c1) (bL k J)) (h2 : RdSl w0 sh encI 1 (.slice r.a2 (zL k J).length r.c2) (zL k J)) (h3 : RdSl w0 sh encI 1 (.slice r.a3 (jL J).length r.c3) (jL J)) : RdF w0 sh r.a1 r.c1 r.a2 r.c2 r.a3 r.c3 k J := by
  have := joins_lt hv
  exact ⟨h1, h2, h3, by rw [bL_len]; omega, by rw [zL_len]; omega, by rw [jL_len]; omega⟩
section
variable {K : Int} {m : Int → Int} {k : Nat} {J : Jn} {ad : Nat → Int}
theorem step1_spec (w0 : World) (sh : Shared) (p cb xb ob wb : Nat) (hK : 0 ≤ K ∧ K ≤ 38) (r : Rl) (s : Sp) (hC : Cu 368 s s m 0) (h : Mm K m k (nC k) (tC k) J ad) (d X Y : Int) (hd : 0 ≤ d ∧ d ≤ 255) (hX : X ≤ 9223372036854775807) (hY : Y ≤ 9223372036854775807) (hcb : (cb, clC d X Y) ∈ sh) (k' : Nat) (J' : Jn) (hJ' : stepJ K k J d X Y = (k', J')) :
    Vc.Fn PP w0 sh 54 [spP p, ptr cb, ptr xb, ptr ob] [SpaceA p s, StarsA (stB xb wb K r k J :: okB ob true :: rl3 r k J)]
      (fun v Γ => ∃ (st : Fs K k' J') (s' : Sp) (j : Nat), v = .tuple #[] ∧ Γ = [SpaceA p s', StarsA (stB xb wb K st.r k' J' :: okB ob true :: rl3 st.r k' J')] ∧ j ≤ 50000 ∧ Cu 368 s s' st.m j) := by
  have hd6 : d.tmod 6 = d % 6 := Int.tmod_eq_emod_of_nonneg hd.1
  have hbl := bL_len k J
  have hkl := h.le
  refine fn_of_run en54 fn54 rfl rfl rfl ?_
  refine run_unpack [1] rfl ?_
  refine run_lend3 [2, 2, 2] rfl fun sh' hi r1 r2 r3 => ?_
  have hR := rdF hkl h.vd r1 r2 r3
  have hmc : ∀ hF Γ w, Sh sh' hF → St w0 hF Γ w → w.heap[cb]? = some (clC d X Y) := fun hF Γ w h1 h2 => (h2.frame (h1 _ (hi _ hcb))).2
  have hI := fun x => rfIs w0 sh' hR x
  rw [hbl] at hI
  repeat (first | refine zck ?_ | refine zcl ?_ | refine zcm ?_ | refine zcn ?_)
  first | refine zcp (by kernel_rfl) ?_ | refine zcq PP_mixed (by kernel_rfl) (by kernel_rfl) ?_
  repeat' (refine zap rfl ?_; first | (refine reg_rem rfl rfl (by decide) ?_; rw [hd6]) | refine zad rfl hmc rfl ?_ | ((with_reducible refine zcy ?_); refine zao rfl ?_))
  all_goals refine zch ?_
  all_goals repeat (first | refine zck ?_ | refine zcl ?_ | refine zcm ?_ | refine zcn ?_)
  unfold stepJ at hJ'
  by_cases c23 : d % 6 = 2 ∨ d % 6 = 3
  · rw [if_pos c23] at hJ'
    by_cases cc : (1 ≤ X ∧ X ≤ k) ∧ (1 ≤ Y ∧ Y ≤ k)
    · obtain ⟨cx, cy⟩ := cc
      have dx := decide_eq_true cx
      have dy := decide_eq_true cy
      have ux := upN_rep h.vd (dep J X) X rfl cx.1 cx.2
      have uy := upN_rep h.vd (dep J Y) Y rfl cy.1 cy.2
      by_cases he : rep J X = rep J Y
      · rw [if_neg (fun h => h.2.2 he)] at hJ'
        cases hJ'
        have hU := union_same hK h cx cy he
        rw [← he] at uy
        have hS := rfSame w0 sh' hR _ _ X Y _ ux uy
        rcases c23 with c2 | c2
        · repeat' (first | refine zck ?_ | refine zcp (by kernel_rfl) ?_ | refine zcm ?_ | refine zcn ?_ | (refine zap rfl ?_; first | refine zad rfl hmc rfl ?_ | ((with_reducible refine zct ?_); refine zaj rfl ?_) | ((with_reducible refine zcu ?_); refine zan rfl ?_) | ((with_reducible refine zcv ?_); refine zan rfl ?_) | ((with_reducible refine zcw ?_); first | refine zab 0 rfl rfl rfl ?_ | refine zab 1 rfl rfl rfl ?_ | refine zab 3 rfl rfl rfl ?_) | ((with_reducible refine zcx ?_); first | (refine reg_callO [2] hC ((f0 K).bd_union X Y) hU (by omega) (foUnion w0 p (f0 K) (f0_ok hK) X Y hX hY) rfl rfl rfl sub_nil ?_; rintro x s' m' ⟨rfl, rfl⟩ hC) | (refine zah [] (hI X) rfl rfl rfl (fun _ h => h) rfl ?_; rw [dx]) | (refine zah [] (hI Y) rfl rfl rfl (fun _ h => h) rfl ?_; rw [dy]) | refine zah [] hS rfl rfl rfl (fun _ h => h) rfl ?_) | ((with_reducible refine zcy ?_); refine zao rfl ?_) | ((with_reducible refine zcz ?_); refine zan rfl ?_) | ((with_reducible refine zda ?_); first | refine zbc rfl rfl (by omega) ?_ | refine zbb rfl rfl ?_) | ((with_reducible refine zdb ?_); refine zbx rfl ?_) | ((with_reducible refine zdc ?_); first | refine zbu rfl ?_ | refine zbv rfl ?_) | ((with_reducible refine zdd ?_); first | refine zae 1 rfl rfl rfl rfl rfl rfl rfl ?_ | refine zae 2 rfl rfl rfl rfl rfl rfl rfl ?_ | refine zae 3 rfl rfl rfl rfl rfl rfl rfl ?_) | ((with_reducible refine zdh ?_); refine zar (fun nb => ?_))) | refine zch ?_ | refine zci rfl ?_ | refine zcj rfl ?_)
          exact run_nil (leaves_nil (ends_pack [0, 0, 0, 1, 1, 1] rfl (ends_none rfl ⟨rfl, ⟨_, r, ad, h⟩, s', _, rfl, rfl, (by decide), hC⟩)))
        · repeat' (first | refine zck ?_ | refine zcp (by kernel_rfl) ?_ | refine zcm ?_ | refine zcn ?_ | (refine zap rfl ?_; first | refine zad rfl hmc rfl ?_ | ((with_reducible refine zct ?_); refine zaj rfl ?_) | ((with_reducible refine zcu ?_); refine zan rfl ?_) | ((with_reducible refine zcv ?_); refine zan rfl ?_) | ((with_reducible refine zcw ?_); first | refine zab 0 rfl rfl rfl ?_ | refine zab 1 rfl rfl rfl ?_ | refine zab 3 rfl rfl rfl ?_) | ((with_reducible refine zcx ?_); first | (refine reg_callO [2] hC ((f0 K).bd_union X Y) hU (by omega) (foUnion w0 p (f0 K) (f0_ok hK) X Y hX hY) rfl rfl rfl sub_nil ?_; rintro x s' m' ⟨rfl, rfl⟩ hC) | (refine zah [] (hI X) rfl rfl rfl (fun _ h => h) rfl ?_; rw [dx]) | (refine zah [] (hI Y) rfl rfl rfl (fun _ h => h) rfl ?_; rw [dy]) | refine zah [] hS rfl rfl rfl (fun _ h => h) rfl ?_) | ((with_reducible refine zcy ?_); refine zao rfl ?_) | ((with_reducible refine zcz ?_); refine zan rfl ?_) | ((with_reducible refine zda ?_); first | refine zbc rfl rfl (by omega) ?_ | refine zbd rfl rfl (by omega) ?_ | refine zbb rfl rfl ?_) | ((with_reducible refine zdb ?_); refine zbx rfl ?_) | ((with_reducible refine zdc ?_); first | refine zbu rfl ?_ | refine zbv rfl ?_) | ((with_reducible refine zdd ?_); first | refine zae 1 rfl rfl rfl rfl rfl rfl rfl ?_ | refine zae 2 rfl rfl rfl rfl rfl rfl rfl ?_ | refine zae 3 rfl rfl rfl rfl rfl rfl rfl ?_) | ((with_reducible refine zdh ?_); refine zar (fun nb => ?_))) | refine zch ?_ | refine zci rfl ?_ | refine zcj rfl ?_)
          exact run_nil (leaves_nil (ends_pack [0, 0, 0, 1, 1, 1] rfl (ends_none rfl ⟨rfl, ⟨_, r, ad, h⟩, s', _, rfl, rfl, (by decide), hC⟩)))
      · rw [if_pos ⟨cx, cy, he⟩] at hJ'
        cases hJ'
        have hU := union_join hK h cx cy he
        have px := rep_in h.vd X cx.1 cx.2
        have py := rep_in h.vd Y cy.1 cy.2
        have zx := zL_at k J px.1 px.2
        have zy := zL_at k J py.1 py.2
        have sx := sz_le h.vd cx.1 cx.2
        have sy := sz_le h.vd cy.1 cy.2
        have tx := sz_pos J (rep J X)
        have ty := sz_pos J (rep J Y)
        generalize hlh : lowHigh J (rep J X) (rep J Y) = lh at hU
        obtain ⟨lo, hi'⟩ := lh
        have hlo : 1 ≤ lo ∧ lo ≤ k ∧ 1 ≤ hi' ∧ hi' ≤ k ∧ sz J hi' + sz J lo = sz J (rep J X) + sz J (rep J Y) := by
          unfold lowHigh at hlh
          split at hlh <;> (cases hlh; omega)
        have hJn := rfJoin w0 sh' hR _ _ X Y _ _ hi' lo _ _ ux uy he zx zy (by omega) (by
          unfold lowHigh at hlh
          split at hlh
          · rename_i hc; cases hlh; exact .inr ⟨by omega, rfl, rfl⟩
          · rename_i hc; cases hlh; exact .inl ⟨by omega, rfl, rfl⟩)
        have eb := bL_join (k := k) (b := lo) (a := hi') (J := J) (show 1 ≤ lo ∧ lo ≤ k from ⟨hlo.1, hlo.2.1⟩)
        have ez := zL_join (k := k) (b := lo) (a := hi') (J := J) (show 1 ≤ hi' ∧ hi' ≤ k from ⟨hlo.2.2.1, hlo.2.2.2.1⟩)
        have ej := jL_join (b := lo) (a := hi') (J := J)
        rw [hlo.2.2.2.2] at ez
        rw [← eb, ← ez, ← ej] at hJn
        rcases c23 with c2 | c2
        · repeat' (first | refine zck ?_ | refine zcp (by kernel_rfl) ?_ | refine zcm ?_ | refine zcn ?_ | (refine zap rfl ?_; first | refine zad rfl hmc rfl ?_ | refine zae 6 rfl rfl rfl rfl rfl rfl rfl ?_ | refine zab 6 rfl rfl rfl ?_ | ((with_reducible refine zct ?_); refine zaj rfl ?_) | ((with_reducible refine zcu ?_); refine zan rfl ?_) | ((with_reducible refine zcv ?_); refine zan rfl ?_) | ((with_reducible refine zcw ?_); first | refine zab 0 rfl rfl rfl ?_ | refine zab 1 rfl rfl rfl ?_) | ((with_reducible refine zcx ?_); first | (refine reg_callO [2] hC ((f0 K).bd_union X Y) hU (by omega) (foUnion w0 p (f0 K) (f0_ok hK) X Y hX hY) rfl rfl rfl sub_nil ?_; rintro x s' m' ⟨rfl, hM⟩ hC) | (refine zah [] (hI X) rfl rfl rfl (fun _ h => h) rfl ?_; rw [dx]) | (refine zah [] (hI Y) rfl rfl rfl (fun _ h => h) rfl ?_; rw [dy]) | (refine zai [] hJn rfl rfl rfl (fun _ h => h) ?_; rintro v Γ' ⟨v', rfl, b1, d1, b2, d2, b3, d3, rfl, rfl⟩)) | ((with_reducible refine zcy ?_); refine zao rfl ?_) | ((with_reducible refine zcz ?_); refine zan rfl ?_) | ((with_reducible refine zda ?_); first | refine zbc rfl rfl (by omega) ?_ | refine zbb rfl rfl ?_) | ((with_reducible refine zdb ?_); refine zbx rfl ?_) | ((with_reducible refine zdc ?_); first | refine zbu rfl ?_ | refine zbv rfl ?_) | ((with_reducible refine zdd ?_); first | refine zae 4 rfl rfl rfl rfl rfl rfl rfl ?_ | refine zae 5 rfl rfl rfl rfl rfl rfl rfl ?_) | ((with_reducible refine zdh ?_); refine zar (fun nb => ?_))) | refine zch ?_ | refine zci rfl ?_ | refine zcj rfl ?_)
          refine run_exch 0 _ rfl LstA.ofSl rfl ?_
          refine run_exch 1 _ rfl LstA.ofSl rfl ?_
          refine run_exch 2 _ rfl LstA.ofSl rfl ?_
          exact run_nil (leaves_nil (ends_pack [3, 3, 3, 0, 0, 0] rfl (ends_none rfl ⟨rfl, ⟨_, ⟨b1, d1, b2, d2, b3, d3⟩, ad, hM⟩, s', _, rfl, rfl, (by decide), hC⟩)))
        · repeat' (first | refine zck ?_ | refine zcp (by kernel_rfl) ?_ | refine zcm ?_ | refine zcn ?_ | (refine zap rfl ?_; first | refine zad rfl hmc rfl ?_ | refine zae 6 rfl rfl rfl rfl rfl rfl rfl ?_ | refine zab 6 rfl rfl rfl ?_ | ((with_reducible refine zct ?_); refine zaj rfl ?_) | ((with_reducible refine zcu ?_); refine zan rfl ?_) | ((with_reducible refine zcv ?_); refine zan rfl ?_) | ((with_reducible refine zcw ?_); first | refine zab 0 rfl rfl rfl ?_ | refine zab 1 rfl rfl rfl ?_) | ((with_reducible refine zcx ?_); first | (refine reg_callO [2] hC ((f0 K).bd_union X Y) hU (by omega) (foUnion w0 p (f0 K) (f0_ok hK) X Y hX hY) rfl rfl rfl sub_nil ?_; rintro x s' m' ⟨rfl, hM⟩ hC) | (refine zah [] (hI X) rfl rfl rfl (fun _ h => h) rfl ?_; rw [dx]) | (refine zah [] (hI Y) rfl rfl rfl (fun _ h => h) rfl ?_; rw [dy]) | (refine zai [] hJn rfl rfl rfl (fun _ h => h) ?_; rintro v Γ' ⟨v', rfl, b1, d1, b2, d2, b3, d3, rfl, rfl⟩)) | ((with_reducible refine zcy ?_); refine zao rfl ?_) | ((with_reducible refine zcz ?_); refine zan rfl ?_) | ((with_reducible refine zda ?_); first | refine zbc rfl rfl (by omega) ?_ | refine zbd rfl rfl (by omega) ?_ | refine zbb rfl rfl ?_) | ((with_reducible refine zdb ?_); refine zbx rfl ?_) | ((with_reducible refine zdc ?_); first | refine zbu rfl ?_ | refine zbv rfl ?_) | ((with_reducible refine zdd ?_); first | refine zae 4 rfl rfl rfl rfl rfl rfl rfl ?_ | refine zae 5 rfl rfl rfl rfl rfl rfl rfl ?_) | ((with_reducible refine zdh ?_); refine zar (fun nb => ?_))) | refine zch ?_ | refine zci rfl ?_ | refine zcj rfl ?_)
          refine run_exch 0 _ rfl LstA.ofSl rfl ?_
          refine run_exch 1 _ rfl LstA.ofSl rfl ?_
          refine run_exch 2 _ rfl LstA.ofSl rfl ?_
          exact run_nil (leaves_nil (ends_pack [3, 3, 3, 0, 0, 0] rfl (ends_none rfl ⟨rfl, ⟨_, ⟨b1, d1, b2, d2, b3, d3⟩, ad, hM⟩, s', _, rfl, rfl, (by decide), hC⟩)))
    · rw [if_neg (fun h => cc ⟨h.1, h.2.1⟩)] at hJ'
      cases hJ'
      have hU := union_none (K := K) h cc
      by_cases cx : 1 ≤ X ∧ X ≤ k
      · have dx := decide_eq_true cx
        have dy := decide_eq_false (fun h => cc ⟨cx, h⟩)
        rcases c23 with c2 | c2
        · repeat' (first | refine zck ?_ | refine zcp (by kernel_rfl) ?_ | refine zcm ?_ | (refine zap rfl ?_; first | refine zad rfl hmc rfl ?_ | ((with_reducible refine zct ?_); refine zaj rfl ?_) | ((with_reducible refine zcu ?_); refine zan rfl ?_) | ((with_reducible refine zcv ?_); refine zan rfl ?_) | ((with_reducible refine zcw ?_); first | refine zab 0 rfl rfl rfl ?_ | refine zab 1 rfl rfl rfl ?_) | ((with_reducible refine zcx ?_); first | (refine reg_callO [2] hC ((f0 K).bd_union X Y) hU (by omega) (foUnion w0 p (f0 K) (f0_ok hK) X Y hX hY) rfl rfl rfl sub_nil ?_; rintro x s' m' ⟨rfl, rfl⟩ hC) | (refine zah [] (hI X) rfl rfl rfl (fun _ h => h) rfl ?_; rw [dx]) | (refine zah [] (hI Y) rfl rfl rfl (fun _ h => h) rfl ?_; rw [dy])) | ((with_reducible refine zcy ?_); refine zao rfl ?_) | ((with_reducible refine zcz ?_); refine zan rfl ?_) | ((with_reducible refine zda ?_); refine zbc rfl rfl (by omega) ?_) | ((with_reducible refine zdb ?_); refine zbx rfl ?_) | ((with_reducible refine zdc ?_); first | refine zbu rfl ?_ | refine zbv rfl ?_) | ((with_reducible refine zdd ?_); refine zae 2 rfl rfl rfl rfl rfl rfl rfl ?_)) | refine zch ?_ | refine zci rfl ?_)
          exact run_ret (leaves_nil (ends_pack [0, 0, 0, 0, 0, 0] rfl (ends_none rfl ⟨rfl, ⟨_, r, ad, h⟩, s', _, rfl, rfl, (by decide), hC⟩)))
        · repeat' (first | refine zck ?_ | refine zcp (by kernel_rfl) ?_ | (refine zap rfl ?_; first | refine zad rfl hmc rfl ?_ | ((with_reducible refine zct ?_); refine zaj rfl ?_) | ((with_reducible refine zcu ?_); refine zan rfl ?_) | ((with_reducible refine zcv ?_); refine zan rfl ?_) | ((with_reducible refine zcw ?_); first | refine zab 0 rfl rfl rfl ?_ | refine zab 1 rfl rfl rfl ?_) | ((with_reducible refine zcx ?_); first | (refine reg_callO [2] hC ((f0 K).bd_union X Y) hU (by omega) (foUnion w0 p (f0 K) (f0_ok hK) X Y hX hY) rfl rfl rfl sub_nil ?_; rintro x s' m' ⟨rfl, rfl⟩ hC) | (refine zah [] (hI X) rfl rfl rfl (fun _ h => h) rfl ?_; rw [dx]) | (refine zah [] (hI Y) rfl rfl rfl (fun _ h => h) rfl ?_; rw [dy])) | ((with_reducible refine zcy ?_); refine zao rfl ?_) | ((with_reducible refine zcz ?_); refine zan rfl ?_) | ((with_reducible refine zda ?_); first | refine zbc rfl rfl (by omega) ?_ | refine zbd rfl rfl (by omega) ?_) | ((with_reducible refine zdb ?_); refine zbx rfl ?_) | ((with_reducible refine zdc ?_); first | refine zbu rfl ?_ | refine zbv rfl ?_) | ((with_reducible refine zdd ?_); refine zae 2 rfl rfl rfl rfl rfl rfl rfl ?_)) | refine zch ?_ | refine zci rfl ?_ | refine zcj rfl ?_)
          exact run_ret (leaves_nil (ends_pack [0, 0, 0, 0, 0, 0] rfl (ends_none rfl ⟨rfl, ⟨_, r, ad, h⟩, s', _, rfl, rfl, (by decide), hC⟩)))
      · have dx := decide_eq_false cx
        rcases c23 with c2 | c2
        · repeat' (first | refine zck ?_ | refine zcp (by kernel_rfl) ?_ | refine zcm ?_ | (refine zap rfl ?_; first | refine zad rfl hmc rfl ?_ | ((with_reducible refine zct ?_); first | refine zaj rfl ?_ | refine zak rfl ?_) | ((with_reducible refine zcu ?_); refine zan rfl ?_) | ((with_reducible refine zcv ?_); refine zan rfl ?_) | ((with_reducible refine zcw ?_); first | refine zab 0 rfl rfl rfl ?_ | refine zab 1 rfl rfl rfl ?_) | ((with_reducible refine zcx ?_); first | (refine reg_callO [2] hC ((f0 K).bd_union X Y) hU (by omega) (foUnion w0 p (f0 K) (f0_ok hK) X Y hX hY) rfl rfl rfl sub_nil ?_; rintro x s' m' ⟨rfl, rfl⟩ hC) | (refine zah [] (hI X) rfl rfl rfl (fun _ h => h) rfl ?_; rw [dx])) | ((with_reducible refine zcy ?_); refine zao rfl ?_) | ((with_reducible refine zcz ?_); refine zan rfl ?_) | ((with_reducible refine zda ?_); refine zbc rfl rfl (by omega) ?_) | ((with_reducible refine zdb ?_); refine zbx rfl ?_) | ((with_reducible refine zdc ?_); refine zbu rfl ?_) | ((with_reducible refine zdd ?_); refine zae 2 rfl rfl rfl rfl rfl rfl rfl ?_)) | refine zch ?_ | refine zci rfl ?_)
          exact run_ret (leaves_nil (ends_pack [0, 0, 0, 0, 0, 0] rfl (ends_none rfl ⟨rfl, ⟨_, r, ad, h⟩, s', _, rfl, rfl, (by decide), hC⟩)))
        · repeat' (first | refine zck ?_ | refine zcp (by kernel_rfl) ?_ | (refine zap rfl ?_; first | refine zad rfl hmc rfl ?_ | ((with_reducible refine zct ?_); first | refine zaj rfl ?_ | refine zak rfl ?_) | ((with_reducible refine zcu ?_); refine zan rfl ?_) | ((with_reducible refine zcv ?_); refine zan rfl ?_) | ((with_reducible refine zcw ?_); first | refine zab 0 rfl rfl rfl ?_ | refine zab 1 rfl rfl rfl ?_) | ((with_reducible refine zcx ?_); first | (refine reg_callO [2] hC ((f0 K).bd_union X Y) hU (by omega) (foUnion w0 p (f0 K) (f0_ok hK) X Y hX hY) rfl rfl rfl sub_nil ?_; rintro x s' m' ⟨rfl, rfl⟩ hC) | (refine zah [] (hI X) rfl rfl rfl (fun _ h => h) rfl ?_; rw [dx])) | ((with_reducible refine zcy ?_); refine zao rfl ?_) | ((with_reducible refine zcz ?_); refine zan rfl ?_) | ((with_reducible refine zda ?_); first | refine zbc rfl rfl (by omega) ?_ | refine zbd rfl rfl (by omega) ?_) | ((with_reducible refine zdb ?_); refine zbx rfl ?_) | ((with_reducible refine zdc ?_); refine zbu rfl ?_) | ((with_reducible refine zdd ?_); refine zae 2 rfl rfl rfl rfl rfl rfl rfl ?_)) | refine zch ?_ | refine zci rfl ?_ | refine zcj rfl ?_)
          exact run_ret (leaves_nil (ends_pack [0, 0, 0, 0, 0, 0] rfl (ends_none rfl ⟨rfl, ⟨_, r, ad, h⟩, s', _, rfl, rfl, (by decide), hC⟩)))
  rw [if_neg c23] at hJ'
  by_cases c4 : d % 6 = 4
  · rw [if_pos c4] at hJ'
    cases hJ'
    cases J with
    | nil =>
      have hU := undo_none h
      have hS := rfUndo0 w0 sh' hR rfl
      repeat' (first | refine zck ?_ | refine zcp (by kernel_rfl) ?_ | refine zcn ?_ | (refine zap rfl ?_; first | ((with_reducible refine zct ?_); refine zaj rfl ?_) | ((with_reducible refine zcu ?_); refine zan rfl ?_) | ((with_reducible refine zcv ?_); refine zan rfl ?_) | ((with_reducible refine zcw ?_); first | refine zab 0 rfl rfl rfl ?_ | refine zab 1 rfl rfl rfl ?_ | refine zab 3 rfl rfl rfl ?_) | ((with_reducible refine zcx ?_); first | (refine reg_callO [2] hC (f0 K).bd_undo hU (by omega) (foUndo w0 p (f0 K) (f0_ok hK)) rfl rfl rfl sub_nil ?_; rintro x s' m' ⟨rfl, rfl⟩ hC) | refine zah [] hS rfl rfl rfl (fun _ h => h) rfl ?_) | ((with_reducible refine zcy ?_); refine zao rfl ?_) | ((with_reducible refine zcz ?_); refine zan rfl ?_) | ((with_reducible refine zda ?_); first | refine zbc rfl rfl (by omega) ?_ | refine zbd rfl rfl (by omega) ?_ | refine zbb rfl rfl ?_) | ((with_reducible refine zdc ?_); refine zbu rfl ?_) | ((with_reducible refine zdd ?_); first | refine zae 1 rfl rfl rfl rfl rfl rfl rfl ?_ | refine zae 2 rfl rfl rfl rfl rfl rfl rfl ?_ | refine zae 3 rfl rfl rfl rfl rfl rfl rfl ?_) | ((with_reducible refine zdh ?_); refine zar (fun nb => ?_))) | refine zch ?_ | refine zci rfl ?_ | refine zcj rfl ?_)
      exact run_nil (leaves_nil (ends_pack [0, 0, 0, 1, 1, 1] rfl (ends_none rfl ⟨rfl, ⟨_, r, ad, h⟩, s', _, rfl, rfl, (by decide), hC⟩)))
    | cons ba J =>
      obtain ⟨b, a⟩ := ba
      have hU := undo_ok hK h
      obtain ⟨v1, ra, rb, hne, ha, hb, hs⟩ := id h.vd
      have hz1 := zL_at k ((b, a) :: J) ha.1 ha.2
      have hz2 := zL_at k ((b, a) :: J) hb.1 hb.2
      have hb1 := bL_at k ((b, a) :: J) hb.1 hb.2
      have e1 : par ((b, a) :: J) b = a := by simp only [par, if_true]
      rw [e1] at hb1
      have hq : ∀ x, 1 ≤ x → x ≤ (k : Int) → par ((b, a) :: J) x = 0 ∨ x = b → 1 ≤ sz ((b, a) :: J) x ∧ sz ((b, a) :: J) x ≤ k := by
        intro x x1 x2 hx
        refine ⟨sz_pos _ _, ?_⟩
        rcases hx with hx | rfl
        · have := sz_le h.vd x1 x2
          rw [root_rep h.vd x hx] at this
          exact this
        · simp only [sz]
          rw [if_neg (Ne.symm hne)]
          have := sz_le v1 x1 x2
          rw [root_rep v1 x rb] at this
          exact this
      have hp : par ((b, a) :: J) a = 0 := by simp only [par]; rw [if_neg hne]; exact ra
      have q1 := hq a ha.1 ha.2 (.inl hp)
      have q2 := hq b hb.1 hb.2 (.inr rfl)
      have hjl : (jL ((b, a) :: J)).length = J.length + 1 := by simp [jL]
      have hjb : (jL ((b, a) :: J))[J.length]? = some b := by simp [jL]
      have hS := rfUndo w0 sh' hR b a _ _ J.length hjl hjb ⟨hb.1, ha.1⟩ hb1 hz1 hz2 (by omega)
      have ej : (jL ((b, a) :: J)).take J.length = jL J := by rw [jL_join]; rw [List.take_left' (by simp [jL])]
      rw [← bL_undo h.vd, ← zL_undo h.vd, ej] at hS
      repeat' (first | refine zck ?_ | refine zcp (by kernel_rfl) ?_ | refine zcn ?_ | (refine zap rfl ?_; first | refine zae 6 rfl rfl rfl rfl rfl rfl rfl ?_ | refine zab 6 rfl rfl rfl ?_ | ((with_reducible refine zct ?_); refine zaj rfl ?_) | ((with_reducible refine zcu ?_); refine zan rfl ?_) | ((with_reducible refine zcv ?_); refine zan rfl ?_) | ((with_reducible refine zcw ?_); first | refine zab 0 rfl rfl rfl ?_ | refine zab 1 rfl rfl rfl ?_) | ((with_reducible refine zcx ?_); first | (refine reg_callO [2] hC (f0 K).bd_undo hU (by omega) (foUndo w0 p (f0 K) (f0_ok hK)) rfl rfl rfl sub_nil ?_; rintro x s' m' ⟨rfl, hM⟩ hC) | (refine zai [] hS rfl rfl rfl (fun _ h => h) ?_; rintro v Γ' ⟨v', rfl, b1, d1, b2, d2, b3, d3, rfl, rfl⟩)) | ((with_reducible refine zcy ?_); refine zao rfl ?_) | ((with_reducible refine zcz ?_); refine zan rfl ?_) | ((with_reducible refine zda ?_); first | refine zbc rfl rfl (by omega) ?_ | refine zbd rfl rfl (by omega) ?_ | refine zbb rfl rfl ?_) | ((with_reducible refine zdc ?_); refine zbu rfl ?_) | ((with_reducible refine zdd ?_); first | refine zae 4 rfl rfl rfl rfl rfl rfl rfl ?_ | refine zae 5 rfl rfl rfl rfl rfl rfl rfl ?_) | ((with_reducible refine zdh ?_); refine zar (fun nb => ?_))) | refine zch ?_ | refine zci rfl ?_ | refine zcj rfl ?_)
      refine run_exch 0 _ rfl LstA.ofSl rfl ?_
      refine run_exch 1 _ rfl LstA.ofSl rfl ?_
      refine run_exch 2 _ rfl LstA.ofSl rfl ?_
      exact run_nil (leaves_nil (ends_pack [3, 3, 3, 0, 0, 0] rfl (ends_none rfl ⟨rfl, ⟨_, ⟨b1, d1, b2, d2, b3, d3⟩, ad, hM⟩, s', _, rfl, rfl, (by decide), hC⟩)))
  rw [if_neg c4] at hJ'
  by_cases c5 : d % 6 = 5
  · rw [if_pos c5] at hJ'
    cases hJ'
    repeat' (first | refine zck ?_ | refine zcp (by kernel_rfl) ?_ | refine zcn ?_ | (refine zap rfl ?_; first | refine zad rfl hmc rfl ?_ | ((with_reducible refine zct ?_); refine zaj rfl ?_) | ((with_reducible refine zcu ?_); refine zan rfl ?_) | ((with_reducible refine zcv ?_); refine zan rfl ?_) | ((with_reducible refine zcw ?_); refine zab 0 rfl rfl rfl ?_) | ((with_reducible refine zcx ?_); first | (refine zai [2] (asks_spec w0 sh' p wb hK hR s s 0 (by decide) hC h X Y hX hY) rfl rfl rfl (fun _ h => h) ?_; rintro v Γ' ⟨s', rfl, rfl, hC⟩) | (refine zai [0] (writes_spec w0 p s' (by have := hC.few; omega)) rfl rfl rfl sub_nil ?_; rintro v Γ' ⟨wa, wcap, rfl, rfl⟩; have hw0 : s'.writes.length = 0 := Sp.writes_len0.2 (List.length_eq_zero_iff.1 (by have := hC.few; omega))) | refine zce rfl ?_) | ((with_reducible refine zcy ?_); refine zao rfl ?_) | ((with_reducible refine zda ?_); first | refine zbc rfl rfl (by omega) ?_ | refine zbd rfl rfl (by omega) ?_) | ((with_reducible refine zdc ?_); refine zbu rfl ?_) | ((with_reducible refine zdd ?_); refine zae 3 rfl rfl rfl rfl rfl rfl rfl ?_)) | refine zch ?_ | refine zci rfl ?_ | refine zcj rfl ?_)
    exact run_nil (leaves_nil (ends_pack [0, 1, 1, 1, 1, 1] rfl (ends_none rfl ⟨rfl, ⟨m, r, ad, h⟩, s', 0, rfl, rfl, by decide, hC⟩)))
  · rw [if_neg c5] at hJ'
    have hMk := rfMake w0 sh' hR
    rw [← bL_more h.vd, ← zL_more h.vd] at hMk
    have hbl1 : ((bL (k + 1) J).length : Int) = (k : Int) + 1 := by rw [bL_len]; omega
    have hN := rfNodes w0 ((bL (k + 1) J).length : Int) (by omega)
    have eN : (((bL (k + 1) J).length : Int) + 1) / 2 + ((((bL (k + 1) J).length : Int) + 1) / 2 + 7) / 8 = (cN (k + 1) : Nat) := by rw [hbl1]; unfold cN; omega
    rw [eN] at hN
    by_cases cm : k < 64 ∧ (cN (k + 1) : Int) ≤ K
    · rw [if_pos cm] at hJ'
      cases hJ'
      have hU := make_ok hK h cm.1 cm.2
      repeat (first | refine zck ?_ | refine zcl ?_ | refine zcm ?_ | refine zcn ?_)
      first | refine zcp (by kernel_rfl) ?_ | refine zcq PP_mixed (by kernel_rfl) (by kernel_rfl) ?_
      repeat' (refine zap rfl ?_; first | ((with_reducible refine zcv ?_); refine zan rfl ?_) | ((with_reducible refine zda ?_); refine zbd rfl rfl (by omega) ?_))
      all_goals refine zch ?_
      all_goals repeat (first | refine zck ?_ | refine zcl ?_ | refine zcm ?_ | refine zcn ?_)
      refine zcj rfl ?_
      repeat (first | refine zck ?_ | refine zcl ?_ | refine zcm ?_ | refine zcn ?_)
      first | refine zcp (by kernel_rfl) ?_ | refine zcq PP_mixed (by kernel_rfl) (by kernel_rfl) ?_
      repeat' (refine zap rfl ?_; first | ((with_reducible refine zcv ?_); refine zan rfl ?_) | ((with_reducible refine zda ?_); refine zbd rfl rfl (by omega) ?_))
      all_goals refine zch ?_
      all_goals repeat (first | refine zck ?_ | refine zcl ?_ | refine zcm ?_ | refine zcn ?_)
      refine zcj rfl ?_
      repeat (first | refine zck ?_ | refine zcl ?_ | refine zcm ?_ | refine zcn ?_)
      first | refine zcp (by kernel_rfl) ?_ | refine zcq PP_mixed (by kernel_rfl) (by kernel_rfl) ?_
      repeat' (refine zap rfl ?_; first | ((with_reducible refine zcv ?_); refine zan rfl ?_) | ((with_reducible refine zda ?_); refine zbd rfl rfl (by omega) ?_))
      all_goals refine zch ?_
      all_goals repeat (first | refine zck ?_ | refine zcl ?_ | refine zcm ?_ | refine zcn ?_)
      refine zcj rfl ?_
      repeat (first | refine zck ?_ | refine zcl ?_ | refine zcm ?_ | refine zcn ?_)
      first | refine zcp (by kernel_rfl) ?_ | refine zcq PP_mixed (by kernel_rfl) (by kernel_rfl) ?_
      repeat' (refine zap rfl ?_; first | ((with_reducible refine zcv ?_); refine zan rfl ?_) | ((with_reducible refine zda ?_); refine zbd rfl rfl (by omega) ?_))
      all_goals refine zch ?_
      all_goals repeat (first | refine zck ?_ | refine zcl ?_ | refine zcm ?_ | refine zcn ?_)
      refine zcj rfl ?_
      repeat (first | refine zck ?_ | refine zcl ?_ | refine zcm ?_ | refine zcn ?_)
      first | refine zcp (by kernel_rfl) ?_ | refine zcq PP_mixed (by kernel_rfl) (by kernel_rfl) ?_
      repeat' (refine zap rfl ?_; first | ((with_reducible refine zcu ?_); refine zan rfl ?_) | ((with_reducible refine zcv ?_); refine zan rfl ?_) | ((with_reducible refine zcw ?_); refine zab 0 rfl rfl rfl ?_) | ((with_reducible refine zcx ?_); (refine reg_callO [2] hC (f0 K).bd_make hU (by omega) (foMake w0 p (f0 K) (f0_ok hK)) rfl rfl rfl sub_nil ?_; rintro x s' m' ⟨rfl, hM⟩ hC)) | ((with_reducible refine zcy ?_); refine zao rfl ?_) | ((with_reducible refine zcz ?_); refine zan rfl ?_))
      all_goals refine zch ?_
      all_goals repeat (first | refine zck ?_ | refine zcl ?_ | refine zcm ?_ | refine zcn ?_)
      repeat (first | refine zck ?_ | refine zcl ?_ | refine zcm ?_ | refine zcn ?_)
      first | refine zcp (by kernel_rfl) ?_ | refine zcq PP_mixed (by kernel_rfl) (by kernel_rfl) ?_
      repeat' (refine zap rfl ?_; first | refine zae 6 rfl rfl rfl rfl rfl rfl rfl ?_ | ((with_reducible refine zcw ?_); refine zab 1 rfl rfl rfl ?_) | ((with_reducible refine zcx ?_); (refine zai [] hMk rfl rfl rfl (fun _ h => h) ?_; rintro v Γ' ⟨b1, d1, b2, d2, b3, d3, rfl, rfl⟩)) | ((with_reducible refine zcy ?_); refine zao rfl ?_) | ((with_reducible refine zdh ?_); refine zar (fun nb => ?_)))
      all_goals refine zch ?_
      all_goals repeat (first | refine zck ?_ | refine zcl ?_ | refine zcm ?_ | refine zcn ?_)
      refine run_share [6] rfl ?_
      refine run_bind_eq (l' := [(2, ptr xb), (3, ptr ob), (13, .int .i64 ((k : Int) + 1)), (14, .int .i64 0), (15, ptr nb), (43, .bool false)]) (Γ' := rP b1 d1 b2 d2 b3 d3 (bL (k + 1) J) (zL (k + 1) J) (jL J) ++ [SpaceA p s', okB ob true, stB xb wb K r k J]) ?_ (fun junk => ?_)
      · refine run_share_keep [4] rfl ?_
        repeat' (first | refine zcq PP_mixed (by kernel_rfl) (by kernel_rfl) ?_ | (refine zap rfl ?_; first | ((with_reducible refine zct ?_); refine zaj rfl ?_) | ((with_reducible refine zcu ?_); refine zan rfl ?_) | ((with_reducible refine zcw ?_); first | refine zaa 0 rfl rfl rfl ?_ | refine zaa 1 rfl rfl rfl ?_) | ((with_reducible refine zcx ?_); first | refine zah [] hN rfl rfl rfl sub_nil rfl ?_ | refine zce rfl ?_) | ((with_reducible refine zcy ?_); refine zao rfl ?_) | ((with_reducible refine zda ?_); refine zbl rfl rfl (by omega) ?_) | ((with_reducible refine zdc ?_); refine zbv rfl ?_)) | refine zch ?_)
        exact run_nil (show _ ∧ _ ∧ _ from ⟨rfl, ⟨rfl, rfl, rfl, rfl, rfl, rfl, trivial⟩, rfl⟩)
      obtain ⟨ad', hM⟩ := hM
      repeat' (first | refine zck ?_ | refine zcp (by kernel_rfl) ?_ | refine zcm ?_ | refine zcn ?_ | (refine zap rfl ?_; first | refine zae 5 rfl rfl rfl rfl rfl rfl rfl ?_ | ((with_reducible refine zct ?_); refine zaj rfl ?_) | ((with_reducible refine zcu ?_); refine zan rfl ?_) | ((with_reducible refine zcw ?_); refine zaa 0 rfl rfl rfl ?_) | ((with_reducible refine zcx ?_); refine zce rfl ?_) | ((with_reducible refine zcy ?_); refine zao rfl ?_) | ((with_reducible refine zda ?_); refine zbc rfl rfl (by omega) ?_) | ((with_reducible refine zdc ?_); refine zbu rfl ?_) | ((with_reducible refine zdd ?_); refine zae 4 rfl rfl rfl rfl rfl rfl rfl ?_)) | refine zch ?_ | refine zcj rfl ?_)
      refine run_exch 0 _ rfl LstA.ofSl rfl ?_
      refine run_exch 1 _ rfl LstA.ofSl rfl ?_
      refine run_exch 2 _ rfl LstA.ofSl rfl ?_
      exact run_nil (leaves_nil (ends_pack [3, 4, 3, 0, 0, 0] rfl (ends_none rfl ⟨rfl, ⟨_, ⟨b1, d1, b2, d2, b3, d3⟩, ad', hM⟩, s', _, rfl, rfl, (by decide), hC⟩)))
    · rw [if_neg cm] at hJ'
      cases hJ'
      have hk64 : k = 64 ∨ K < (cN (k + 1) : Int) := by omega
      have hU := make_full hK h hk64
      repeat (first | refine zck ?_ | refine zcl ?_ | refine zcm ?_ | refine zcn ?_)
      first | refine zcp (by kernel_rfl) ?_ | refine zcq PP_mixed (by kernel_rfl) (by kernel_rfl) ?_
      repeat' (refine zap rfl ?_; first | ((with_reducible refine zcv ?_); refine zan rfl ?_) | ((with_reducible refine zda ?_); refine zbd rfl rfl (by omega) ?_))
      all_goals refine zch ?_
      all_goals repeat (first | refine zck ?_ | refine zcl ?_ | refine zcm ?_ | refine zcn ?_)
      refine zcj rfl ?_
      repeat (first | refine zck ?_ | refine zcl ?_ | refine zcm ?_ | refine zcn ?_)
      first | refine zcp (by kernel_rfl) ?_ | refine zcq PP_mixed (by kernel_rfl) (by kernel_rfl) ?_
      repeat' (refine zap rfl ?_; first | ((with_reducible refine zcv ?_); refine zan rfl ?_) | ((with_reducible refine zda ?_); refine zbd rfl rfl (by omega) ?_))
      all_goals refine zch ?_
      all_goals repeat (first | refine zck ?_ | refine zcl ?_ | refine zcm ?_ | refine zcn ?_)
      refine zcj rfl ?_
      repeat (first | refine zck ?_ | refine zcl ?_ | refine zcm ?_ | refine zcn ?_)
      first | refine zcp (by kernel_rfl) ?_ | refine zcq PP_mixed (by kernel_rfl) (by kernel_rfl) ?_
      repeat' (refine zap rfl ?_; first | ((with_reducible refine zcv ?_); refine zan rfl ?_) | ((with_reducible refine zda ?_); refine zbd rfl rfl (by omega) ?_))
      all_goals refine zch ?_
      all_goals repeat (first | refine zck ?_ | refine zcl ?_ | refine zcm ?_ | refine zcn ?_)
      refine zcj rfl ?_
      repeat (first | refine zck ?_ | refine zcl ?_ | refine zcm ?_ | refine zcn ?_)
      first | refine zcp (by kernel_rfl) ?_ | refine zcq PP_mixed (by kernel_rfl) (by kernel_rfl) ?_
      repeat' (refine zap rfl ?_; first | ((with_reducible refine zcv ?_); refine zan rfl ?_) | ((with_reducible refine zda ?_); refine zbd rfl rfl (by omega) ?_))
      all_goals refine zch ?_
      all_goals repeat (first | refine zck ?_ | refine zcl ?_ | refine zcm ?_ | refine zcn ?_)
      refine zcj rfl ?_
      repeat (first | refine zck ?_ | refine zcl ?_ | refine zcm ?_ | refine zcn ?_)
      first | refine zcp (by kernel_rfl) ?_ | refine zcq PP_mixed (by kernel_rfl) (by kernel_rfl) ?_
      repeat' (refine zap rfl ?_; first | ((with_reducible refine zcu ?_); refine zan rfl ?_) | ((with_reducible refine zcv ?_); refine zan rfl ?_) | ((with_reducible refine zcw ?_); refine zab 0 rfl rfl rfl ?_) | ((with_reducible refine zcx ?_); (refine reg_callO [2] hC (f0 K).bd_make hU (by omega) (foMake w0 p (f0 K) (f0_ok hK)) rfl rfl rfl sub_nil ?_; rintro x s' m' ⟨rfl, rfl⟩ hC)) | ((with_reducible refine zcy ?_); refine zao rfl ?_) | ((with_reducible refine zcz ?_); refine zan rfl ?_))
      all_goals refine zch ?_
      all_goals repeat (first | refine zck ?_ | refine zcl ?_ | refine zcm ?_ | refine zcn ?_)
      repeat (first | refine zck ?_ | refine zcl ?_ | refine zcm ?_ | refine zcn ?_)
      first | refine zcp (by kernel_rfl) ?_ | refine zcq PP_mixed (by kernel_rfl) (by kernel_rfl) ?_
      repeat' (refine zap rfl ?_; first | refine zae 6 rfl rfl rfl rfl rfl rfl rfl ?_ | ((with_reducible refine zcw ?_); refine zab 1 rfl rfl rfl ?_) | ((with_reducible refine zcx ?_); (refine zai [] hMk rfl rfl rfl (fun _ h => h) ?_; rintro v Γ' ⟨b1, d1, b2, d2, b3, d3, rfl, rfl⟩)) | ((with_reducible refine zcy ?_); refine zao rfl ?_) | ((with_reducible refine zdh ?_); refine zar (fun nb => ?_)))
      all_goals refine zch ?_
      all_goals repeat (first | refine zck ?_ | refine zcl ?_ | refine zcm ?_ | refine zcn ?_)
      refine run_share [6] rfl ?_
      refine run_bind_eq (l' := [(2, ptr xb), (3, ptr ob), (13, .int .i64 0), (14, .int .i64 9), (15, ptr nb), (43, .bool true)]) (Γ' := rP b1 d1 b2 d2 b3 d3 (bL (k + 1) J) (zL (k + 1) J) (jL J) ++ [SpaceA p s', okB ob true, stB xb wb K r k J]) ?_ (fun junk => ?_)
      · refine run_share_keep [4] rfl ?_
        by_cases hk0 : k = 64
        · repeat' (first | refine zcq PP_mixed (by kernel_rfl) (by kernel_rfl) ?_ | (refine zap rfl ?_; first | ((with_reducible refine zct ?_); refine zak rfl ?_) | ((with_reducible refine zcu ?_); refine zan rfl ?_) | ((with_reducible refine zcw ?_); refine zaa 1 rfl rfl rfl ?_) | ((with_reducible refine zcx ?_); refine zce rfl ?_) | ((with_reducible refine zcy ?_); refine zao rfl ?_) | ((with_reducible refine zda ?_); refine zbk rfl rfl (by omega) ?_) | ((with_reducible refine zdc ?_); refine zbu rfl ?_)) | refine zch ?_)
          exact run_nil (show _ ∧ _ ∧ _ from ⟨rfl, ⟨rfl, rfl, rfl, rfl, rfl, rfl, trivial⟩, rfl⟩)
        · repeat' (first | refine zcq PP_mixed (by kernel_rfl) (by kernel_rfl) ?_ | (refine zap rfl ?_; first | ((with_reducible refine zct ?_); refine zaj rfl ?_) | ((with_reducible refine zcu ?_); refine zan rfl ?_) | ((with_reducible refine zcw ?_); first | refine zaa 0 rfl rfl rfl ?_ | refine zaa 1 rfl rfl rfl ?_) | ((with_reducible refine zcx ?_); first | refine zah [] hN rfl rfl rfl sub_nil rfl ?_ | refine zce rfl ?_) | ((with_reducible refine zcy ?_); refine zao rfl ?_) | ((with_reducible refine zda ?_); first | refine zbk rfl rfl (by omega) ?_ | refine zbl rfl rfl (by omega) ?_) | ((with_reducible refine zdc ?_); refine zbv rfl ?_)) | refine zch ?_)
          exact run_nil (show _ ∧ _ ∧ _ from ⟨rfl, ⟨rfl, rfl, rfl, rfl, rfl, rfl, trivial⟩, rfl⟩)
      repeat' (first | refine zck ?_ | refine zcp (by kernel_rfl) ?_ | (refine zap rfl ?_; first | ((with_reducible refine zct ?_); refine zaj rfl ?_) | ((with_reducible refine zcu ?_); refine zan rfl ?_) | ((with_reducible refine zda ?_); refine zbc rfl rfl (by omega) ?_) | ((with_reducible refine zdc ?_); refine zbu rfl ?_) | ((with_reducible refine zdd ?_); refine zae 4 rfl rfl rfl rfl rfl rfl rfl ?_)) | refine zch ?_ | refine zci rfl ?_)
      exact run_ret (leaves_nil (ends_pack [3, 4, 3, 3, 3, 3] rfl (ends_none rfl ⟨rfl, ⟨_, r, ad, h⟩, s', _, rfl, rfl, (by decide), hC⟩)))
end
end Go.Proofs.Ytpcnbaddkblbhaa

/- The law's step. -/
namespace Go.Vc
/-- Resources that go in and come out packed. -/
theorem Fn.unpack {P : Program} {w0 : World} {sh : Shared} {f : FuncId} {args : List Value} {L : List Asn} {R R' : Value → List Asn → Prop} (h : Fn P w0 sh f args [StarsA L] R)
    (hR : ∀ v Γ, R v Γ → ∃ A L', Γ = [A, StarsA L'] ∧ R' v (A :: L')) : Fn P w0 sh f args L R' :=
  ⟨h.enters, fun hF w hsh ⟨g, h1, h2, h3⟩ => (h.calls hF w hsh ⟨g, Stars.one.2 h1, h2, h3⟩).mono fun e w' ⟨v, Γ', e1, e2, e3⟩ => by
    obtain ⟨A, L', rfl, e4⟩ := hR v Γ' e2
    obtain ⟨g, ⟨g1, g2, d1, d2, d3, d4⟩, g3, g4⟩ := e3
    exact ⟨v, _, e1, e4, g, ⟨g1, g2, d1, d2, d3, Stars.one.1 d4⟩, g3, g4⟩⟩
theorem sub_swap {a b : Nat × Obj} {sh : Shared} : ∀ p ∈ a :: b :: sh, p ∈ b :: a :: sh := fun p hp => by
  simp only [List.mem_cons] at hp ⊢
  rcases hp with h | h | h
  · exact .inr (.inl h)
  · exact .inl h
  · exact .inr (.inr h)
end Go.Vc
namespace Go.Proofs.Ytpcnbaddkblbhaa
open Go.Vc Sim
set_option maxHeartbeats 8000000
abbrev stR (wb : Nat) (K : Int) (r : Rl) (k : Nat) (J : Jn) : Value := stV wb K r.a1 r.c1 r.a2 r.c2 r.a3 r.c3 k J
abbrev wdA (wb : Nat) (kn : List (Int × Wd)) : Asn := pt wb (mapI (knM kn))
section
variable {K : Int} {m : Int → Int} {k : Nat} {J : Jn} {ad : Nat → Int}
theorem step_spec (w0 : World) (sh : Shared) (wb : Nat) (hK : 0 ≤ K ∧ K ≤ 38) (r : Rl) (kn : List (Int × Wd)) (T : Int) (hT : T ≤ 1000000) (hW : WM 368 T kn m) (h : Mm K m k (nC k) (tC k) J ad) (d X Y : Int) (hd : 0 ≤ d ∧ d ≤ 255) (hX : X ≤ 9223372036854775807) (hY : Y ≤ 9223372036854775807) (k' : Nat) (J' : Jn) (hJ' : stepJ K k J d X Y = (k', J')) :
    Vc.Fn PP w0 sh 35 [stR wb K r k J, .agg (List.toArray [.int .u8 d, .int .i64 X, .int .i64 Y])] (wdA wb kn :: rl3 r k J)
      (fun v Γ => ∃ (st : Fs K k' J') (nb : Nat) (kn2 : List (Int × Wd)), v = .tuple #[stR nb K st.r k' J', .bool true] ∧ Γ = wdA nb kn2 :: rl3 st.r k' J' ∧ WM 368 (T + 1) kn2 st.m) := by
  refine fn_of_run en35 fn35 rfl rfl rfl ?_
  refine run_share [0] rfl ?_
  repeat (first | refine zck ?_ | refine zcl ?_ | refine zcm ?_ | refine zcn ?_)
  first | refine zcp (by kernel_rfl) ?_ | refine zcq PP_mixed (by kernel_rfl) (by kernel_rfl) ?_
  repeat' (refine zap rfl ?_; first | ((with_reducible refine zcv ?_); refine zan rfl ?_) | ((with_reducible refine zdg ?_); first | refine zaq (cs := [_, _, _]) rfl (fun nb => ?_) | refine zaq (cs := [_, _, _, _, _, _, _, _]) rfl (fun nb => ?_)) | ((with_reducible refine zdh ?_); refine zar (fun nb => ?_)))
  all_goals refine zch ?_
  all_goals repeat (first | refine zck ?_ | refine zcl ?_ | refine zcm ?_ | refine zcn ?_)
  rename_i xb cb
  revert nb; intro rb
  refine run_share [4] rfl ?_
  repeat (first | refine zck ?_ | refine zcl ?_ | refine zcm ?_ | refine zcn ?_)
  first | refine zcp (by kernel_rfl) ?_ | refine zcq PP_mixed (by kernel_rfl) (by kernel_rfl) ?_
  repeat' (refine zap rfl ?_; first | ((with_reducible refine zdd ?_); refine zae 5 rfl rfl rfl rfl rfl rfl rfl ?_) | ((with_reducible refine zdh ?_); refine zar (fun nb => ?_)))
  all_goals refine zch ?_
  all_goals repeat (first | refine zck ?_ | refine zcl ?_ | refine zcm ?_ | refine zcn ?_)
  revert nb; intro ob
  have hD := (done_mem (σ := Fs K k' J') w0 ((cb, clC d X Y) :: sh) wb kn 368 T m hT hW 54 (List.toArray [ptr cb, ptr xb, ptr ob]) (StarsA (stB xb wb K r k J :: okB ob true :: rl3 r k J)) (fun st => StarsA (stB xb wb K st.r k' J' :: okB ob true :: rl3 st.r k' J')) (fun st => st.m)
    (fun p s hC _ => (step1_spec w0 _ p cb xb ob wb hK r s hC h d X Y hd hX hY (.head _) k' J' hJ').mono (fun v Γ ⟨st, s', j, e1, e2, e3, e4⟩ => ⟨st, s', j, e1, e2, e3, e4⟩))).unpack
    (R' := fun v Γ => ∃ (st : Fs K k' J') (nb : Nat) (a : Option Addr) (len c : Nat) (kn2 : List (Int × Wd)), v = .tuple #[.map (some nb), .slice a len c, .bool true] ∧ Γ = wdA nb kn2 :: stB xb wb K st.r k' J' :: okB ob true :: rl3 st.r k' J' ∧ WM 368 (T + 1) kn2 st.m)
    (fun v Γ ⟨st, nb, a, len, c, kn2, e1, e2, e3⟩ => ⟨_, _, e2, st, nb, a, len, c, kn2, e1, rfl, e3⟩)
  repeat (first | refine zck ?_ | refine zcl ?_ | refine zcm ?_ | refine zcn ?_)
  first | refine zcp (by kernel_rfl) ?_ | refine zcq PP_mixed (by kernel_rfl) (by kernel_rfl) ?_
  repeat' (refine zap rfl ?_; first | ((with_reducible refine zcu ?_); refine zan rfl ?_) | ((with_reducible refine zcv ?_); refine zan rfl ?_) | ((with_reducible refine zcw ?_); refine zab 3 rfl rfl rfl ?_) | ((with_reducible refine zcx ?_); (refine zai [3, 4, 0, 0, 0] hD rfl rfl rfl sub_swap ?_; rintro v Γ' ⟨st, nb, wa, wl, wc, kn2, rfl, rfl, hW2⟩)) | ((with_reducible refine zcy ?_); refine zao rfl ?_) | ((with_reducible refine zcz ?_); refine zan rfl ?_) | refine zan rfl ?_)
  all_goals refine zch ?_
  all_goals repeat (first | refine zck ?_ | refine zcl ?_ | refine zcm ?_ | refine zcn ?_)
  repeat' (first | refine zck ?_ | refine zcp (by kernel_rfl) ?_ | (refine zap rfl ?_; first | refine zae 6 rfl rfl rfl rfl rfl rfl rfl ?_ | ((with_reducible refine zct ?_); refine zaj rfl ?_) | ((with_reducible refine zcu ?_); refine zan rfl ?_) | ((with_reducible refine zcv ?_); refine zan rfl ?_) | ((with_reducible refine zcw ?_); first | refine zab 1 rfl rfl rfl ?_ | refine zab 2 rfl rfl rfl ?_) | ((with_reducible refine zcy ?_); refine zao rfl ?_) | ((with_reducible refine zdc ?_); refine zbu rfl ?_) | ((with_reducible refine zdd ?_); refine zae 1 rfl rfl rfl rfl rfl rfl rfl ?_)) | refine zch ?_)
  exact run_ret (leaves_nil (ends_take [0, 2, 2, 2] rfl (ends_two rfl (resOk_pt 6 rfl rfl rfl) rfl ⟨rfl, st, nb, kn2, rfl, rfl, hW2⟩)))
end
end Go.Proofs.Ytpcnbaddkblbhaa

