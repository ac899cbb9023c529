import Derived.Test.YtgdhcgnmffgkiaaGreatDoorPart4
import Derived.Test.YtgdhcgnmffgkiaaGreatDoorKit
import Derived.Test.YtgdhcgnmffgkiaaGreatDoorPart2
/- Lemmas and walks for the claims of this seat (own work): Gh3 Te3 Te4 Te5 Te6 Te7 Te8 Cx1 Cx2 Fo0 Fo1 Fo2 Fo3 Fo4 Fo5. -/
namespace Go.Proofs.YtgdhcgnmffgkiaaGreatDoor
open Go.Vc Sim
set_option maxHeartbeats 4000000
section
variable {w0 : World} {nn : Nat} {sh : Shared} {Q : Exit → Env → List Deferred → List Asn → Prop} {k : List Item} {ρ : Env} {df : List Deferred} {Γ Γr : List Asn}
theorem run_through {β γ : Type} (is : List Nat) {R : γ × Sp} {G : Gh} (hK : G.Ok) {l : GL} (φ : Nat → β → Prop) (f : β → Int → Pg (β × Bool)) (A X : β → Asn) {acc : β} {kk : β × Int × Bool → Pg γ} {p eb b1 b2 b3 b4 : Nat} {s : Sp} {g : Operand} {prm : Tmp} {assign body : Code}
    (hG : At R (G.through l f acc >>= kk) s) (h0 : φ 0 acc) (hφ : ∀ i acc n s, i < 128 → φ i acc → (Pg.run (f acc n) s).1.2 = true → φ (i + 1) (Pg.run (f acc n) s).1.1)
    (hg : ev ρ g = .func (.func 282) #[] #[.pointer (some ⟨b1, 0, none⟩), .pointer (some ⟨b2, 0, none⟩), .pointer (some ⟨b3, 0, none⟩), .pointer (some ⟨b4, 0, none⟩)])
    (hsh : ∀ q ∈ [shP p b1, shL l b2, shG G b3, shE eb b4], q ∈ sh)
    (hp : Nat.blt prm nn = true) (hnd : (noDefC assign && noDefC body) = true) (hpk : pick is Γ = some ([SpaceA p s, A acc, erV eb 0], Γr))
    (hround : ∀ i acc n s R, i < 128 → φ i acc → At R (f acc n) s → Run PP w0 nn sh (fun e ρ' df' Γ' => e = .normal ∧
        Run PP w0 nn sh (rndQ fun jump Γ => jump = (if R.1.2 = true then none else some .ret) ∧ Γ = [SpaceA p R.2, if R.1.2 = true then A R.1.1 else X R.1.1]) [.code body] ρ' df' Γ') [.code assign] (ρ.set prm (.int .i64 n)) [] [SpaceA p s, A acc])
    (hk : ∀ D r s', r = (Pg.run (G.through l f acc) s).1 → At R (kk r) s' → (r.2.2 = false → Run PP w0 nn sh Q k ρ (markD D :: df) (markA D :: [SpaceA p s', A r.1, erV eb r.2.1] ++ Γr)) ∧
        (r.2.2 = true → Q .ret ρ (markD D :: df) (markA D :: [SpaceA p s', X r.1, erV eb r.2.1] ++ Γr))) :
    Run PP w0 nn sh Q (.code (.rangeFunc g #[prm] assign body) :: k) ρ df Γ := by
  refine run_rangeFunc (β := {x : β × Int × Sp // Pg.Fits (f x.1 x.2.1) x.2.2 ∧ ∃ i, i < 128 ∧ φ i x.1}) is (fun x => .int .i64 x.1.2.1) (fun x => [SpaceA p x.1.2.2, A x.1.1]) (RY p φ f A X)
    (fun jump Γ => ∃ r s', r = (Pg.run (G.through l f acc) s).1 ∧ At R (kk r) s' ∧ jump = (if r.2.2 = true then some .ret else none) ∧ Γ = [SpaceA p s', if r.2.2 = true then X r.1 else A r.1, erV eb r.2.1]) hg hp hnd hpk (fun x => let ⟨i, h1, h2⟩ := x.2.2; hround i x.1.1 x.1.2.1 x.1.2.2 _ h1 h2 (At.start x.2.1)) (fun L lp hY => ?_) (fun D jump Γ ⟨r, s', h0, h1, h2, h3⟩ => ?_)
  · have h := ghThrough1 w0 p eb G hK l sh b1 b2 b3 b4 f A X φ hφ L lp (fun x => (hY x).share (fun q hq => List.mem_cons_of_mem _ (List.mem_cons_of_mem _ (List.mem_cons_of_mem _ (List.mem_cons_of_mem _ hq))))) acc h0 s hG.step.1
    refine (h.share (fun q hq => ?_)).mono ?_
    · rcases List.mem_cons.1 hq with rfl | hq
      · exact hsh _ (by simp)
      rcases List.mem_cons.1 hq with rfl | hq
      · exact hsh _ (by simp)
      rcases List.mem_cons.1 hq with rfl | hq
      · exact hsh _ (by simp)
      rcases List.mem_cons.1 hq with rfl | hq
      · exact hsh _ (by simp)
      exact hq
    · rintro v Γ' rfl
      exact ⟨_, _, ⟨_, _, rfl, hG.step.2, rfl, rfl⟩, rfl⟩
  · subst h3
    obtain ⟨k1, k2⟩ := hk D r s' h0 h1
    cases hr : r.2.2 with
    | false => rw [hr] at h2; subst h2; simp only [Bool.false_eq_true, if_false]; exact k1 hr
    | true => rw [hr] at h2; subst h2; simp only [if_true]; exact k2 hr
end
theorem sub4 {P L G E : Nat × Obj} {sh : Shared} : ∀ q ∈ [P, L, G, E], q ∈ E :: L :: P :: G :: sh := by
  intro q hq
  simp only [List.mem_cons, List.not_mem_nil, or_false] at hq ⊢
  rcases hq with rfl | rfl | rfl | rfl <;> simp
end Go.Proofs.YtgdhcgnmffgkiaaGreatDoor

namespace Go.Proofs.YtgdhcgnmffgkiaaGreatDoor
open Go.Vc Sim
set_option maxHeartbeats 4000000
section
variable {w0 : World} {nn : Nat} {sh : Shared} {Q : Exit → Env → List Deferred → List Asn → Prop} {kk0 : List Item} {ρ : Env} {df : List Deferred} {Γ Γr : List Asn}
end
end Go.Proofs.YtgdhcgnmffgkiaaGreatDoor

namespace Go.Proofs.YtgdhcgnmffgkiaaGreatDoor
open Go.Vc Sim
set_option maxHeartbeats 4000000
set_option maxRecDepth 20000
end Go.Proofs.YtgdhcgnmffgkiaaGreatDoor

namespace Sim
open Go Go.Vc
end Sim
namespace Go.Proofs.YtgdhcgnmffgkiaaGreatDoor
open Go.Vc Sim
set_option maxHeartbeats 4000000
set_option maxRecDepth 20000
end Go.Proofs.YtgdhcgnmffgkiaaGreatDoor

namespace Go.Proofs.YtgdhcgnmffgkiaaGreatDoor
open Go.Vc Sim
set_option maxHeartbeats 4000000
set_option maxRecDepth 20000
end Go.Proofs.YtgdhcgnmffgkiaaGreatDoor

namespace Sim
open Go Go.Vc
end Sim
namespace Go.Proofs.YtgdhcgnmffgkiaaGreatDoor
open Go.Vc Sim
set_option maxHeartbeats 4000000
set_option maxRecDepth 20000
end Go.Proofs.YtgdhcgnmffgkiaaGreatDoor

namespace Go.Proofs.YtgdhcgnmffgkiaaGreatDoor
open Go.Vc Sim
set_option maxHeartbeats 4000000
set_option maxRecDepth 20000
section
variable {w0 : World} {n : Nat} {sh shf : Shared} {Q : Exit → Env → List Deferred → List Asn → Prop} {k : List Item} {ρ : Env} {df : List Deferred} {Γ Γr : List Asn}
variable {ops : Array Oper} {l : List (Fl × Nat × Oper)} {i : Nat} {ty : TypeId} {pos : String} {aft : Array Edge} {dst : Option Tmp}
variable {f : FuncId} {args : List Value} {fo : Operand} {cargs : Array Operand} {ats : Array TypeId} {first cap : Array Value}
end
end Go.Proofs.YtgdhcgnmffgkiaaGreatDoor

namespace Go.Proofs.YtgdhcgnmffgkiaaGreatDoor
open Go.Vc Sim
set_option maxHeartbeats 4000000
theorem truthE_spec (w0 : World) (b : Bool) (e : Int) : FnE PP w0 [] 226 [.bool b, .int .i64 e] [] (encI2 (if e = 0 ∧ b = true then (1, e) else (0, e))) [] := by
  by_cases he : e = 0
  · cases b with
    | false =>
      rw [if_neg (fun h => by cases h.2)]
      refine fn_of_run en226 fn226 rfl rfl rfl ?_
      repeat' (first | refine zck ?_ | refine zcp (by kernel_rfl) ?_ | (refine zap rfl ?_; first | refine zbx rfl ?_ | refine zaj rfl ?_ | refine zan rfl ?_ | refine zan rfl ?_ | refine zbf rfl rfl (by omega) ?_ | refine zbv rfl ?_) | refine zch ?_ | refine zci rfl ?_)
      exact ret_tmp2 rfl ⟨rfl, rfl⟩
    | true =>
      rw [if_pos ⟨he, rfl⟩]
      refine fn_of_run en226 fn226 rfl rfl rfl ?_
      repeat' (first | refine zck ?_ | refine zcp (by kernel_rfl) ?_ | refine zcm ?_ | (refine zap rfl ?_; first | refine zbx rfl ?_ | refine zaj rfl ?_ | refine zan rfl ?_ | refine zan rfl ?_ | refine zbf rfl rfl (by omega) ?_ | refine zbv rfl ?_) | refine zch ?_ | refine zcj rfl ?_)
      exact ret_tmp2 rfl ⟨rfl, rfl⟩
  · rw [if_neg (fun h => he h.1)]
    refine fn_of_run en226 fn226 rfl rfl rfl ?_
    repeat' (first | refine zck ?_ | refine zcp (by kernel_rfl) ?_ | (refine zap rfl ?_; first | refine zak rfl ?_ | refine zan rfl ?_ | refine zan rfl ?_ | refine zbe rfl rfl (by omega) ?_ | refine zbu rfl ?_) | refine zch ?_ | refine zci rfl ?_)
    exact ret_tmp2 rfl ⟨rfl, rfl⟩
abbrev strV (P : Pl) (r : Int) : Value := .agg (List.toArray [.int .i64 P.root, .int .i64 P.frm, .int .i64 P.nodes, .int .i64 r])
theorem on_tree (w0 : World) (p : Nat) (P : Pl) (r : Int) : FnE PP w0 [] 231 [onV p P r] [] (strV P r) [] := by
  refine fn_of_run en231 fn231 rfl rfl rfl ?_
  repeat (first | refine zck ?_ | refine zcl ?_ | refine zcm ?_ | refine zcn ?_)
  first | refine zcp (by kernel_rfl) ?_ | refine zcq PP_mixed (by kernel_rfl) (by kernel_rfl) ?_
  repeat' (refine zap rfl ?_; first | refine zaq (cs := [_, _, _, _, _]) rfl (fun tb => ?_) | refine zar (fun t2 => ?_))
  all_goals refine zch ?_
  all_goals repeat (first | refine zck ?_ | refine zcl ?_ | refine zcm ?_ | refine zcn ?_)
  refine run_share [0] rfl ?_
  repeat' (first | refine zcp (by kernel_rfl) ?_ | (refine zap rfl ?_; first | refine zcb rfl ?_ | refine zaa 0 rfl rfl rfl ?_ | refine zao rfl ?_ | refine zae 0 rfl rfl rfl rfl rfl rfl rfl ?_) | refine zch ?_)
  exact run_ret (leaves_nil (ends_take [] rfl (ends_one rfl (resOk_pt 0 rfl rfl rfl) ⟨rfl, rfl, rfl⟩)))
theorem on_heap (w0 : World) (p : Nat) (P : Pl) (r : Int) : FnE PP w0 [] 241 [onV p P r] [] (strV P r) [] := by
  refine fn_of_run en241 fn241 rfl rfl rfl ?_
  repeat (first | refine zck ?_ | refine zcl ?_ | refine zcm ?_ | refine zcn ?_)
  first | refine zcp (by kernel_rfl) ?_ | refine zcq PP_mixed (by kernel_rfl) (by kernel_rfl) ?_
  repeat' (refine zap rfl ?_; first | refine zaq (cs := [_, _, _, _, _]) rfl (fun tb => ?_) | refine zar (fun t2 => ?_))
  all_goals refine zch ?_
  all_goals repeat (first | refine zck ?_ | refine zcl ?_ | refine zcm ?_ | refine zcn ?_)
  refine run_share [0] rfl ?_
  repeat' (first | refine zcp (by kernel_rfl) ?_ | (refine zap rfl ?_; first | refine zcb rfl ?_ | refine zaa 0 rfl rfl rfl ?_ | refine zao rfl ?_ | refine zae 0 rfl rfl rfl rfl rfl rfl rfl ?_) | refine zch ?_)
  exact run_ret (leaves_nil (ends_take [] rfl (ends_one rfl (resOk_pt 0 rfl rfl rfl) ⟨rfl, rfl, rfl⟩)))
theorem on_array (w0 : World) (p : Nat) (P : Pl) (r : Int) : FnE PP w0 [] 215 [onV p P r] [] (strV P r) [] := by
  refine fn_of_run en215 fn215 rfl rfl rfl ?_
  repeat (first | refine zck ?_ | refine zcl ?_ | refine zcm ?_ | refine zcn ?_)
  first | refine zcp (by kernel_rfl) ?_ | refine zcq PP_mixed (by kernel_rfl) (by kernel_rfl) ?_
  repeat' (refine zap rfl ?_; first | refine zaq (cs := [_, _, _, _, _]) rfl (fun tb => ?_) | refine zar (fun t2 => ?_))
  all_goals refine zch ?_
  all_goals repeat (first | refine zck ?_ | refine zcl ?_ | refine zcm ?_ | refine zcn ?_)
  refine run_share [0] rfl ?_
  repeat' (first | refine zcp (by kernel_rfl) ?_ | (refine zap rfl ?_; first | refine zcb rfl ?_ | refine zaa 0 rfl rfl rfl ?_ | refine zao rfl ?_ | refine zae 0 rfl rfl rfl rfl rfl rfl rfl ?_) | refine zch ?_)
  exact run_ret (leaves_nil (ends_take [] rfl (ends_one rfl (resOk_pt 0 rfl rfl rfl) ⟨rfl, rfl, rfl⟩)))
theorem on_graph (w0 : World) (p : Nat) (P : Pl) (r : Int) : FnE PP w0 [] 249 [onV p P r] [] (strV P r) [] := by
  refine fn_of_run en249 fn249 rfl rfl rfl ?_
  repeat (first | refine zck ?_ | refine zcl ?_ | refine zcm ?_ | refine zcn ?_)
  first | refine zcp (by kernel_rfl) ?_ | refine zcq PP_mixed (by kernel_rfl) (by kernel_rfl) ?_
  repeat' (refine zap rfl ?_; first | refine zaq (cs := [_, _, _, _, _]) rfl (fun tb => ?_) | refine zar (fun t2 => ?_))
  all_goals refine zch ?_
  all_goals repeat (first | refine zck ?_ | refine zcl ?_ | refine zcm ?_ | refine zcn ?_)
  refine run_share [0] rfl ?_
  repeat' (first | refine zcp (by kernel_rfl) ?_ | (refine zap rfl ?_; first | refine zcb rfl ?_ | refine zaa 0 rfl rfl rfl ?_ | refine zao rfl ?_ | refine zae 0 rfl rfl rfl rfl rfl rfl rfl ?_) | refine zch ?_)
  exact run_ret (leaves_nil (ends_take [] rfl (ends_one rfl (resOk_pt 0 rfl rfl rfl) ⟨rfl, rfl, rfl⟩)))
theorem on_forest (w0 : World) (p : Nat) (P : Pl) (r : Int) : FnE PP w0 [] 261 [onV p P r] [] (strV P r) [] := by
  refine fn_of_run en261 fn261 rfl rfl rfl ?_
  repeat (first | refine zck ?_ | refine zcl ?_ | refine zcm ?_ | refine zcn ?_)
  first | refine zcp (by kernel_rfl) ?_ | refine zcq PP_mixed (by kernel_rfl) (by kernel_rfl) ?_
  repeat' (refine zap rfl ?_; first | refine zaq (cs := [_, _, _, _, _]) rfl (fun tb => ?_) | refine zar (fun t2 => ?_))
  all_goals refine zch ?_
  all_goals repeat (first | refine zck ?_ | refine zcl ?_ | refine zcm ?_ | refine zcn ?_)
  refine run_share [0] rfl ?_
  repeat' (first | refine zcp (by kernel_rfl) ?_ | (refine zap rfl ?_; first | refine zcb rfl ?_ | refine zaa 0 rfl rfl rfl ?_ | refine zao rfl ?_ | refine zae 0 rfl rfl rfl rfl rfl rfl rfl ?_) | refine zch ?_)
  exact run_ret (leaves_nil (ends_take [] rfl (ends_one rfl (resOk_pt 0 rfl rfl rfl) ⟨rfl, rfl, rfl⟩)))
theorem clo_cGet (w0 : World) (sh : Shared) (p : Nat) (P : Pl) (r : Int) (z : Value) (s s' : Sp) (v : Int) (hop : FnE PP w0 [] 43 [spP p, .int .i64 r] [SpaceA p s] (.int .i64 v) [SpaceA p s']) :
    FnE PP w0 sh 194 [onV p P r, z] [SpaceA p s] (encI2 ((v, 0))) [SpaceA p s'] := by
  refine fn_of_run en194 fn194 rfl rfl rfl ?_
  repeat (first | refine zck ?_ | refine zcl ?_ | refine zcm ?_ | refine zcn ?_)
  first | refine zcp (by kernel_rfl) ?_ | refine zcq PP_mixed (by kernel_rfl) (by kernel_rfl) ?_
  repeat' (refine zap rfl ?_; first | refine zaq (cs := [_, _, _, _, _]) rfl (fun tb => ?_) | refine zan rfl ?_)
  all_goals refine zch ?_
  all_goals repeat (first | refine zck ?_ | refine zcl ?_ | refine zcm ?_ | refine zcn ?_)
  refine run_share [1] rfl ?_
  repeat' (first | refine zcp (by kernel_rfl) ?_ | (refine zap rfl ?_; first | refine zan rfl ?_ | refine zaa 0 rfl rfl rfl ?_ | refine zah [0] hop rfl rfl rfl sub_nil rfl ?_ | refine zah [] (plain_spec w0 _) rfl rfl rfl sub_nil rfl ?_ | refine zao rfl ?_ | refine zan rfl ?_) | refine zch ?_)
  exact ret_tmp2 rfl ⟨rfl, rfl⟩
theorem clo_sPop (w0 : World) (sh : Shared) (p : Nat) (P : Pl) (r : Int) (z : Value) (s s' : Sp) (q : Int × Int) (hop : FnE PP w0 [] 47 [spP p, poolV P, .int .i64 r] [SpaceA p s] (encI2 q) [SpaceA p s']) :
    FnE PP w0 sh 200 [onV p P r, z] [SpaceA p s] (encI2 (q)) [SpaceA p s'] := by
  refine fn_of_run en200 fn200 rfl rfl rfl ?_
  repeat (first | refine zck ?_ | refine zcl ?_ | refine zcm ?_ | refine zcn ?_)
  first | refine zcp (by kernel_rfl) ?_ | refine zcq PP_mixed (by kernel_rfl) (by kernel_rfl) ?_
  repeat' (refine zap rfl ?_; first | refine zaq (cs := [_, _, _, _, _]) rfl (fun tb => ?_) | refine zan rfl ?_)
  all_goals refine zch ?_
  all_goals repeat (first | refine zck ?_ | refine zcl ?_ | refine zcm ?_ | refine zcn ?_)
  refine run_share [1] rfl ?_
  repeat' (first | refine zcp (by kernel_rfl) ?_ | (refine zap rfl ?_; first | refine zan rfl ?_ | refine zaa 0 rfl rfl rfl ?_ | refine zah [0] hop rfl rfl rfl sub_nil rfl ?_ | refine zao rfl ?_ | refine zan rfl ?_) | refine zch ?_)
  exact ret_tmp2 rfl ⟨rfl, rfl⟩
theorem clo_sTop (w0 : World) (sh : Shared) (p : Nat) (P : Pl) (r : Int) (z : Value) (s s' : Sp) (q : Int × Int) (hop : FnE PP w0 [] 48 [spP p, .int .i64 r] [SpaceA p s] (encI2 q) [SpaceA p s']) :
    FnE PP w0 sh 201 [onV p P r, z] [SpaceA p s] (encI2 (q)) [SpaceA p s'] := by
  refine fn_of_run en201 fn201 rfl rfl rfl ?_
  repeat (first | refine zck ?_ | refine zcl ?_ | refine zcm ?_ | refine zcn ?_)
  first | refine zcp (by kernel_rfl) ?_ | refine zcq PP_mixed (by kernel_rfl) (by kernel_rfl) ?_
  repeat' (refine zap rfl ?_; first | refine zaq (cs := [_, _, _, _, _]) rfl (fun tb => ?_) | refine zan rfl ?_)
  all_goals refine zch ?_
  all_goals repeat (first | refine zck ?_ | refine zcl ?_ | refine zcm ?_ | refine zcn ?_)
  refine run_share [1] rfl ?_
  repeat' (first | refine zcp (by kernel_rfl) ?_ | (refine zap rfl ?_; first | refine zan rfl ?_ | refine zaa 0 rfl rfl rfl ?_ | refine zah [0] hop rfl rfl rfl sub_nil rfl ?_ | refine zao rfl ?_ | refine zan rfl ?_) | refine zch ?_)
  exact ret_tmp2 rfl ⟨rfl, rfl⟩
theorem clo_sLen (w0 : World) (sh : Shared) (p : Nat) (P : Pl) (r : Int) (z : Value) (s s' : Sp) (v : Int) (hop : FnE PP w0 [] 49 [spP p, .int .i64 r] [SpaceA p s] (.int .i64 v) [SpaceA p s']) :
    FnE PP w0 sh 202 [onV p P r, z] [SpaceA p s] (encI2 ((v, 0))) [SpaceA p s'] := by
  refine fn_of_run en202 fn202 rfl rfl rfl ?_
  repeat (first | refine zck ?_ | refine zcl ?_ | refine zcm ?_ | refine zcn ?_)
  first | refine zcp (by kernel_rfl) ?_ | refine zcq PP_mixed (by kernel_rfl) (by kernel_rfl) ?_
  repeat' (refine zap rfl ?_; first | refine zaq (cs := [_, _, _, _, _]) rfl (fun tb => ?_) | refine zan rfl ?_)
  all_goals refine zch ?_
  all_goals repeat (first | refine zck ?_ | refine zcl ?_ | refine zcm ?_ | refine zcn ?_)
  refine run_share [1] rfl ?_
  repeat' (first | refine zcp (by kernel_rfl) ?_ | (refine zap rfl ?_; first | refine zan rfl ?_ | refine zaa 0 rfl rfl rfl ?_ | refine zah [0] hop rfl rfl rfl sub_nil rfl ?_ | refine zah [] (plain_spec w0 _) rfl rfl rfl sub_nil rfl ?_ | refine zao rfl ?_ | refine zan rfl ?_) | refine zch ?_)
  exact ret_tmp2 rfl ⟨rfl, rfl⟩
theorem clo_qTake (w0 : World) (sh : Shared) (p : Nat) (P : Pl) (r : Int) (z : Value) (s s' : Sp) (q : Int × Int) (hop : FnE PP w0 [] 51 [spP p, poolV P, .int .i64 r] [SpaceA p s] (encI2 q) [SpaceA p s']) :
    FnE PP w0 sh 204 [onV p P r, z] [SpaceA p s] (encI2 (q)) [SpaceA p s'] := by
  refine fn_of_run en204 fn204 rfl rfl rfl ?_
  repeat (first | refine zck ?_ | refine zcl ?_ | refine zcm ?_ | refine zcn ?_)
  first | refine zcp (by kernel_rfl) ?_ | refine zcq PP_mixed (by kernel_rfl) (by kernel_rfl) ?_
  repeat' (refine zap rfl ?_; first | refine zaq (cs := [_, _, _, _, _]) rfl (fun tb => ?_) | refine zan rfl ?_)
  all_goals refine zch ?_
  all_goals repeat (first | refine zck ?_ | refine zcl ?_ | refine zcm ?_ | refine zcn ?_)
  refine run_share [1] rfl ?_
  repeat' (first | refine zcp (by kernel_rfl) ?_ | (refine zap rfl ?_; first | refine zan rfl ?_ | refine zaa 0 rfl rfl rfl ?_ | refine zah [0] hop rfl rfl rfl sub_nil rfl ?_ | refine zao rfl ?_ | refine zan rfl ?_) | refine zch ?_)
  exact ret_tmp2 rfl ⟨rfl, rfl⟩
theorem clo_qFirst (w0 : World) (sh : Shared) (p : Nat) (P : Pl) (r : Int) (z : Value) (s s' : Sp) (q : Int × Int) (hop : FnE PP w0 [] 52 [spP p, .int .i64 r] [SpaceA p s] (encI2 q) [SpaceA p s']) :
    FnE PP w0 sh 205 [onV p P r, z] [SpaceA p s] (encI2 (q)) [SpaceA p s'] := by
  refine fn_of_run en205 fn205 rfl rfl rfl ?_
  repeat (first | refine zck ?_ | refine zcl ?_ | refine zcm ?_ | refine zcn ?_)
  first | refine zcp (by kernel_rfl) ?_ | refine zcq PP_mixed (by kernel_rfl) (by kernel_rfl) ?_
  repeat' (refine zap rfl ?_; first | refine zaq (cs := [_, _, _, _, _]) rfl (fun tb => ?_) | refine zan rfl ?_)
  all_goals refine zch ?_
  all_goals repeat (first | refine zck ?_ | refine zcl ?_ | refine zcm ?_ | refine zcn ?_)
  refine run_share [1] rfl ?_
  repeat' (first | refine zcp (by kernel_rfl) ?_ | (refine zap rfl ?_; first | refine zan rfl ?_ | refine zaa 0 rfl rfl rfl ?_ | refine zah [0] hop rfl rfl rfl sub_nil rfl ?_ | refine zao rfl ?_ | refine zan rfl ?_) | refine zch ?_)
  exact ret_tmp2 rfl ⟨rfl, rfl⟩
theorem clo_qLen (w0 : World) (sh : Shared) (p : Nat) (P : Pl) (r : Int) (z : Value) (s s' : Sp) (v : Int) (hop : FnE PP w0 [] 53 [spP p, .int .i64 r] [SpaceA p s] (.int .i64 v) [SpaceA p s']) :
    FnE PP w0 sh 206 [onV p P r, z] [SpaceA p s] (encI2 ((v, 0))) [SpaceA p s'] := by
  refine fn_of_run en206 fn206 rfl rfl rfl ?_
  repeat (first | refine zck ?_ | refine zcl ?_ | refine zcm ?_ | refine zcn ?_)
  first | refine zcp (by kernel_rfl) ?_ | refine zcq PP_mixed (by kernel_rfl) (by kernel_rfl) ?_
  repeat' (refine zap rfl ?_; first | refine zaq (cs := [_, _, _, _, _]) rfl (fun tb => ?_) | refine zan rfl ?_)
  all_goals refine zch ?_
  all_goals repeat (first | refine zck ?_ | refine zcl ?_ | refine zcm ?_ | refine zcn ?_)
  refine run_share [1] rfl ?_
  repeat' (first | refine zcp (by kernel_rfl) ?_ | (refine zap rfl ?_; first | refine zan rfl ?_ | refine zaa 0 rfl rfl rfl ?_ | refine zah [0] hop rfl rfl rfl sub_nil rfl ?_ | refine zah [] (plain_spec w0 _) rfl rfl rfl sub_nil rfl ?_ | refine zao rfl ?_ | refine zan rfl ?_) | refine zch ?_)
  exact ret_tmp2 rfl ⟨rfl, rfl⟩
theorem clo_dPopL (w0 : World) (sh : Shared) (p : Nat) (P : Pl) (r : Int) (z : Value) (s s' : Sp) (q : Int × Int) (hop : FnE PP w0 [] 55 [spP p, poolV P, .int .i64 r, .bool false] [SpaceA p s] (encI2 q) [SpaceA p s']) :
    FnE PP w0 sh 209 [onV p P r, z] [SpaceA p s] (encI2 (q)) [SpaceA p s'] := by
  refine fn_of_run en209 fn209 rfl rfl rfl ?_
  repeat (first | refine zck ?_ | refine zcl ?_ | refine zcm ?_ | refine zcn ?_)
  first | refine zcp (by kernel_rfl) ?_ | refine zcq PP_mixed (by kernel_rfl) (by kernel_rfl) ?_
  repeat' (refine zap rfl ?_; first | refine zaq (cs := [_, _, _, _, _]) rfl (fun tb => ?_) | refine zan rfl ?_)
  all_goals refine zch ?_
  all_goals repeat (first | refine zck ?_ | refine zcl ?_ | refine zcm ?_ | refine zcn ?_)
  refine run_share [1] rfl ?_
  repeat' (first | refine zcp (by kernel_rfl) ?_ | (refine zap rfl ?_; first | refine zan rfl ?_ | refine zaa 0 rfl rfl rfl ?_ | refine zah [0] hop rfl rfl rfl sub_nil rfl ?_ | refine zao rfl ?_ | refine zan rfl ?_) | refine zch ?_)
  exact ret_tmp2 rfl ⟨rfl, rfl⟩
theorem clo_dPopR (w0 : World) (sh : Shared) (p : Nat) (P : Pl) (r : Int) (z : Value) (s s' : Sp) (q : Int × Int) (hop : FnE PP w0 [] 55 [spP p, poolV P, .int .i64 r, .bool true] [SpaceA p s] (encI2 q) [SpaceA p s']) :
    FnE PP w0 sh 210 [onV p P r, z] [SpaceA p s] (encI2 (q)) [SpaceA p s'] := by
  refine fn_of_run en210 fn210 rfl rfl rfl ?_
  repeat (first | refine zck ?_ | refine zcl ?_ | refine zcm ?_ | refine zcn ?_)
  first | refine zcp (by kernel_rfl) ?_ | refine zcq PP_mixed (by kernel_rfl) (by kernel_rfl) ?_
  repeat' (refine zap rfl ?_; first | refine zaq (cs := [_, _, _, _, _]) rfl (fun tb => ?_) | refine zan rfl ?_)
  all_goals refine zch ?_
  all_goals repeat (first | refine zck ?_ | refine zcl ?_ | refine zcm ?_ | refine zcn ?_)
  refine run_share [1] rfl ?_
  repeat' (first | refine zcp (by kernel_rfl) ?_ | (refine zap rfl ?_; first | refine zan rfl ?_ | refine zaa 0 rfl rfl rfl ?_ | refine zah [0] hop rfl rfl rfl sub_nil rfl ?_ | refine zao rfl ?_ | refine zan rfl ?_) | refine zch ?_)
  exact ret_tmp2 rfl ⟨rfl, rfl⟩
theorem clo_dLeft (w0 : World) (sh : Shared) (p : Nat) (P : Pl) (r : Int) (z : Value) (s s' : Sp) (q : Int × Int) (hop : FnE PP w0 [] 56 [spP p, .int .i64 r, .bool false] [SpaceA p s] (encI2 q) [SpaceA p s']) :
    FnE PP w0 sh 211 [onV p P r, z] [SpaceA p s] (encI2 (q)) [SpaceA p s'] := by
  refine fn_of_run en211 fn211 rfl rfl rfl ?_
  repeat (first | refine zck ?_ | refine zcl ?_ | refine zcm ?_ | refine zcn ?_)
  first | refine zcp (by kernel_rfl) ?_ | refine zcq PP_mixed (by kernel_rfl) (by kernel_rfl) ?_
  repeat' (refine zap rfl ?_; first | refine zaq (cs := [_, _, _, _, _]) rfl (fun tb => ?_) | refine zan rfl ?_)
  all_goals refine zch ?_
  all_goals repeat (first | refine zck ?_ | refine zcl ?_ | refine zcm ?_ | refine zcn ?_)
  refine run_share [1] rfl ?_
  repeat' (first | refine zcp (by kernel_rfl) ?_ | (refine zap rfl ?_; first | refine zan rfl ?_ | refine zaa 0 rfl rfl rfl ?_ | refine zah [0] hop rfl rfl rfl sub_nil rfl ?_ | refine zao rfl ?_ | refine zan rfl ?_) | refine zch ?_)
  exact ret_tmp2 rfl ⟨rfl, rfl⟩
theorem clo_dRight (w0 : World) (sh : Shared) (p : Nat) (P : Pl) (r : Int) (z : Value) (s s' : Sp) (q : Int × Int) (hop : FnE PP w0 [] 56 [spP p, .int .i64 r, .bool true] [SpaceA p s] (encI2 q) [SpaceA p s']) :
    FnE PP w0 sh 212 [onV p P r, z] [SpaceA p s] (encI2 (q)) [SpaceA p s'] := by
  refine fn_of_run en212 fn212 rfl rfl rfl ?_
  repeat (first | refine zck ?_ | refine zcl ?_ | refine zcm ?_ | refine zcn ?_)
  first | refine zcp (by kernel_rfl) ?_ | refine zcq PP_mixed (by kernel_rfl) (by kernel_rfl) ?_
  repeat' (refine zap rfl ?_; first | refine zaq (cs := [_, _, _, _, _]) rfl (fun tb => ?_) | refine zan rfl ?_)
  all_goals refine zch ?_
  all_goals repeat (first | refine zck ?_ | refine zcl ?_ | refine zcm ?_ | refine zcn ?_)
  refine run_share [1] rfl ?_
  repeat' (first | refine zcp (by kernel_rfl) ?_ | (refine zap rfl ?_; first | refine zan rfl ?_ | refine zaa 0 rfl rfl rfl ?_ | refine zah [0] hop rfl rfl rfl sub_nil rfl ?_ | refine zao rfl ?_ | refine zan rfl ?_) | refine zch ?_)
  exact ret_tmp2 rfl ⟨rfl, rfl⟩
theorem clo_dLen (w0 : World) (sh : Shared) (p : Nat) (P : Pl) (r : Int) (z : Value) (s s' : Sp) (v : Int) (hop : FnE PP w0 [] 57 [spP p, .int .i64 r] [SpaceA p s] (.int .i64 v) [SpaceA p s']) :
    FnE PP w0 sh 213 [onV p P r, z] [SpaceA p s] (encI2 ((v, 0))) [SpaceA p s'] := by
  refine fn_of_run en213 fn213 rfl rfl rfl ?_
  repeat (first | refine zck ?_ | refine zcl ?_ | refine zcm ?_ | refine zcn ?_)
  first | refine zcp (by kernel_rfl) ?_ | refine zcq PP_mixed (by kernel_rfl) (by kernel_rfl) ?_
  repeat' (refine zap rfl ?_; first | refine zaq (cs := [_, _, _, _, _]) rfl (fun tb => ?_) | refine zan rfl ?_)
  all_goals refine zch ?_
  all_goals repeat (first | refine zck ?_ | refine zcl ?_ | refine zcm ?_ | refine zcn ?_)
  refine run_share [1] rfl ?_
  repeat' (first | refine zcp (by kernel_rfl) ?_ | (refine zap rfl ?_; first | refine zan rfl ?_ | refine zaa 0 rfl rfl rfl ?_ | refine zah [0] hop rfl rfl rfl sub_nil rfl ?_ | refine zah [] (plain_spec w0 _) rfl rfl rfl sub_nil rfl ?_ | refine zao rfl ?_ | refine zan rfl ?_) | refine zch ?_)
  exact ret_tmp2 rfl ⟨rfl, rfl⟩
theorem clo_aPop (w0 : World) (sh : Shared) (p : Nat) (P : Pl) (r : Int) (z : Value) (s s' : Sp) (q : Int × Int) (hop : FnE PP w0 [] 80 [strV P r, spP p] [SpaceA p s] (encI2 q) [SpaceA p s']) :
    FnE PP w0 sh 216 [onV p P r, z] [SpaceA p s] (encI2 (q)) [SpaceA p s'] := by
  refine fn_of_run en216 fn216 rfl rfl rfl ?_
  repeat (first | refine zck ?_ | refine zcl ?_ | refine zcm ?_ | refine zcn ?_)
  first | refine zcp (by kernel_rfl) ?_ | refine zcq PP_mixed (by kernel_rfl) (by kernel_rfl) ?_
  repeat' (refine zap rfl ?_; first | refine zaq (cs := [_, _, _, _, _]) rfl (fun tb => ?_) | refine zan rfl ?_)
  all_goals refine zch ?_
  all_goals repeat (first | refine zck ?_ | refine zcl ?_ | refine zcm ?_ | refine zcn ?_)
  refine run_share [1] rfl ?_
  repeat' (first | refine zcq PP_mixed (by kernel_rfl) (by kernel_rfl) ?_ | (refine zap rfl ?_; first | refine zan rfl ?_ | refine zaa 0 rfl rfl rfl ?_ | refine zah [0] hop rfl rfl rfl sub_nil rfl ?_ | refine zah [] (on_array w0 p P r) rfl rfl rfl sub_nil rfl ?_ | refine zao rfl ?_ | refine zan rfl ?_) | refine zch ?_)
  exact ret_tmp2 rfl ⟨rfl, rfl⟩
theorem clo_aLen (w0 : World) (sh : Shared) (p : Nat) (P : Pl) (r : Int) (z : Value) (s s' : Sp) (v : Int) (hop : FnE PP w0 [] 84 [strV P r, spP p] [SpaceA p s] (.int .i64 v) [SpaceA p s']) :
    FnE PP w0 sh 220 [onV p P r, z] [SpaceA p s] (encI2 ((v, 0))) [SpaceA p s'] := by
  refine fn_of_run en220 fn220 rfl rfl rfl ?_
  repeat (first | refine zck ?_ | refine zcl ?_ | refine zcm ?_ | refine zcn ?_)
  first | refine zcp (by kernel_rfl) ?_ | refine zcq PP_mixed (by kernel_rfl) (by kernel_rfl) ?_
  repeat' (refine zap rfl ?_; first | refine zaq (cs := [_, _, _, _, _]) rfl (fun tb => ?_) | refine zan rfl ?_)
  all_goals refine zch ?_
  all_goals repeat (first | refine zck ?_ | refine zcl ?_ | refine zcm ?_ | refine zcn ?_)
  refine run_share [1] rfl ?_
  repeat' (first | refine zcq PP_mixed (by kernel_rfl) (by kernel_rfl) ?_ | (refine zap rfl ?_; first | refine zan rfl ?_ | refine zaa 0 rfl rfl rfl ?_ | refine zah [0] hop rfl rfl rfl sub_nil rfl ?_ | refine zah [] (on_array w0 p P r) rfl rfl rfl sub_nil rfl ?_ | refine zah [] (plain_spec w0 _) rfl rfl rfl sub_nil rfl ?_ | refine zao rfl ?_ | refine zan rfl ?_) | refine zch ?_)
  exact ret_tmp2 rfl ⟨rfl, rfl⟩
theorem clo_mLen (w0 : World) (sh : Shared) (p : Nat) (P : Pl) (r : Int) (z : Value) (s s' : Sp) (v : Int) (hop : FnE PP w0 [] 64 [trV ⟨P, r, hsI, fun _ => true⟩, spP p] [SpaceA p s] (.int .i64 v) [SpaceA p s']) :
    FnE PP w0 sh 229 [onV p P r, z] [SpaceA p s] (encI2 ((v, 0))) [SpaceA p s'] := by
  refine fn_of_run en229 fn229 rfl rfl rfl ?_
  repeat (first | refine zck ?_ | refine zcl ?_ | refine zcm ?_ | refine zcn ?_)
  first | refine zcp (by kernel_rfl) ?_ | refine zcq PP_mixed (by kernel_rfl) (by kernel_rfl) ?_
  repeat' (refine zap rfl ?_; first | refine zaq (cs := [_, _, _, _, _]) rfl (fun tb => ?_) | refine zan rfl ?_)
  all_goals refine zch ?_
  all_goals repeat (first | refine zck ?_ | refine zcl ?_ | refine zcm ?_ | refine zcn ?_)
  refine run_share [1] rfl ?_
  repeat' (first | refine zcq PP_mixed (by kernel_rfl) (by kernel_rfl) ?_ | (refine zap rfl ?_; first | refine zan rfl ?_ | refine zaa 0 rfl rfl rfl ?_ | refine zah [0] hop rfl rfl rfl sub_nil rfl ?_ | refine zah [] (onTrie_spec w0 p P r) rfl rfl rfl sub_nil rfl ?_ | refine zah [] (plain_spec w0 _) rfl rfl rfl sub_nil rfl ?_ | refine zao rfl ?_ | refine zan rfl ?_) | refine zch ?_)
  exact ret_tmp2 rfl ⟨rfl, rfl⟩
theorem clo_tLen (w0 : World) (sh : Shared) (p : Nat) (P : Pl) (r : Int) (z : Value) (s s' : Sp) (v : Int) (hop : FnE PP w0 [] 72 [strV P r, spP p] [SpaceA p s] (.int .i64 v) [SpaceA p s']) :
    FnE PP w0 sh 239 [onV p P r, z] [SpaceA p s] (encI2 ((v, 0))) [SpaceA p s'] := by
  refine fn_of_run en239 fn239 rfl rfl rfl ?_
  repeat (first | refine zck ?_ | refine zcl ?_ | refine zcm ?_ | refine zcn ?_)
  first | refine zcp (by kernel_rfl) ?_ | refine zcq PP_mixed (by kernel_rfl) (by kernel_rfl) ?_
  repeat' (refine zap rfl ?_; first | refine zaq (cs := [_, _, _, _, _]) rfl (fun tb => ?_) | refine zan rfl ?_)
  all_goals refine zch ?_
  all_goals repeat (first | refine zck ?_ | refine zcl ?_ | refine zcm ?_ | refine zcn ?_)
  refine run_share [1] rfl ?_
  repeat' (first | refine zcq PP_mixed (by kernel_rfl) (by kernel_rfl) ?_ | (refine zap rfl ?_; first | refine zan rfl ?_ | refine zaa 0 rfl rfl rfl ?_ | refine zah [0] hop rfl rfl rfl sub_nil rfl ?_ | refine zah [] (on_tree w0 p P r) rfl rfl rfl sub_nil rfl ?_ | refine zah [] (plain_spec w0 _) rfl rfl rfl sub_nil rfl ?_ | refine zao rfl ?_ | refine zan rfl ?_) | refine zch ?_)
  exact ret_tmp2 rfl ⟨rfl, rfl⟩
theorem clo_hPop (w0 : World) (sh : Shared) (p : Nat) (P : Pl) (r : Int) (z : Value) (s s' : Sp) (u v e : Int) (hop : FnE PP w0 [] 74 [strV P r, spP p] [SpaceA p s] (.tuple #[.int .i64 u, .int .i64 v, .int .i64 e]) [SpaceA p s']) :
    FnE PP w0 sh 242 [onV p P r, z] [SpaceA p s] (encI2 ((v, e))) [SpaceA p s'] := by
  refine fn_of_run en242 fn242 rfl rfl rfl ?_
  repeat (first | refine zck ?_ | refine zcl ?_ | refine zcm ?_ | refine zcn ?_)
  first | refine zcp (by kernel_rfl) ?_ | refine zcq PP_mixed (by kernel_rfl) (by kernel_rfl) ?_
  repeat' (refine zap rfl ?_; first | refine zaq (cs := [_, _, _, _, _]) rfl (fun tb => ?_) | refine zan rfl ?_)
  all_goals refine zch ?_
  all_goals repeat (first | refine zck ?_ | refine zcl ?_ | refine zcm ?_ | refine zcn ?_)
  refine run_share [1] rfl ?_
  repeat' (first | refine zck ?_ | refine zcp (by kernel_rfl) ?_ | refine zcq PP_mixed (by kernel_rfl) (by kernel_rfl) ?_ | (refine zap rfl ?_; first | refine zan rfl ?_ | refine zan rfl ?_ | refine zaa 0 rfl rfl rfl ?_ | refine zah [0] hop rfl rfl rfl sub_nil rfl ?_ | refine zah [] (on_heap w0 p P r) rfl rfl rfl sub_nil rfl ?_ | refine zao rfl ?_ | refine zan rfl ?_) | refine zch ?_)
  exact ret_tmp2 rfl ⟨rfl, rfl⟩
theorem clo_hMin (w0 : World) (sh : Shared) (p : Nat) (P : Pl) (r : Int) (z : Value) (s s' : Sp) (u v e : Int) (hop : FnE PP w0 [] 75 [strV P r, spP p] [SpaceA p s] (.tuple #[.int .i64 u, .int .i64 v, .int .i64 e]) [SpaceA p s']) :
    FnE PP w0 sh 243 [onV p P r, z] [SpaceA p s] (encI2 ((v, e))) [SpaceA p s'] := by
  refine fn_of_run en243 fn243 rfl rfl rfl ?_
  repeat (first | refine zck ?_ | refine zcl ?_ | refine zcm ?_ | refine zcn ?_)
  first | refine zcp (by kernel_rfl) ?_ | refine zcq PP_mixed (by kernel_rfl) (by kernel_rfl) ?_
  repeat' (refine zap rfl ?_; first | refine zaq (cs := [_, _, _, _, _]) rfl (fun tb => ?_) | refine zan rfl ?_)
  all_goals refine zch ?_
  all_goals repeat (first | refine zck ?_ | refine zcl ?_ | refine zcm ?_ | refine zcn ?_)
  refine run_share [1] rfl ?_
  repeat' (first | refine zck ?_ | refine zcp (by kernel_rfl) ?_ | refine zcq PP_mixed (by kernel_rfl) (by kernel_rfl) ?_ | (refine zap rfl ?_; first | refine zan rfl ?_ | refine zan rfl ?_ | refine zaa 0 rfl rfl rfl ?_ | refine zah [0] hop rfl rfl rfl sub_nil rfl ?_ | refine zah [] (on_heap w0 p P r) rfl rfl rfl sub_nil rfl ?_ | refine zao rfl ?_ | refine zan rfl ?_) | refine zch ?_)
  exact ret_tmp2 rfl ⟨rfl, rfl⟩
theorem clo_hLeast (w0 : World) (sh : Shared) (p : Nat) (P : Pl) (r : Int) (z : Value) (s s' : Sp) (u v e : Int) (hop : FnE PP w0 [] 75 [strV P r, spP p] [SpaceA p s] (.tuple #[.int .i64 u, .int .i64 v, .int .i64 e]) [SpaceA p s']) :
    FnE PP w0 sh 244 [onV p P r, z] [SpaceA p s] (encI2 ((u, e))) [SpaceA p s'] := by
  refine fn_of_run en244 fn244 rfl rfl rfl ?_
  repeat (first | refine zck ?_ | refine zcl ?_ | refine zcm ?_ | refine zcn ?_)
  first | refine zcp (by kernel_rfl) ?_ | refine zcq PP_mixed (by kernel_rfl) (by kernel_rfl) ?_
  repeat' (refine zap rfl ?_; first | refine zaq (cs := [_, _, _, _, _]) rfl (fun tb => ?_) | refine zan rfl ?_)
  all_goals refine zch ?_
  all_goals repeat (first | refine zck ?_ | refine zcl ?_ | refine zcm ?_ | refine zcn ?_)
  refine run_share [1] rfl ?_
  repeat' (first | refine zck ?_ | refine zcp (by kernel_rfl) ?_ | refine zcq PP_mixed (by kernel_rfl) (by kernel_rfl) ?_ | (refine zap rfl ?_; first | refine zan rfl ?_ | refine zan rfl ?_ | refine zaa 0 rfl rfl rfl ?_ | refine zah [0] hop rfl rfl rfl sub_nil rfl ?_ | refine zah [] (on_heap w0 p P r) rfl rfl rfl sub_nil rfl ?_ | refine zao rfl ?_ | refine zan rfl ?_) | refine zch ?_)
  exact ret_tmp2 rfl ⟨rfl, rfl⟩
theorem clo_hLen (w0 : World) (sh : Shared) (p : Nat) (P : Pl) (r : Int) (z : Value) (s s' : Sp) (v : Int) (hop : FnE PP w0 [] 78 [strV P r, spP p] [SpaceA p s] (.int .i64 v) [SpaceA p s']) :
    FnE PP w0 sh 247 [onV p P r, z] [SpaceA p s] (encI2 ((v, 0))) [SpaceA p s'] := by
  refine fn_of_run en247 fn247 rfl rfl rfl ?_
  repeat (first | refine zck ?_ | refine zcl ?_ | refine zcm ?_ | refine zcn ?_)
  first | refine zcp (by kernel_rfl) ?_ | refine zcq PP_mixed (by kernel_rfl) (by kernel_rfl) ?_
  repeat' (refine zap rfl ?_; first | refine zaq (cs := [_, _, _, _, _]) rfl (fun tb => ?_) | refine zan rfl ?_)
  all_goals refine zch ?_
  all_goals repeat (first | refine zck ?_ | refine zcl ?_ | refine zcm ?_ | refine zcn ?_)
  refine run_share [1] rfl ?_
  repeat' (first | refine zcq PP_mixed (by kernel_rfl) (by kernel_rfl) ?_ | (refine zap rfl ?_; first | refine zan rfl ?_ | refine zaa 0 rfl rfl rfl ?_ | refine zah [0] hop rfl rfl rfl sub_nil rfl ?_ | refine zah [] (on_heap w0 p P r) rfl rfl rfl sub_nil rfl ?_ | refine zah [] (plain_spec w0 _) rfl rfl rfl sub_nil rfl ?_ | refine zao rfl ?_ | refine zan rfl ?_) | refine zch ?_)
  exact ret_tmp2 rfl ⟨rfl, rfl⟩
theorem clo_gVerts (w0 : World) (sh : Shared) (p : Nat) (P : Pl) (r : Int) (z : Value) (s s' : Sp) (m : Nat) (e : Int) (hop : Vc.Fn PP w0 [] 94 [strV P r, spP p] [SpaceA p s] (fun v Γ => ∃ ad n cap, v = .tuple #[.slice ad n cap, .int .i64 e] ∧ n = m ∧ Γ = [SpaceA p s'])) :
    FnE PP w0 sh 258 [onV p P r, z] [SpaceA p s] (encI2 (((m : Int), e))) [SpaceA p s'] := by
  refine fn_of_run en258 fn258 rfl rfl rfl ?_
  repeat (first | refine zck ?_ | refine zcl ?_ | refine zcm ?_ | refine zcn ?_)
  first | refine zcp (by kernel_rfl) ?_ | refine zcq PP_mixed (by kernel_rfl) (by kernel_rfl) ?_
  repeat' (refine zap rfl ?_; first | refine zaq (cs := [_, _, _, _, _]) rfl (fun tb => ?_) | refine zan rfl ?_)
  all_goals refine zch ?_
  all_goals repeat (first | refine zck ?_ | refine zcl ?_ | refine zcm ?_ | refine zcn ?_)
  refine run_share [1] rfl ?_
  repeat' (first | refine zck ?_ | refine zcp (by kernel_rfl) ?_ | refine zcq PP_mixed (by kernel_rfl) (by kernel_rfl) ?_ | (refine zap rfl ?_; first | refine zan rfl ?_ | refine zan rfl ?_ | refine zaa 0 rfl rfl rfl ?_ | refine zai [0] hop rfl rfl rfl sub_nil (fun | _, _, ⟨ad, _, cap, rfl, rfl, rfl⟩ => ?_) | refine zah [] (on_graph w0 p P r) rfl rfl rfl sub_nil rfl ?_ | refine zce rfl ?_ | refine zao rfl ?_ | refine zan rfl ?_) | refine zch ?_)
  exact ret_tmp2 rfl ⟨rfl, rfl⟩
theorem clo_gEdges (w0 : World) (sh : Shared) (p : Nat) (P : Pl) (r : Int) (z : Value) (s s' : Sp) (v : Int) (hop : FnE PP w0 [] 95 [strV P r, spP p] [SpaceA p s] (.int .i64 v) [SpaceA p s']) :
    FnE PP w0 sh 259 [onV p P r, z] [SpaceA p s] (encI2 ((v, 0))) [SpaceA p s'] := by
  refine fn_of_run en259 fn259 rfl rfl rfl ?_
  repeat (first | refine zck ?_ | refine zcl ?_ | refine zcm ?_ | refine zcn ?_)
  first | refine zcp (by kernel_rfl) ?_ | refine zcq PP_mixed (by kernel_rfl) (by kernel_rfl) ?_
  repeat' (refine zap rfl ?_; first | refine zaq (cs := [_, _, _, _, _]) rfl (fun tb => ?_) | refine zan rfl ?_)
  all_goals refine zch ?_
  all_goals repeat (first | refine zck ?_ | refine zcl ?_ | refine zcm ?_ | refine zcn ?_)
  refine run_share [1] rfl ?_
  repeat' (first | refine zcq PP_mixed (by kernel_rfl) (by kernel_rfl) ?_ | (refine zap rfl ?_; first | refine zan rfl ?_ | refine zaa 0 rfl rfl rfl ?_ | refine zah [0] hop rfl rfl rfl sub_nil rfl ?_ | refine zah [] (on_graph w0 p P r) rfl rfl rfl sub_nil rfl ?_ | refine zah [] (plain_spec w0 _) rfl rfl rfl sub_nil rfl ?_ | refine zao rfl ?_ | refine zan rfl ?_) | refine zch ?_)
  exact ret_tmp2 rfl ⟨rfl, rfl⟩
theorem clo_fMake (w0 : World) (sh : Shared) (p : Nat) (P : Pl) (r : Int) (z : Value) (s s' : Sp) (q : Int × Int) (hop : FnE PP w0 [] 96 [strV P r, spP p] [SpaceA p s] (encI2 q) [SpaceA p s']) :
    FnE PP w0 sh 260 [onV p P r, z] [SpaceA p s] (encI2 (q)) [SpaceA p s'] := by
  refine fn_of_run en260 fn260 rfl rfl rfl ?_
  repeat (first | refine zck ?_ | refine zcl ?_ | refine zcm ?_ | refine zcn ?_)
  first | refine zcp (by kernel_rfl) ?_ | refine zcq PP_mixed (by kernel_rfl) (by kernel_rfl) ?_
  repeat' (refine zap rfl ?_; first | refine zaq (cs := [_, _, _, _, _]) rfl (fun tb => ?_) | refine zan rfl ?_)
  all_goals refine zch ?_
  all_goals repeat (first | refine zck ?_ | refine zcl ?_ | refine zcm ?_ | refine zcn ?_)
  refine run_share [1] rfl ?_
  repeat' (first | refine zcq PP_mixed (by kernel_rfl) (by kernel_rfl) ?_ | (refine zap rfl ?_; first | refine zan rfl ?_ | refine zaa 0 rfl rfl rfl ?_ | refine zah [0] hop rfl rfl rfl sub_nil rfl ?_ | refine zah [] (on_forest w0 p P r) rfl rfl rfl sub_nil rfl ?_ | refine zao rfl ?_ | refine zan rfl ?_) | refine zch ?_)
  exact ret_tmp2 rfl ⟨rfl, rfl⟩
theorem clo_fUndo (w0 : World) (sh : Shared) (p : Nat) (P : Pl) (r : Int) (z : Value) (s s' : Sp) (b : Bool) (e : Int) (hop : FnE PP w0 [] 99 [strV P r, spP p] [SpaceA p s] (.tuple #[.bool b, .int .i64 e]) [SpaceA p s']) :
    FnE PP w0 sh 264 [onV p P r, z] [SpaceA p s] (encI2 (if e = 0 ∧ b = true then (1, e) else (0, e))) [SpaceA p s'] := by
  refine fn_of_run en264 fn264 rfl rfl rfl ?_
  repeat (first | refine zck ?_ | refine zcl ?_ | refine zcm ?_ | refine zcn ?_)
  first | refine zcp (by kernel_rfl) ?_ | refine zcq PP_mixed (by kernel_rfl) (by kernel_rfl) ?_
  repeat' (refine zap rfl ?_; first | refine zaq (cs := [_, _, _, _, _]) rfl (fun tb => ?_) | refine zan rfl ?_)
  all_goals refine zch ?_
  all_goals repeat (first | refine zck ?_ | refine zcl ?_ | refine zcm ?_ | refine zcn ?_)
  refine run_share [1] rfl ?_
  repeat' (first | refine zcq PP_mixed (by kernel_rfl) (by kernel_rfl) ?_ | (refine zap rfl ?_; first | refine zan rfl ?_ | refine zaa 0 rfl rfl rfl ?_ | refine zah [0] hop rfl rfl rfl sub_nil rfl ?_ | refine zah [] (on_forest w0 p P r) rfl rfl rfl sub_nil rfl ?_ | refine zah [] (truthE_spec w0 _ _) rfl rfl rfl sub_nil rfl ?_ | refine zao rfl ?_ | refine zan rfl ?_) | refine zch ?_)
  exact ret_tmp2 rfl ⟨rfl, rfl⟩
theorem clo_fSets (w0 : World) (sh : Shared) (p : Nat) (P : Pl) (r : Int) (z : Value) (s s' : Sp) (v : Int) (hop : FnE PP w0 [] 102 [strV P r, spP p] [SpaceA p s] (.int .i64 v) [SpaceA p s']) :
    FnE PP w0 sh 267 [onV p P r, z] [SpaceA p s] (encI2 ((v, 0))) [SpaceA p s'] := by
  refine fn_of_run en267 fn267 rfl rfl rfl ?_
  repeat (first | refine zck ?_ | refine zcl ?_ | refine zcm ?_ | refine zcn ?_)
  first | refine zcp (by kernel_rfl) ?_ | refine zcq PP_mixed (by kernel_rfl) (by kernel_rfl) ?_
  repeat' (refine zap rfl ?_; first | refine zaq (cs := [_, _, _, _, _]) rfl (fun tb => ?_) | refine zan rfl ?_)
  all_goals refine zch ?_
  all_goals repeat (first | refine zck ?_ | refine zcl ?_ | refine zcm ?_ | refine zcn ?_)
  refine run_share [1] rfl ?_
  repeat' (first | refine zcq PP_mixed (by kernel_rfl) (by kernel_rfl) ?_ | (refine zap rfl ?_; first | refine zan rfl ?_ | refine zaa 0 rfl rfl rfl ?_ | refine zah [0] hop rfl rfl rfl sub_nil rfl ?_ | refine zah [] (on_forest w0 p P r) rfl rfl rfl sub_nil rfl ?_ | refine zah [] (plain_spec w0 _) rfl rfl rfl sub_nil rfl ?_ | refine zao rfl ?_ | refine zan rfl ?_) | refine zch ?_)
  exact ret_tmp2 rfl ⟨rfl, rfl⟩
end Go.Proofs.YtgdhcgnmffgkiaaGreatDoor

namespace Go.Proofs.YtgdhcgnmffgkiaaGreatDoor
open Go.Vc Sim
set_option maxHeartbeats 4000000
theorem doE (w0 : World) (sh : Shared) (p : Nat) (P : Pl) (k r : Int) (name : ByteArray) (a : Option Addr) (len c : Nat) (m : MRow) (hm : ((msK k).find? fun m => decide (m.1.1 = name)) = some m) (hk : ctName k ≠ bs []) (ha : m.1.2.1 = (len : Int)) (s s' : Sp) (q : Int × Int)
    (hf : FnE PP w0 sh m.2 [onV p P r, .slice a len c] [SpaceA p s] (encI2 q) [SpaceA p s']) :
    FnE PP w0 sh 13 [spP p, poolV P, .agg (List.toArray [.int .i64 k, .int .i64 r]), .string name, .slice a len c] [SpaceA p s] (encI2 (if q.2 ≠ 0 then 0 else q.1, q.2)) [SpaceA p s'] := by
  obtain ⟨v, e⟩ := q
  have hfm := findM_spec w0 k name
  rw [hm] at hfm
  unfold findMV at hfm
  have hnm := name_spec w0 k
  obtain ⟨⟨mn, ma, mw⟩, mf⟩ := m
  dsimp only at ha hf hfm
  subst ha
  have hfm : FnE PP w0 [] 31 [.int .i64 k, .string name] [] (.tuple #[.agg (List.toArray [.string mn, .int .i64 (len : Int), .bool mw, .func (.func mf) #[] #[]]), .bool true]) [] := hfm
  refine fn_of_run en13 fn13 rfl rfl rfl ?_
  repeat (first | refine zck ?_ | refine zcl ?_ | refine zcm ?_ | refine zcn ?_)
  first | refine zcp (by kernel_rfl) ?_ | refine zcq PP_mixed (by kernel_rfl) (by kernel_rfl) ?_
  repeat' (refine zap rfl ?_; first | refine zaq (cs := [_, _, _]) rfl (fun t6 => ?_) | refine zaq (cs := [_, _]) rfl (fun t7 => ?_) | refine zan rfl ?_)
  all_goals refine zch ?_
  all_goals repeat (first | refine zck ?_ | refine zcl ?_ | refine zcm ?_ | refine zcn ?_)
  refine run_share [1] rfl ?_
  refine run_share [1] rfl ?_
  repeat (first | refine zck ?_ | refine zcl ?_ | refine zcm ?_ | refine zcn ?_)
  first | refine zcp (by kernel_rfl) ?_ | refine zcq PP_mixed (by kernel_rfl) (by kernel_rfl) ?_
  repeat' (refine zap rfl ?_; first | refine reg_eqSF rfl rfl hk ?_ | refine zaa 0 rfl rfl rfl ?_ | refine zah [] hnm rfl rfl rfl sub_nil rfl ?_ | refine zao rfl ?_)
  all_goals refine zch ?_
  all_goals repeat (first | refine zck ?_ | refine zcl ?_ | refine zcm ?_ | refine zcn ?_)
  refine zcj rfl ?_
  repeat (first | refine zck ?_ | refine zcl ?_ | refine zcm ?_ | refine zcn ?_)
  first | refine zcp (by kernel_rfl) ?_ | refine zcq PP_mixed (by kernel_rfl) (by kernel_rfl) ?_
  repeat' (refine zap rfl ?_; first | refine zar (fun t12 => ?_) | refine zan rfl ?_ | refine zan rfl ?_ | refine zaa 0 rfl rfl rfl ?_ | refine zah [] hfm rfl rfl rfl sub_nil rfl ?_ | refine zao rfl ?_ | refine zan rfl ?_ | refine zae 1 rfl rfl rfl rfl rfl rfl rfl ?_)
  all_goals refine zch ?_
  all_goals repeat (first | refine zck ?_ | refine zcl ?_ | refine zcm ?_ | refine zcn ?_)
  refine run_share [1] rfl ?_
  repeat (first | refine zck ?_ | refine zcl ?_ | refine zcm ?_ | refine zcn ?_ | refine zco ?_)
  repeat (first | refine zck ?_ | refine zcl ?_ | refine zcm ?_ | refine zcn ?_)
  first | refine zcp (by kernel_rfl) ?_ | refine zcq PP_mixed (by kernel_rfl) (by kernel_rfl) ?_
  repeat' (refine zap rfl ?_; first | refine zbx rfl ?_ | refine zan rfl ?_ | refine zan rfl ?_)
  all_goals refine zch ?_
  all_goals repeat (first | refine zck ?_ | refine zcl ?_ | refine zcm ?_ | refine zcn ?_)
  refine zcj rfl ?_
  repeat (first | refine zck ?_ | refine zcl ?_ | refine zcm ?_ | refine zcn ?_)
  first | refine zcp (by kernel_rfl) ?_ | refine zcq PP_mixed (by kernel_rfl) (by kernel_rfl) ?_
  repeat' (refine zap rfl ?_; first | refine zan rfl ?_ | refine zan rfl ?_ | refine zaa 0 rfl rfl rfl ?_ | refine zce rfl ?_ | refine zao rfl ?_ | refine zbf rfl rfl (by omega) ?_)
  all_goals refine zch ?_
  all_goals repeat (first | refine zck ?_ | refine zcl ?_ | refine zcm ?_ | refine zcn ?_)
  refine zcj rfl ?_
  repeat (first | refine zck ?_ | refine zcl ?_ | refine zcm ?_ | refine zcn ?_)
  first | refine zcp (by kernel_rfl) ?_ | refine zcq PP_mixed (by kernel_rfl) (by kernel_rfl) ?_
  repeat' (refine zap rfl ?_; first | refine zcb rfl ?_ | refine zan rfl ?_ | refine zan rfl ?_ | refine zaa 0 rfl rfl rfl ?_ | refine zaa 1 rfl rfl rfl ?_ | refine zaa 2 rfl rfl rfl ?_ | refine zah [0] hf rfl rfl rfl (fun p hp => .tail _ (.tail _ (.tail _ hp))) rfl ?_ | refine zao rfl ?_ | refine zan rfl ?_)
  all_goals refine zch ?_
  all_goals repeat (first | refine zck ?_ | refine zcl ?_ | refine zcm ?_ | refine zcn ?_)
  by_cases he : e = 0
  · subst he
    repeat (first | refine zck ?_ | refine zcl ?_ | refine zcm ?_ | refine zcn ?_)
    first | refine zcp (by kernel_rfl) ?_ | refine zcq PP_mixed (by kernel_rfl) (by kernel_rfl) ?_
    repeat' (refine zap rfl ?_; first | refine zan rfl ?_ | refine zbf rfl rfl (by omega) ?_)
    all_goals refine zch ?_
    all_goals repeat (first | refine zck ?_ | refine zcl ?_ | refine zcm ?_ | refine zcn ?_)
    refine zcj rfl ?_
    repeat' (first | refine zck ?_ | refine zcp (by kernel_rfl) ?_ | refine zcm ?_ | (refine zap rfl ?_; first | refine zan rfl ?_ | refine zan rfl ?_) | refine zch ?_)
    exact ret_tmp2 rfl ⟨rfl, rfl⟩
  · repeat (first | refine zck ?_ | refine zcl ?_ | refine zcm ?_ | refine zcn ?_)
    first | refine zcp (by kernel_rfl) ?_ | refine zcq PP_mixed (by kernel_rfl) (by kernel_rfl) ?_
    repeat' (refine zap rfl ?_; first | refine zan rfl ?_ | refine zbe rfl rfl (by omega) ?_)
    all_goals refine zch ?_
    all_goals repeat (first | refine zck ?_ | refine zcl ?_ | refine zcm ?_ | refine zcn ?_)
    refine zci rfl ?_
    repeat' (first | refine zck ?_ | refine zcp (by kernel_rfl) ?_ | (refine zap rfl ?_; first | refine zan rfl ?_ | refine zan rfl ?_) | refine zch ?_)
    refine ret_tmp2 rfl ⟨?_, rfl⟩
    show encI2 (0, e) = encI2 (if e ≠ 0 then 0 else v, e)
    rw [if_pos he]
end Go.Proofs.YtgdhcgnmffgkiaaGreatDoor

namespace Sim
open Go Go.Vc
structure Fo where
  pool : Pl
  root : Int
def Fo.Ok (F : Fo) : Prop := F.pool.Ok ∧ 0 ≤ F.root ∧ F.root ≤ 4096
namespace Fo
variable (F : Fo)
def nodeN (n : Int) : Int := if n ≤ 0 ∨ 4096 < n then 0 else n
def nodeB (n : Int) : Bool := if n ≤ 0 ∨ 4096 < n then false else F.pool.node n
def cell (x : Int) : Pg (Int × Bool) := do
  let t ← Pg.gt (F.root + 3 + (x - 1) / 2 / 8)
  pure (nodeN t + (x - 1) / 2 % 8, F.nodeB t)
def place (x : Int) : Pg (Int × Bool) := do
  let c ← F.cell x
  if c.2 = true then do
    let v ← Pg.gt c.1
    pure (nodeN v + (x - 1) % 2 * 4, F.nodeB v)
  else pure (0, false)
def many : Pg (Int × Bool) := do
  let n ← Pg.gt F.root
  pure (n, decide (0 ≤ n) && decide (n ≤ 64))
def check (x : Int) : Pg Int :=
  if x < 1 then pure 10 else do
    let n ← Pg.gt F.root
    if n < x then pure 10 else pure 0
def take : Pg (Int × Int) := do
  let t ← F.pool.takeP
  if t.2 ≠ 0 then pure (0, t.2) else do
    let v ← Pg.gt (F.root + 7)
    let _ ← Pg.pt (F.root + 7) (w64 (v + 1))
    pure (t.1, 0)
def roomN (x : Int) : Pg Int := do
  let c ← F.cell x
  if c.2 = true then do
    let t ← F.take
    if t.2 ≠ 0 then pure t.2 else do
      let _ ← Pg.pt c.1 t.1
      pure 0
  else pure 24
def room (x : Int) : Pg Int :=
  if (x - 1) % 2 ≠ 0 then pure 0 else
  if (x - 1) / 2 % 8 = 0 then do
    let t ← F.take
    if t.2 ≠ 0 then pure t.2 else do
      let _ ← Pg.pt (F.root + 3 + (x - 1) / 2 / 8) t.1
      F.roomN x
  else F.roomN x
def makeIn (x : Int) : Pg (Int × Int) := do
  let e ← F.room x
  if e ≠ 0 then pure (0, e) else do
    let c ← F.place x
    if c.2 = true then do
      let _ ← Pg.pt c.1 0
      let _ ← Pg.pt (c.1 + 1) 1
      let _ ← Pg.pt (c.1 + 2) 0
      let _ ← Pg.pt F.root x
      let v ← Pg.gt (F.root + 1)
      let _ ← Pg.pt (F.root + 1) (w64 (v + 1))
      pure (x, 0)
    else pure (0, 24)
def after (m : Nat) (r : Int × Int) : Pg (Int × Int) := if r.2 ≠ 0 then do let _ ← Pg.bk m; pure (0, r.2) else pure r
def make : Pg (Int × Int) := do
  let n ← F.many
  if n.2 = true then
    if n.1 = 64 then pure (0, 9) else do
      let m ← Pg.mk
      let r ← F.makeIn (n.1 + 1)
      after m r
  else pure (0, 24)
def climb (n : Int) : Nat → Int → Pg (Int × Int)
  | 0, _ => pure (0, 24)
  | k + 1, x => do
    let c ← F.place x
    if c.2 = true then do
      let up ← Pg.gt c.1
      if up = 0 then pure (x, 0) else
      if up < 1 ∨ n < up then pure (0, 24) else climb n k up
    else pure (0, 24)
def find (x : Int) : Pg (Int × Int) := do
  let e ← F.check x
  if e ≠ 0 then pure (0, e) else do
    let n ← F.many
    if n.2 = true then F.climb n.1 65 x else pure (0, 24)
def both (x y : Int) : Pg ((Int × Int) × Int) := do
  let e ← F.check x
  if e ≠ 0 then pure ((0, 0), e) else do
    let e ← F.check y
    if e ≠ 0 then pure ((0, 0), e) else do
      let a ← F.find x
      if a.2 ≠ 0 then pure ((0, 0), a.2) else do
        let b ← F.find y
        if b.2 ≠ 0 then pure ((0, 0), b.2) else pure ((a.1, b.1), 0)
def add (a n : Int) : Pg Unit := do
  let v ← Pg.gt a
  let _ ← Pg.pt a (w64 (v + n))
  pure ()
def hang (x a y b sz : Int) : Pg Unit := do
  let _ ← Pg.pt a y
  let v ← Pg.gt (F.root + 2)
  let _ ← Pg.pt (a + 2) v
  let _ ← Pg.pt (b + 1) sz
  let _ ← Pg.pt (F.root + 2) x
  let _ ← add (F.root + 1) (-1)
  pure ()
def join (x y : Int) : Pg (Bool × Int) := do
  let a ← F.place x
  if a.2 = true then do
    let v ← Pg.gt (a.1 + 1)
    let b ← F.place y
    if b.2 = true then do
      let w ← Pg.gt (b.1 + 1)
      if w < v ∨ (w = v ∧ x < y) then do
        let _ ← F.hang y b.1 x a.1 (w64 (v + w))
        pure (true, 0)
      else do
        let _ ← F.hang x a.1 y b.1 (w64 (v + w))
        pure (true, 0)
    else pure (false, 24)
  else pure (false, 24)
def undo : Pg (Bool × Int) := do
  let last ← Pg.gt (F.root + 2)
  if last = 0 then pure (false, 0) else do
    let n ← F.many
    if n.2 = true ∧ 1 ≤ last ∧ last ≤ n.1 then do
      let a ← F.place last
      if a.2 = true then do
        let up ← Pg.gt a.1
        if up < 1 ∨ n.1 < up then pure (false, 24) else do
          let b ← F.place up
          if b.2 = true then do
            let v ← Pg.gt (a.1 + 1)
            let _ ← add (b.1 + 1) (w64 (0 - v))
            let _ ← Pg.pt a.1 0
            let u ← Pg.gt (a.1 + 2)
            let _ ← Pg.pt (F.root + 2) u
            let _ ← add (F.root + 1) 1
            pure (true, 0)
          else pure (false, 24)
      else pure (false, 24)
    else pure (false, 24)
def same (x y : Int) : Pg (Bool × Int) := do
  let r ← F.both x y
  pure (decide (r.2 = 0) && decide (r.1.1 = r.1.2), r.2)
def sizeOf (x : Int) : Pg (Int × Int) := do
  let r ← F.find x
  if r.2 ≠ 0 then pure (0, r.2) else do
    let a ← F.place r.1
    if a.2 = true then do
      let v ← Pg.gt (a.1 + 1)
      pure (v, 0)
    else pure (0, 24)
def sets : Pg Int := Pg.gt (F.root + 1)
end Fo
def encIB (r : Int × Bool) : Value := .tuple #[.int .i64 r.1, .bool r.2]
def encBI (r : Bool × Int) : Value := .tuple #[.bool r.1, .int .i64 r.2]
namespace Fo
open Pg
variable (F : Fo)
theorem bd_cell (x : Int) : Bd 0 (F.cell x) := by unfold Fo.cell; repeat' first | exact bd_pure _ | with_reducible refine bd_ite ?_ ?_ | with_reducible refine bd_then (bd_gt0 _) ?_ (by decide) | with_reducible refine bd_then (bd_pt _ _) ?_ (by decide) | with_reducible refine bd_then bd_mk0 ?_ (by decide) | with_reducible refine bd_then (bd_bk0 _) ?_ (by decide) | intro _
theorem bd_place (x : Int) : Bd 0 (F.place x) := by unfold Fo.place; repeat' first | with_reducible refine bd_then (F.bd_cell _) ?_ (by decide) | exact bd_pure _ | with_reducible refine bd_ite ?_ ?_ | with_reducible refine bd_then (bd_gt0 _) ?_ (by decide) | with_reducible refine bd_then (bd_pt _ _) ?_ (by decide) | with_reducible refine bd_then bd_mk0 ?_ (by decide) | with_reducible refine bd_then (bd_bk0 _) ?_ (by decide) | intro _
theorem bd_many : Bd 0 F.many := by unfold Fo.many; repeat' first | exact bd_pure _ | with_reducible refine bd_ite ?_ ?_ | with_reducible refine bd_then (bd_gt0 _) ?_ (by decide) | with_reducible refine bd_then (bd_pt _ _) ?_ (by decide) | with_reducible refine bd_then bd_mk0 ?_ (by decide) | with_reducible refine bd_then (bd_bk0 _) ?_ (by decide) | intro _
theorem bd_check (x : Int) : Bd 0 (F.check x) := by unfold Fo.check; repeat' first | exact bd_pure _ | with_reducible refine bd_ite ?_ ?_ | with_reducible refine bd_then (bd_gt0 _) ?_ (by decide) | with_reducible refine bd_then (bd_pt _ _) ?_ (by decide) | with_reducible refine bd_then bd_mk0 ?_ (by decide) | with_reducible refine bd_then (bd_bk0 _) ?_ (by decide) | intro _
theorem bd_take : Bd 3 F.take := by unfold Fo.take; repeat' first | with_reducible refine bd_then (bd_takeP _) ?_ (by decide) | exact bd_pure _ | with_reducible refine bd_ite ?_ ?_ | with_reducible refine bd_then (bd_gt0 _) ?_ (by decide) | with_reducible refine bd_then (bd_pt _ _) ?_ (by decide) | with_reducible refine bd_then bd_mk0 ?_ (by decide) | with_reducible refine bd_then (bd_bk0 _) ?_ (by decide) | intro _
theorem bd_after (m : Nat) (r : Int × Int) : Bd 0 (after m r) := by unfold Fo.after; repeat' first | exact bd_pure _ | with_reducible refine bd_ite ?_ ?_ | with_reducible refine bd_then (bd_gt0 _) ?_ (by decide) | with_reducible refine bd_then (bd_pt _ _) ?_ (by decide) | with_reducible refine bd_then bd_mk0 ?_ (by decide) | with_reducible refine bd_then (bd_bk0 _) ?_ (by decide) | intro _
theorem bd_climb (n : Int) : ∀ (k : Nat) (x : Int), Bd 0 (F.climb n k x)
  | 0, _ => trivial
  | k + 1, x => by unfold Fo.climb; repeat' first | with_reducible refine bd_then (F.bd_place _) ?_ (by decide) | exact bd_climb n k _ | exact bd_pure _ | with_reducible refine bd_ite ?_ ?_ | with_reducible refine bd_then (bd_gt0 _) ?_ (by decide) | with_reducible refine bd_then (bd_pt _ _) ?_ (by decide) | with_reducible refine bd_then bd_mk0 ?_ (by decide) | with_reducible refine bd_then (bd_bk0 _) ?_ (by decide) | intro _
theorem bd_find (x : Int) : Bd 0 (F.find x) := by unfold Fo.find; repeat' first | with_reducible refine bd_then (F.bd_check _) ?_ (by decide) | with_reducible refine bd_then F.bd_many ?_ (by decide) | exact F.bd_climb _ _ _ | exact bd_pure _ | with_reducible refine bd_ite ?_ ?_ | with_reducible refine bd_then (bd_gt0 _) ?_ (by decide) | with_reducible refine bd_then (bd_pt _ _) ?_ (by decide) | with_reducible refine bd_then bd_mk0 ?_ (by decide) | with_reducible refine bd_then (bd_bk0 _) ?_ (by decide) | intro _
theorem bd_add (a n : Int) : Bd 1 (add a n) := by unfold Fo.add; repeat' first | exact bd_pure _ | with_reducible refine bd_ite ?_ ?_ | with_reducible refine bd_then (bd_gt0 _) ?_ (by decide) | with_reducible refine bd_then (bd_pt _ _) ?_ (by decide) | with_reducible refine bd_then bd_mk0 ?_ (by decide) | with_reducible refine bd_then (bd_bk0 _) ?_ (by decide) | intro _
end Fo
end Sim

namespace Go.Proofs.YtgdhcgnmffgkiaaGreatDoor
open Go.Vc Sim
set_option maxHeartbeats 4000000
def foV (F : Fo) : Value := .agg #[.int .i64 F.pool.root, .int .i64 F.pool.frm, .int .i64 F.pool.nodes, .int .i64 F.root]
theorem _root_.Sim.Fo.nodeN_bd (v : Int) : 0 ≤ Fo.nodeN v ∧ Fo.nodeN v ≤ 4096 := by unfold Fo.nodeN; split <;> omega
theorem foNode (w0 : World) (F : Fo) (hF : F.Ok) (v : Int) : FnE PP w0 [] 285 [foV F, .int .i64 v] [] (.tuple #[.int .i64 (Fo.nodeN v), .bool (F.nodeB v)]) [] := by
  refine fn_of_run en285 fn285 rfl rfl rfl ?_
  repeat (first | refine zck ?_ | refine zcl ?_ | refine zcm ?_ | refine zcn ?_)
  first | refine zcp (by kernel_rfl) ?_ | refine zcq PP_mixed (by kernel_rfl) (by kernel_rfl) ?_
  repeat' (refine zap rfl ?_; first | refine zan rfl ?_ | refine zaq (cs := [_, _, _, _]) rfl (fun nb => ?_))
  all_goals refine zch ?_
  all_goals repeat (first | refine zck ?_ | refine zcl ?_ | refine zcm ?_ | refine zcn ?_)
  refine run_share [0] rfl ?_
  repeat' (first | refine zck ?_ | refine zcp (by kernel_rfl) ?_ | refine zcm ?_ | (refine zap rfl ?_; first | refine zaj rfl ?_ | refine zak rfl ?_ | refine zam rfl rfl (fun _ => ?_) (fun _ => ?_) | refine zan rfl ?_ | refine zan rfl ?_ | refine zaa 0 rfl rfl rfl ?_ | refine zah [] (node_spec w0 F.pool hF.1 _) rfl rfl rfl sub_nil rfl ?_ | refine zao rfl ?_ | refine zan rfl ?_ | refine zbr rfl rfl ?_ | refine zbs rfl rfl ?_ | refine zbu rfl ?_ | refine zbv rfl ?_) | refine zch ?_ | refine zci rfl ?_ | refine run_cond rfl (fun _ => ?_) (fun _ => ?_))
  all_goals refine ret_tmp2 rfl ⟨?_, rfl⟩
  all_goals unfold Fo.nodeN Fo.nodeB
  all_goals first | rw [if_pos (by omega), if_pos (by omega)] | rw [if_neg (by omega), if_neg (by omega)]
  all_goals rfl
theorem foCell (w0 : World) (p : Nat) (F : Fo) (hF : F.Ok) (x : Int) (hx : 1 ≤ x ∧ x ≤ 9223372036854775807) : FnG w0 [] 284 [foV F, spP p, .int .i64 x] p (F.cell x) encIB := by
  obtain ⟨_, h1, h2⟩ := id hF
  intro s hS; have hG := At.start hS; generalize Pg.run _ s = R at hG ⊢
  refine fn_of_run en284 fn284 rfl rfl rfl ?_
  repeat (first | refine zck ?_ | refine zcl ?_ | refine zcm ?_ | refine zcn ?_)
  first | refine zcp (by kernel_rfl) ?_ | refine zcq PP_mixed (by kernel_rfl) (by kernel_rfl) ?_
  repeat' (refine zap rfl ?_; first | refine zan rfl ?_ | refine zaq (cs := [_, _, _, _]) rfl (fun nb => ?_))
  all_goals refine zch ?_
  all_goals repeat (first | refine zck ?_ | refine zcl ?_ | refine zcm ?_ | refine zcn ?_)
  refine run_share [1] rfl ?_
  repeat' (first | refine zck ?_ | refine zcp (by kernel_rfl) ?_ | refine zcq PP_mixed (by kernel_rfl) (by kernel_rfl) ?_ | (refine zap rfl ?_; first | refine zau rfl rfl (by have := Fo.nodeN_bd u; omega) ?_ | refine zan rfl ?_ | refine zan rfl ?_ | refine zaa 0 rfl rfl rfl ?_ | refine reg_callG [0] hG (getG w0 p _) rfl rfl rfl sub_nil (fun u s hG => ?_) | refine zah [] (foNode w0 F hF _) rfl rfl rfl sub_nil rfl ?_ | refine zao rfl ?_ | refine zan rfl ?_ | refine zau rfl rfl (by omega) ?_ | refine zav rfl rfl (by omega) ?_ | refine zax rfl rfl (by omega) ?_ | refine zay rfl rfl (by omega) ?_) | refine zch ?_)
  rw [hG.done]
  exact ret_tmp2 rfl ⟨rfl, rfl⟩
theorem foMany (w0 : World) (p : Nat) (F : Fo) (hF : F.Ok) : FnG w0 [] 186 [foV F, spP p] p F.many encIB := by
  obtain ⟨_, h1, h2⟩ := id hF
  intro s hS; have hG := At.start hS; generalize Pg.run _ s = R at hG ⊢
  refine fn_of_run en186 fn186 rfl rfl rfl ?_
  repeat (first | refine zck ?_ | refine zcl ?_ | refine zcm ?_ | refine zcn ?_)
  first | refine zcp (by kernel_rfl) ?_ | refine zcq PP_mixed (by kernel_rfl) (by kernel_rfl) ?_
  repeat' (refine zap rfl ?_; first | refine zan rfl ?_ | refine zaq (cs := [_, _, _, _]) rfl (fun nb => ?_))
  all_goals refine zch ?_
  all_goals repeat (first | refine zck ?_ | refine zcl ?_ | refine zcm ?_ | refine zcn ?_)
  refine run_share [1] rfl ?_
  repeat' (first | refine zck ?_ | refine zcp (by kernel_rfl) ?_ | (refine zap rfl ?_; first | refine zaj rfl ?_ | refine zak rfl ?_ | refine zam rfl rfl (fun _ => ?_) (fun _ => ?_) | refine zan rfl ?_ | refine zan rfl ?_ | refine zaa 0 rfl rfl rfl ?_ | refine reg_callG [0] hG (getG w0 p _) rfl rfl rfl sub_nil (fun u s hG => ?_) | refine zao rfl ?_ | refine reg_addZ rfl rfl (by omega) ?_ | refine zbr rfl rfl ?_ | refine zbt rfl rfl ?_ | refine zbu rfl ?_ | refine zbv rfl ?_) | refine zch ?_)
  all_goals rw [hG.done]
  all_goals (refine ret_tmp2 rfl ⟨?_, rfl⟩)
  all_goals refine congrArg Value.tuple (?_ : #[Value.int .i64 _, .bool _] = #[Value.int .i64 _, .bool _])
  all_goals simp_all
  all_goals omega
theorem foTake (w0 : World) (p : Nat) (F : Fo) (hF : F.Ok) : FnG w0 [] 283 [foV F, spP p] p F.take encI2 := by
  obtain ⟨_, h1, h2⟩ := id hF
  intro s hS; have hG := At.start hS; generalize Pg.run _ s = R at hG ⊢
  refine fn_of_run en283 fn283 rfl rfl rfl ?_
  repeat (first | refine zck ?_ | refine zcl ?_ | refine zcm ?_ | refine zcn ?_)
  first | refine zcp (by kernel_rfl) ?_ | refine zcq PP_mixed (by kernel_rfl) (by kernel_rfl) ?_
  repeat' (refine zap rfl ?_; first | refine zan rfl ?_ | refine zaq (cs := [_, _, _, _]) rfl (fun nb => ?_))
  all_goals refine zch ?_
  all_goals repeat (first | refine zck ?_ | refine zcl ?_ | refine zcm ?_ | refine zcn ?_)
  refine run_share [1] rfl ?_
  repeat' (first | refine zck ?_ | refine zcp (by kernel_rfl) ?_ | (refine zap rfl ?_; first | refine zan rfl ?_ | refine zan rfl ?_ | refine zaa 0 rfl rfl rfl ?_ | refine reg_callG [0] hG (takeG w0 p F.pool hF.1) rfl rfl rfl sub_nil (fun u s hG => ?_) | refine zao rfl ?_ | refine zan rfl ?_ | refine zbp rfl rfl ?_) | refine zch ?_)
  refine run_cond rfl (fun hE => ?_) (fun hE => ?_)
  · rw [if_pos hE] at hG
    rw [hG.done]
    repeat' (first | refine zck ?_ | refine zcp (by kernel_rfl) ?_ | (refine zap rfl ?_; first | refine zan rfl ?_ | refine zan rfl ?_) | refine zch ?_)
    exact ret_tmp2 rfl ⟨rfl, rfl⟩
  · rw [if_neg hE] at hG
    repeat' (first | refine zck ?_ | refine zcp (by kernel_rfl) ?_ | refine zcq PP_mixed (by kernel_rfl) (by kernel_rfl) ?_ | refine zcm ?_ | (refine zap rfl ?_; first | refine reg_add (t := 2) rfl rfl ?_ | refine zan rfl ?_ | refine zan rfl ?_ | refine zaa 0 rfl rfl rfl ?_ | refine reg_callG [0] hG (getG w0 p _) rfl rfl rfl sub_nil (fun u s hG => ?_) | refine reg_callG [0] hG (putG w0 p _ _) rfl rfl rfl sub_nil (fun u s hG => ?_) | refine zao rfl ?_ | refine zau rfl rfl (by omega) ?_) | refine zch ?_)
    rw [hG.done]
    exact ret_tmp2 rfl ⟨rfl, rfl⟩
theorem foAdd (w0 : World) (p : Nat) (a m : Int) : FnG w0 [] 192 [spP p, .int .i64 a, .int .i64 m] p (Fo.add a m) encU := by
  intro s hS; have hG := At.start hS; generalize Pg.run _ s = R at hG ⊢
  refine fn_of_run en192 fn192 rfl rfl rfl ?_
  repeat' (first | refine zcp (by kernel_rfl) ?_ | (refine zap rfl ?_; first | refine reg_add (t := 2) rfl rfl ?_ | refine zan rfl ?_ | refine reg_callG [0] hG (getG w0 p _) rfl rfl rfl sub_nil (fun u s hG => ?_) | refine reg_callG [0] hG (putG w0 p _ _) rfl rfl rfl sub_nil (fun u s hG => ?_)) | refine zch ?_)
  rw [hG.done]
  exact end_tmp0 rfl ⟨rfl, rfl⟩
end Go.Proofs.YtgdhcgnmffgkiaaGreatDoor

namespace Sim.Fo
open Pg
variable (F : Fo)
theorem all_cell (x : Int) : All (fun r => 0 ≤ r.1 ∧ r.1 ≤ 4103) (F.cell x) := fun v => by
  have := nodeN_bd v
  refine all_pure ?_
  dsimp only
  omega
theorem all_place (x : Int) : All (fun r => 0 ≤ r.1 ∧ r.1 ≤ 4100) (F.place x) := by
  refine all_then fun c => all_ite (fun _ => ?_) fun _ => all_pure (by dsimp only; omega)
  refine all_then fun v => all_pure ?_
  have := nodeN_bd v
  dsimp only
  omega
theorem all_many : All (fun r => r.2 = true → 0 ≤ r.1 ∧ r.1 ≤ 64) F.many := fun v => by
  refine all_pure ?_
  dsimp only
  simp
def InX (x : Int) : Prop := x ≤ 9223372036854775807
def Good (r : Int × Int) : Prop := r.2 = 0 → 1 ≤ r.1 ∧ InX r.1
end Sim.Fo
namespace Go.Proofs.YtgdhcgnmffgkiaaGreatDoor
open Go.Vc Sim
set_option maxHeartbeats 4000000
theorem foPlace (w0 : World) (p : Nat) (F : Fo) (hF : F.Ok) (x : Int) (hx : 1 ≤ x ∧ x ≤ 9223372036854775807) : FnG w0 [] 189 [foV F, spP p, .int .i64 x] p (F.place x) encIB := by
  obtain ⟨_, h1, h2⟩ := id hF
  intro s hS; have hG := At.start hS; generalize Pg.run _ s = R at hG ⊢
  refine fn_of_run en189 fn189 rfl rfl rfl ?_
  repeat (first | refine zck ?_ | refine zcl ?_ | refine zcm ?_ | refine zcn ?_)
  first | refine zcp (by kernel_rfl) ?_ | refine zcq PP_mixed (by kernel_rfl) (by kernel_rfl) ?_
  repeat' (refine zap rfl ?_; first | refine zan rfl ?_ | refine zaq (cs := [_, _, _, _]) rfl (fun nb => ?_))
  all_goals refine zch ?_
  all_goals repeat (first | refine zck ?_ | refine zcl ?_ | refine zcm ?_ | refine zcn ?_)
  refine run_share [1] rfl ?_
  repeat' (first | refine zck ?_ | refine zcp (by kernel_rfl) ?_ | (refine zap rfl ?_; first | refine zan rfl ?_ | refine zan rfl ?_ | refine zaa 0 rfl rfl rfl ?_ | refine reg_callG [0] hG (foCell w0 p F hF x hx) rfl rfl rfl sub_nil (fun u s hG => ?_) | refine zan rfl ?_ | refine zbx rfl ?_) | refine zch ?_)
  refine run_condV rfl (fun hE => ?_) (fun hE => ?_)
  · have hE : u.2 = false := by simpa using hE
    simp only [hE, Bool.false_eq_true, if_false] at hG
    rw [hG.done]
    repeat' (first | refine zck ?_ | refine zcp (by kernel_rfl) ?_ | (refine zap rfl ?_; first | refine zan rfl ?_) | refine zch ?_)
    exact ret_tmp2 rfl ⟨rfl, rfl⟩
  · have hE : u.2 = true := by simpa using hE
    simp only [hE, if_true] at hG
    repeat' (first | refine zck ?_ | refine zcp (by kernel_rfl) ?_ | refine zcq PP_mixed (by kernel_rfl) (by kernel_rfl) ?_ | refine zcm ?_ | (refine zap rfl ?_; first | refine zau rfl rfl (by have := Fo.nodeN_bd u; omega) ?_ | refine zan rfl ?_ | refine zan rfl ?_ | refine zaa 0 rfl rfl rfl ?_ | refine reg_callG [0] hG (getG w0 p _) rfl rfl rfl sub_nil (fun u s hG => ?_) | refine zah [] (foNode w0 F hF _) rfl rfl rfl sub_nil rfl ?_ | refine zan rfl ?_ | refine zav rfl rfl (by omega) ?_ | refine zaw rfl rfl (by omega) ?_ | refine zay rfl rfl (by omega) ?_) | refine zch ?_)
    rw [hG.done]
    exact ret_tmp2 rfl ⟨rfl, rfl⟩
theorem foSets (w0 : World) (p : Nat) (F : Fo) (hF : F.Ok) : FnG w0 [] 102 [foV F, spP p] p F.sets (.int .i64) := by
  obtain ⟨_, h1, h2⟩ := id hF
  intro s hS
  have hG := (At.start hS).to (Pg.bind_pure _).symm
  generalize Pg.run _ s = R at hG ⊢
  unfold Fo.sets at hG
  refine fn_of_run en102 fn102 rfl rfl rfl ?_
  repeat (first | refine zck ?_ | refine zcl ?_ | refine zcm ?_ | refine zcn ?_)
  first | refine zcp (by kernel_rfl) ?_ | refine zcq PP_mixed (by kernel_rfl) (by kernel_rfl) ?_
  repeat' (refine zap rfl ?_; first | refine zan rfl ?_ | refine zaq (cs := [_, _, _, _]) rfl (fun nb => ?_))
  all_goals refine zch ?_
  all_goals repeat (first | refine zck ?_ | refine zcl ?_ | refine zcm ?_ | refine zcn ?_)
  refine run_share [1] rfl ?_
  repeat' (first | refine zcp (by kernel_rfl) ?_ | (refine zap rfl ?_; first | refine zan rfl ?_ | refine zan rfl ?_ | refine zaa 0 rfl rfl rfl ?_ | refine reg_callG [0] hG (getG w0 p _) rfl rfl rfl sub_nil (fun u s hG => ?_) | refine zao rfl ?_ | refine zau rfl rfl (by omega) ?_) | refine zch ?_)
  rw [hG.done]
  exact ret_tmp1 rfl ⟨rfl, rfl⟩
end Go.Proofs.YtgdhcgnmffgkiaaGreatDoor

namespace Go.Proofs.YtgdhcgnmffgkiaaGreatDoor
open Go.Vc Sim
set_option maxHeartbeats 4000000
end Go.Proofs.YtgdhcgnmffgkiaaGreatDoor

namespace Go.Proofs.YtgdhcgnmffgkiaaGreatDoor
open Go.Vc Sim
set_option maxHeartbeats 4000000
end Go.Proofs.YtgdhcgnmffgkiaaGreatDoor

namespace Go.Proofs.YtgdhcgnmffgkiaaGreatDoor
open Go.Vc Sim
set_option maxHeartbeats 4000000
theorem foUndo (w0 : World) (p : Nat) (F : Fo) (hF : F.Ok) : FnG w0 [] 99 [foV F, spP p] p F.undo encBI := by
  obtain ⟨_, h1, h2⟩ := id hF
  intro s hS; have hG := At.start hS; generalize Pg.run _ s = R at hG ⊢
  refine fn_of_run en99 fn99 rfl rfl rfl ?_
  repeat (first | refine zck ?_ | refine zcl ?_ | refine zcm ?_ | refine zcn ?_)
  first | refine zcp (by kernel_rfl) ?_ | refine zcq PP_mixed (by kernel_rfl) (by kernel_rfl) ?_
  repeat' (refine zap rfl ?_; first | refine zan rfl ?_ | refine zaq (cs := [_, _, _, _]) rfl (fun nb => ?_))
  all_goals refine zch ?_
  all_goals repeat (first | refine zck ?_ | refine zcl ?_ | refine zcm ?_ | refine zcn ?_)
  refine run_share [1] rfl ?_
  repeat' (first | refine zck ?_ | refine zcp (by kernel_rfl) ?_ | (refine zap rfl ?_; first | refine zan rfl ?_ | refine zan rfl ?_ | refine zaa 0 rfl rfl rfl ?_ | refine reg_callG [0] hG (getG w0 p _) rfl rfl rfl sub_nil (fun last s hG => ?_) | refine zao rfl ?_ | refine zau rfl rfl (by omega) ?_ | refine zbo rfl rfl ?_) | refine zch ?_)
  refine run_cond rfl (fun hE => ?_) (fun hE => ?_)
  · rw [if_pos hE] at hG
    rw [hG.done]
    repeat' (first | refine zck ?_ | refine zcp (by kernel_rfl) ?_ | (refine zap rfl ?_; first | refine zan rfl ?_) | refine zch ?_)
    exact ret_tmp2 rfl ⟨rfl, rfl⟩
  rw [if_neg hE] at hG
  repeat (first | refine zck ?_ | refine zcl ?_ | refine zcm ?_ | refine zcn ?_)
  first | refine zcp (by kernel_rfl) ?_ | refine zcq PP_mixed (by kernel_rfl) (by kernel_rfl) ?_
  repeat' (refine zap rfl ?_; first | refine zan rfl ?_ | refine zan rfl ?_ | refine zaa 0 rfl rfl rfl ?_ | refine reg_callGP [0] hG F.all_many (foMany w0 p F hF) rfl rfl rfl sub_nil (fun n s hn hG => ?_) | refine zan rfl ?_)
  all_goals refine zch ?_
  all_goals repeat (first | refine zck ?_ | refine zcl ?_ | refine zcm ?_ | refine zcn ?_)
  by_cases hc : n.2 = true ∧ 1 ≤ last ∧ last ≤ n.1
  · rw [if_pos hc] at hG
    obtain ⟨hc1, hc2, hc3⟩ := hc
    have hn := hn hc1
    obtain ⟨n1, n2⟩ := n
    dsimp only at hc1 hc3 hn hG
    subst hc1
    repeat' (first | refine zck ?_ | refine zcp (by kernel_rfl) ?_ | refine zcm ?_ | (refine zap rfl ?_; first | refine zbx rfl ?_ | refine zaj rfl ?_ | refine zan rfl ?_ | refine zan rfl ?_ | refine zaa 0 rfl rfl rfl ?_ | refine reg_callGP [0] hG (F.all_place last) (foPlace w0 p F hF last ⟨hc2, by omega⟩) rfl rfl rfl sub_nil (fun a s ha hG => ?_) | refine zan rfl ?_ | refine zbh rfl rfl (by omega) ?_ | refine zbl rfl rfl (by omega) ?_ | refine zbv rfl ?_) | refine zch ?_ | refine zcj rfl ?_)
    refine run_condV rfl (fun hE => ?_) (fun hE => ?_)
    · have hE : a.2 = false := by simpa using hE
      simp only [hE, Bool.false_eq_true, if_false] at hG
      rw [hG.done]
      repeat' (first | refine zck ?_ | refine zcp (by kernel_rfl) ?_ | (refine zap rfl ?_; first | refine zan rfl ?_) | refine zch ?_)
      exact ret_tmp2 rfl ⟨rfl, rfl⟩
    have hE : a.2 = true := by simpa using hE
    simp only [hE, if_true] at hG
    repeat (first | refine zck ?_ | refine zcl ?_ | refine zcm ?_ | refine zcn ?_)
    first | refine zcp (by kernel_rfl) ?_ | refine zcq PP_mixed (by kernel_rfl) (by kernel_rfl) ?_
    repeat' (refine zap rfl ?_; first | refine zan rfl ?_ | refine zan rfl ?_ | refine reg_callG [0] hG (getG w0 p _) rfl rfl rfl sub_nil (fun up s hG => ?_) | refine reg_addZ rfl rfl (by omega) ?_)
    all_goals refine zch ?_
    all_goals repeat (first | refine zck ?_ | refine zcl ?_ | refine zcm ?_ | refine zcn ?_)
    by_cases hc : up < 1 ∨ n1 < up
    · rw [if_pos hc] at hG
      rw [hG.done]
      by_cases hc4 : up < 1
      · repeat' (first | refine zck ?_ | refine zcp (by kernel_rfl) ?_ | (refine zap rfl ?_; first | refine zak rfl ?_ | refine zan rfl ?_ | refine zan rfl ?_ | refine zbg rfl rfl (by omega) ?_ | refine zbu rfl ?_) | refine zch ?_ | refine zci rfl ?_)
        exact ret_tmp2 rfl ⟨rfl, rfl⟩
      · repeat' (first | refine zck ?_ | refine zcp (by kernel_rfl) ?_ | (refine zap rfl ?_; first | refine zaj rfl ?_ | refine zan rfl ?_ | refine zan rfl ?_ | refine zbh rfl rfl (by omega) ?_ | refine zbk rfl rfl (by omega) ?_ | refine zbv rfl ?_) | refine zch ?_ | refine zci rfl ?_)
        exact ret_tmp2 rfl ⟨rfl, rfl⟩
    rw [if_neg hc] at hG
    repeat' (first | refine zck ?_ | refine zcp (by kernel_rfl) ?_ | refine zcm ?_ | (refine zap rfl ?_; first | refine zaj rfl ?_ | refine zan rfl ?_ | refine zan rfl ?_ | refine zaa 0 rfl rfl rfl ?_ | refine reg_callGP [0] hG (F.all_place up) (foPlace w0 p F hF up ⟨by omega, by omega⟩) rfl rfl rfl sub_nil (fun b s hb hG => ?_) | refine zan rfl ?_ | refine zbh rfl rfl (by omega) ?_ | refine zbl rfl rfl (by omega) ?_ | refine zbx rfl ?_ | refine zbv rfl ?_) | refine zch ?_ | refine zcj rfl ?_)
    refine run_condV rfl (fun hE => ?_) (fun hE => ?_)
    · have hE : b.2 = false := by simpa using hE
      simp only [hE, Bool.false_eq_true, if_false] at hG
      rw [hG.done]
      repeat' (first | refine zck ?_ | refine zcp (by kernel_rfl) ?_ | (refine zap rfl ?_; first | refine zan rfl ?_) | refine zch ?_)
      exact ret_tmp2 rfl ⟨rfl, rfl⟩
    have hE : b.2 = true := by simpa using hE
    simp only [hE, if_true] at hG
    repeat (first | refine zck ?_ | refine zcl ?_ | refine zcm ?_ | refine zcn ?_ | refine zco ?_)
    refine run_slots [(1, spP p), (2, .pointer (some ⟨_, 0, none⟩)), (9, .int .i64 a.1), (11, .int .i64 b.1)] ⟨rfl, rfl, rfl, rfl, trivial⟩ (fun junk => ?_)
    repeat' (first | refine zck ?_ | refine zcp (by kernel_rfl) ?_ | refine zcq PP_mixed (by kernel_rfl) (by kernel_rfl) ?_ | (refine zap rfl ?_; first | refine reg_neg (t := 2) rfl ?_ | refine zan rfl ?_ | refine zan rfl ?_ | refine zaa 0 rfl rfl rfl ?_ | refine reg_callG [0] hG (getG w0 p _) rfl rfl rfl sub_nil (fun u s hG => ?_) | refine reg_callG [0] hG (putG w0 p _ _) rfl rfl rfl sub_nil (fun u s hG => ?_) | refine reg_callG [0] hG (foAdd w0 p _ _) rfl rfl rfl sub_nil (fun u s hG => ?_) | refine zao rfl ?_ | refine reg_addZ rfl rfl (by omega) ?_ | refine zau rfl rfl (by omega) ?_) | refine zch ?_)
    rw [hG.done]
    exact ret_tmp2 rfl ⟨rfl, rfl⟩
  · rw [if_neg hc] at hG
    rw [hG.done]
    obtain ⟨n1, n2⟩ := n
    dsimp only at hc hn
    cases n2 with
    | false =>
      repeat' (first | refine zck ?_ | refine zcp (by kernel_rfl) ?_ | (refine zap rfl ?_; first | refine zbx rfl ?_ | refine zak rfl ?_ | refine zan rfl ?_ | refine zan rfl ?_ | refine zbu rfl ?_) | refine zch ?_ | refine zci rfl ?_)
      exact ret_tmp2 rfl ⟨rfl, rfl⟩
    | true =>
      have hc : ¬ (1 ≤ last ∧ last ≤ n1) := fun h => hc ⟨rfl, h⟩
      by_cases hc4 : last < 1
      · repeat' (first | refine zck ?_ | refine zcp (by kernel_rfl) ?_ | (refine zap rfl ?_; first | refine zbx rfl ?_ | refine zaj rfl ?_ | refine zak rfl ?_ | refine zan rfl ?_ | refine zan rfl ?_ | refine zbg rfl rfl (by omega) ?_ | refine zbu rfl ?_ | refine zbv rfl ?_) | refine zch ?_ | refine zci rfl ?_)
        exact ret_tmp2 rfl ⟨rfl, rfl⟩
      · repeat' (first | refine zck ?_ | refine zcp (by kernel_rfl) ?_ | (refine zap rfl ?_; first | refine zbx rfl ?_ | refine zaj rfl ?_ | refine zan rfl ?_ | refine zan rfl ?_ | refine zbh rfl rfl (by omega) ?_ | refine zbk rfl rfl (by omega) ?_ | refine zbv rfl ?_) | refine zch ?_ | refine zci rfl ?_)
        exact ret_tmp2 rfl ⟨rfl, rfl⟩
theorem foRoom (w0 : World) (p : Nat) (F : Fo) (hF : F.Ok) (x : Int) (hx : 1 ≤ x ∧ x ≤ 64) : FnG w0 [] 188 [foV F, spP p, .int .i64 x] p (F.room x) (.int .i64) := by
  obtain ⟨_, h1, h2⟩ := id hF
  intro s hS; have hG := At.start hS; generalize Pg.run _ s = R at hG ⊢
  refine fn_of_run en188 fn188 rfl rfl rfl ?_
  repeat (first | refine zck ?_ | refine zcl ?_ | refine zcm ?_ | refine zcn ?_)
  first | refine zcp (by kernel_rfl) ?_ | refine zcq PP_mixed (by kernel_rfl) (by kernel_rfl) ?_
  repeat' (refine zap rfl ?_; first | refine zan rfl ?_ | refine zaq (cs := [_, _, _, _]) rfl (fun nb => ?_))
  all_goals refine zch ?_
  all_goals repeat (first | refine zck ?_ | refine zcl ?_ | refine zcm ?_ | refine zcn ?_)
  refine run_share [1] rfl ?_
  by_cases c1 : (x - 1) % 2 ≠ 0
  · rw [Fo.room, if_pos c1] at hG
    rw [hG.done]
    repeat' (first | refine zck ?_ | refine zcp (by kernel_rfl) ?_ | (refine zap rfl ?_; first | refine zan rfl ?_ | refine zan rfl ?_ | refine zbe rfl rfl (by omega) ?_ | refine zav rfl rfl (by omega) ?_ | refine zax rfl rfl (by omega) ?_ | refine zay rfl rfl (by omega) ?_) | refine zch ?_ | refine zci rfl ?_)
    exact ret_tmp1 rfl ⟨rfl, rfl⟩
  rw [Fo.room, if_neg c1] at hG
  repeat (first | refine zck ?_ | refine zcl ?_ | refine zcm ?_ | refine zcn ?_)
  first | refine zcp (by kernel_rfl) ?_ | refine zcq PP_mixed (by kernel_rfl) (by kernel_rfl) ?_
  repeat' (refine zap rfl ?_; first | refine zan rfl ?_ | refine zan rfl ?_ | refine zav rfl rfl (by omega) ?_ | refine zax rfl rfl (by omega) ?_)
  all_goals refine zch ?_
  all_goals repeat (first | refine zck ?_ | refine zcl ?_ | refine zcm ?_ | refine zcn ?_)
  repeat (first | refine zck ?_ | refine zcl ?_ | refine zcm ?_ | refine zcn ?_)
  first | refine zcp (by kernel_rfl) ?_ | refine zcq PP_mixed (by kernel_rfl) (by kernel_rfl) ?_
  repeat' (refine zap rfl ?_; first | refine zan rfl ?_ | refine zbf rfl rfl (by omega) ?_ | refine zav rfl rfl (by omega) ?_ | refine zay rfl rfl (by omega) ?_)
  all_goals refine zch ?_
  all_goals repeat (first | refine zck ?_ | refine zcl ?_ | refine zcm ?_ | refine zcn ?_)
  refine zcj rfl ?_
  repeat (first | refine zck ?_ | refine zcl ?_ | refine zcm ?_ | refine zcn ?_)
  first | refine zcp (by kernel_rfl) ?_ | refine zcq PP_mixed (by kernel_rfl) (by kernel_rfl) ?_
  repeat' (refine zap rfl ?_; first | refine zan rfl ?_ | refine zbo rfl rfl ?_ | refine zay rfl rfl (by omega) ?_)
  all_goals refine zch ?_
  all_goals repeat (first | refine zck ?_ | refine zcl ?_ | refine zcm ?_ | refine zcn ?_)
  refine run_bind_eq2 (σ := { s : Sp // At R (F.roomN x) s }) (l' := fun _ => [(1, spP p), (2, .int .i64 x), (3, .pointer (some ⟨nb, 0, none⟩))]) (Γ' := fun st => [SpaceA p st.1]) ?_ (fun ⟨s, hG⟩ junk => ?_)
  · refine run_cond rfl (fun c2 => ?_) (fun c2 => ?_)
    · rw [if_pos c2] at hG
      repeat' (first | refine zck ?_ | refine zcp (by kernel_rfl) ?_ | (refine zap rfl ?_; first | refine zan rfl ?_ | refine zan rfl ?_ | refine zaa 0 rfl rfl rfl ?_ | refine reg_callG [0] hG (foTake w0 p F hF) rfl rfl rfl sub_nil (fun t s hG => ?_) | refine zan rfl ?_ | refine zbp rfl rfl ?_) | refine zch ?_)
      refine run_cond rfl (fun hE => ?_) (fun hE => ?_)
      · rw [if_pos hE] at hG
        rw [hG.done]
        repeat' (first | refine zck ?_ | refine zcp (by kernel_rfl) ?_ | (refine zap rfl ?_; first | refine zan rfl ?_ | refine zan rfl ?_) | refine zch ?_)
        exact qret1 (fun _ _ h => h) rfl ⟨rfl, rfl⟩
      rw [if_neg hE] at hG
      repeat' (first | refine zcp (by kernel_rfl) ?_ | refine zcm ?_ | (refine zap rfl ?_; first | refine zan rfl ?_ | refine zaa 0 rfl rfl rfl ?_ | refine reg_callG [0] hG (putG w0 p _ _) rfl rfl rfl sub_nil (fun u s hG => ?_) | refine zao rfl ?_ | refine zau rfl rfl (by omega) ?_ | refine zax rfl rfl (by omega) ?_) | refine zch ?_)
      exact cut_end ⟨rfl, ⟨_, hG⟩, ⟨rfl, rfl, rfl, trivial⟩, rfl⟩
    · rw [if_neg c2] at hG
      repeat' (first | refine zcm ?_ | (refine zap rfl ?_; first | refine zan rfl ?_) | refine zch ?_)
      exact cut_end ⟨rfl, ⟨_, hG⟩, ⟨rfl, rfl, rfl, trivial⟩, rfl⟩
  dsimp only
  unfold Fo.roomN at hG
  repeat' (first | refine zck ?_ | refine zcp (by kernel_rfl) ?_ | (refine zap rfl ?_; first | refine zan rfl ?_ | refine zan rfl ?_ | refine zaa 0 rfl rfl rfl ?_ | refine reg_callGP [0] hG (F.all_cell x) (foCell w0 p F hF x (by omega)) rfl rfl rfl sub_nil (fun c s hb hG => ?_) | refine zan rfl ?_ | refine zbx rfl ?_) | refine zch ?_)
  refine run_condV rfl (fun hE => ?_) (fun hE => ?_)
  · have hE : c.2 = false := by simpa using hE
    simp only [hE, Bool.false_eq_true, if_false] at hG
    rw [hG.done]
    repeat' (first | refine zck ?_ | refine zcp (by kernel_rfl) ?_ | (refine zap rfl ?_; first | refine zan rfl ?_) | refine zch ?_)
    exact ret_tmp1 rfl ⟨rfl, rfl⟩
  have hE : c.2 = true := by simpa using hE
  simp only [hE, if_true] at hG
  repeat' (first | refine zck ?_ | refine zcp (by kernel_rfl) ?_ | refine zcm ?_ | (refine zap rfl ?_; first | refine zan rfl ?_ | refine zan rfl ?_ | refine zaa 0 rfl rfl rfl ?_ | refine reg_callG [0] hG (foTake w0 p F hF) rfl rfl rfl sub_nil (fun t s hG => ?_) | refine zan rfl ?_ | refine zbp rfl rfl ?_) | refine zch ?_)
  refine run_cond rfl (fun hE => ?_) (fun hE => ?_)
  · rw [if_pos hE] at hG
    rw [hG.done]
    repeat' (first | refine zck ?_ | refine zcp (by kernel_rfl) ?_ | (refine zap rfl ?_; first | refine zan rfl ?_ | refine zan rfl ?_) | refine zch ?_)
    exact ret_tmp1 rfl ⟨rfl, rfl⟩
  rw [if_neg hE] at hG
  repeat' (first | refine zck ?_ | refine zcp (by kernel_rfl) ?_ | refine zcm ?_ | (refine zap rfl ?_; first | refine zan rfl ?_ | refine zan rfl ?_ | refine reg_callG [0] hG (putG w0 p _ _) rfl rfl rfl sub_nil (fun u s hG => ?_)) | refine zch ?_)
  rw [hG.done]
  exact ret_tmp1 rfl ⟨rfl, rfl⟩
end Go.Proofs.YtgdhcgnmffgkiaaGreatDoor

