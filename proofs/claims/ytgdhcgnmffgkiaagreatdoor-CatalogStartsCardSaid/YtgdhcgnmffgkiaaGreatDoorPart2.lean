import Derived.Test.YtgdhcgnmffgkiaaGreatDoorPart1
import Derived.Test.YtgdhcgnmffgkiaaGreatDoorKit
/- Lemmas and walks for the claims of this seat (own work): Po0 Po1 Po2 Qu0 Qu1 Qu2 Tr0 Tw0 Tw1. -/
namespace Sim
open Go Go.Vc
def Pl.addP (P : Pl) (c n : Int) : Pg Unit := do
  let v ← Pg.gt (P.root + c)
  let _ ← Pg.pt (P.root + c) (w64 (v + n))
  pure ()
def Pl.takeP (P : Pl) : Pg (Int × Int) := do
  let first ← Pg.gt P.root
  if first ≠ 0 then
    if P.node first = true then do
      let x ← Pg.gt first
      let _ ← Pg.pt P.root x
      let _ ← P.addP 2 (-1)
      pure (first, 0)
    else pure (0, 24)
  else do
    let n ← Pg.gt (P.root + 1)
    if n < 0 ∨ P.nodes ≤ n then pure (0, 9) else do
      let _ ← Pg.pt (P.root + 1) (n + 1)
      pure (P.frm + 8 * n, 0)
def Pl.giveP (P : Pl) (a : Int) : Pg Int :=
  if P.node a = true then do
    let f ← Pg.gt P.root
    let _ ← Pg.pt a f
    let _ ← Pg.pt P.root a
    let _ ← P.addP 2 1
    pure 0
  else pure 1
def encI2 (r : Int × Int) : Value := .tuple #[.int .i64 r.1, .int .i64 r.2]
def encU (_ : Unit) : Value := .tuple #[]
theorem bd_takeP (P : Pl) : Pg.Bd 2 P.takeP := by
  intro v
  dsimp only
  refine Pg.bd_ite (Pg.bd_ite (fun _ => fun _ => trivial) trivial) (fun _ => Pg.bd_ite trivial trivial)
theorem bd_giveP (P : Pl) (a : Int) : Pg.Bd 3 (P.giveP a) := Pg.bd_ite (fun _ => fun _ => trivial) trivial
end Sim
namespace Go.Proofs.YtgdhcgnmffgkiaaGreatDoor
open Go.Vc Sim
theorem addG (w0 : World) (p : Nat) (P : Pl) (hP : P.Ok) (c m : Int) (hc : 0 ≤ c ∧ c ≤ 3) : FnG w0 [] 269 [poolV P, spP p, .int .i64 c, .int .i64 m] p (P.addP c m) encU := by
  obtain ⟨_, h1, h2, h3, h4, h5, h6⟩ := id hP
  intro s hF; have hG := At.start hF; generalize Pg.run _ s = R at hG ⊢
  refine fn_of_run en269 fn269 rfl rfl rfl ?_
  repeat (first | refine zck ?_ | refine zcl ?_ | refine zcm ?_ | refine zcn ?_)
  first | refine zcp (by kernel_rfl) ?_ | refine zcq PP_mixed (by kernel_rfl) (by kernel_rfl) ?_
  repeat' (refine zap rfl ?_; first | refine zaq (cs := [_, _, _]) rfl (fun nb => ?_))
  all_goals refine zch ?_
  all_goals repeat (first | refine zck ?_ | refine zcl ?_ | refine zcm ?_ | refine zcn ?_)
  refine run_share [1] rfl ?_
  repeat' (first | refine zcq PP_mixed (by kernel_rfl) (by kernel_rfl) ?_ | (refine zap rfl ?_; first | refine reg_add (t := 2) rfl rfl ?_ | refine zan rfl ?_ | refine zaa 0 rfl rfl rfl ?_ | refine reg_callG [0] hG (getG w0 p _) rfl rfl rfl sub_nil (fun x s hG => ?_) | refine reg_callG [0] hG (putG w0 p _ _) rfl rfl rfl sub_nil (fun x s hG => ?_) | refine zao rfl ?_ | refine zau rfl rfl (by omega) ?_) | refine zch ?_)
  rw [hG.done]
  refine end_tmp0 rfl ⟨rfl, rfl⟩
end Go.Proofs.YtgdhcgnmffgkiaaGreatDoor

namespace Go.Proofs.YtgdhcgnmffgkiaaGreatDoor
open Go.Vc Sim
theorem takeG (w0 : World) (p : Nat) (P : Pl) (hP : P.Ok) : FnG w0 [] 111 [poolV P, spP p] p P.takeP encI2 := by
  obtain ⟨_, h1, h2, h3, h4, h5, h6⟩ := id hP
  intro s hF; have hG := At.start hF; generalize Pg.run _ s = R at hG ⊢
  refine fn_of_run en111 fn111 rfl rfl rfl ?_
  repeat (first | refine zck ?_ | refine zcl ?_ | refine zcm ?_ | refine zcn ?_)
  first | refine zcp (by kernel_rfl) ?_ | refine zcq PP_mixed (by kernel_rfl) (by kernel_rfl) ?_
  repeat' (refine zap rfl ?_; first | refine zan rfl ?_ | refine zaq (cs := [_, _, _]) rfl (fun nb => ?_))
  all_goals refine zch ?_
  all_goals repeat (first | refine zck ?_ | refine zcl ?_ | refine zcm ?_ | refine zcn ?_)
  refine run_share [1] rfl ?_
  repeat' (first | refine zck ?_ | refine zcp (by kernel_rfl) ?_ | refine zcm ?_ | (refine zap rfl ?_; first | refine zan rfl ?_ | refine zan rfl ?_ | refine zaa 0 rfl rfl rfl ?_ | refine zah [] (check_spec w0 P hP) rfl rfl rfl sub_nil rfl ?_ | refine reg_callG [0] hG (getG w0 p _) rfl rfl rfl sub_nil (fun x s hG => ?_) | refine zao rfl ?_ | refine zbp rfl rfl ?_) | refine zch ?_ | refine zcj rfl ?_)
  refine run_cond rfl (fun hE => ?_) (fun hE => ?_)
  · simp only [if_pos hE] at hG
    repeat' (first | refine zck ?_ | refine zcp (by kernel_rfl) ?_ | (refine zap rfl ?_; first | refine zan rfl ?_ | refine zan rfl ?_ | refine zaa 0 rfl rfl rfl ?_ | refine zah [] (node_spec w0 P hP _) rfl rfl rfl sub_nil rfl ?_ | refine zan rfl ?_ | refine zbx rfl ?_) | refine zch ?_)
    refine run_condV rfl (fun hN => ?_) (fun hN => ?_)
    · have hN : P.node x = false := by simpa using hN
      simp only [hN, Bool.false_eq_true, if_false] at hG
      repeat' (first | refine zck ?_ | refine zcp (by kernel_rfl) ?_ | (refine zap rfl ?_; first | refine zan rfl ?_) | refine zch ?_)
      rw [hG.done]
      exact ret_tmp2 rfl ⟨rfl, rfl⟩
    · have hN : P.node x = true := by simpa using hN
      simp only [hN, if_true] at hG
      repeat' (first | refine zck ?_ | refine zcp (by kernel_rfl) ?_ | refine zcq PP_mixed (by kernel_rfl) (by kernel_rfl) ?_ | refine zcm ?_ | (refine zap rfl ?_; first | refine zan rfl ?_ | refine zan rfl ?_ | refine zaa 0 rfl rfl rfl ?_ | refine reg_callG [0] hG (getG w0 p _) rfl rfl rfl sub_nil (fun x s hG => ?_) | refine reg_callG [0] hG (putG w0 p _ _) rfl rfl rfl sub_nil (fun x s hG => ?_) | refine reg_callG [0] hG (addG w0 p P hP _ _ (by decide)) rfl rfl rfl sub_nil (fun x s hG => ?_) | refine zao rfl ?_) | refine zch ?_)
      rw [hG.done]
      exact ret_tmp2 rfl ⟨rfl, rfl⟩
  · simp only [if_neg hE] at hG
    repeat' (first | refine zck ?_ | refine zcp (by kernel_rfl) ?_ | refine zcm ?_ | (refine zap rfl ?_; first | refine zaj rfl ?_ | refine zak rfl ?_ | refine zam rfl rfl (fun _ => ?_) (fun _ => ?_) | refine zan rfl ?_ | refine zan rfl ?_ | refine zaa 0 rfl rfl rfl ?_ | refine reg_callG [0] hG (getG w0 p _) rfl rfl rfl sub_nil (fun x s hG => ?_) | refine zao rfl ?_ | refine zau rfl rfl (by omega) ?_ | refine zbq rfl rfl ?_ | refine zbt rfl rfl ?_ | refine zbu rfl ?_ | refine zbv rfl ?_) | refine zch ?_ | refine zci rfl ?_ | refine run_cond rfl (fun _ => ?_) (fun _ => ?_))
    all_goals first | rw [if_pos (by omega)] at hG | rw [if_neg (by omega)] at hG
    · rw [hG.done]
      exact ret_tmp2 rfl ⟨rfl, rfl⟩
    · rw [hG.done]
      exact ret_tmp2 rfl ⟨rfl, rfl⟩
    · repeat' (first | refine zck ?_ | refine zcp (by kernel_rfl) ?_ | (refine zap rfl ?_; first | refine zan rfl ?_ | refine zan rfl ?_ | refine zaa 0 rfl rfl rfl ?_ | refine reg_callG [0] hG (putG w0 p _ _) rfl rfl rfl sub_nil (fun x s hG => ?_) | refine zao rfl ?_ | refine zau rfl rfl (by omega) ?_ | refine zaw rfl rfl (by omega) ?_) | refine zch ?_)
      rw [hG.done]
      exact ret_tmp2 rfl ⟨rfl, rfl⟩
end Go.Proofs.YtgdhcgnmffgkiaaGreatDoor

namespace Go.Proofs.YtgdhcgnmffgkiaaGreatDoor
open Go.Vc Sim
theorem giveG (w0 : World) (p : Nat) (P : Pl) (hP : P.Ok) (a : Int) : FnG w0 [] 114 [poolV P, spP p, .int .i64 a] p (P.giveP a) (.int .i64) := by
  obtain ⟨_, h1, h2, h3, h4, h5, h6⟩ := id hP
  intro s hF; have hG := At.start hF; generalize Pg.run _ s = R at hG ⊢
  refine fn_of_run en114 fn114 rfl rfl rfl ?_
  repeat (first | refine zck ?_ | refine zcl ?_ | refine zcm ?_ | refine zcn ?_)
  first | refine zcp (by kernel_rfl) ?_ | refine zcq PP_mixed (by kernel_rfl) (by kernel_rfl) ?_
  repeat' (refine zap rfl ?_; first | refine zan rfl ?_ | refine zaq (cs := [_, _, _]) rfl (fun nb => ?_))
  all_goals refine zch ?_
  all_goals repeat (first | refine zck ?_ | refine zcl ?_ | refine zcm ?_ | refine zcn ?_)
  refine run_share [1] rfl ?_
  repeat' (first | refine zck ?_ | refine zcp (by kernel_rfl) ?_ | (refine zap rfl ?_; first | refine zan rfl ?_ | refine zan rfl ?_ | refine zaa 0 rfl rfl rfl ?_ | refine zah [] (node_spec w0 P hP _) rfl rfl rfl sub_nil rfl ?_ | refine zan rfl ?_ | refine zbx rfl ?_) | refine zch ?_)
  refine run_condV rfl (fun hE => ?_) (fun hE => ?_)
  · have hE : P.node a = false := by simpa using hE
    simp only [Pl.giveP, hE, Bool.false_eq_true, if_false] at hG
    repeat' (first | refine zck ?_ | refine zcp (by kernel_rfl) ?_ | (refine zap rfl ?_; first | refine zan rfl ?_) | refine zch ?_)
    rw [hG.done]
    exact ret_tmp1 rfl ⟨rfl, rfl⟩
  · have hE : P.node a = true := by simpa using hE
    simp only [Pl.giveP, hE, if_true] at hG
    repeat' (first | refine zck ?_ | refine zcp (by kernel_rfl) ?_ | refine zcm ?_ | (refine zap rfl ?_; first | refine zan rfl ?_ | refine zan rfl ?_ | refine zaa 0 rfl rfl rfl ?_ | refine reg_callG [0] hG (getG w0 p _) rfl rfl rfl sub_nil (fun x s hG => ?_) | refine reg_callG [0] hG (putG w0 p _ _) rfl rfl rfl sub_nil (fun x s hG => ?_) | refine reg_callG [0] hG (addG w0 p P hP _ _ (by decide)) rfl rfl rfl sub_nil (fun x s hG => ?_) | refine zao rfl ?_) | refine zch ?_)
    rw [hG.done]
    exact ret_tmp1 rfl ⟨rfl, rfl⟩
end Go.Proofs.YtgdhcgnmffgkiaaGreatDoor

namespace Sim
open Go Go.Vc
def Qu.after (m : Nat) (e : Int) : Pg Int := if e ≠ 0 then do
    let _ ← Pg.bk m
    pure e
  else pure e
def Qu.tail (r v a : Int) : Pg Int := do
  let _ ← Pg.pt (w64 (a + 0)) v
  let _ ← Pg.pt (w64 (a + 1)) 0
  let _ ← Pg.pt (w64 (r + 1)) a
  let h ← Pg.gt (w64 (r + 7))
  let _ ← Pg.pt (w64 (r + 7)) (w64 (h + 1))
  pure 0
def Qu.putIn (P : Pl) (r v : Int) : Pg Int := do
  let t ← P.takeP
  if t.2 ≠ 0 then pure t.2 else do
    let e ← Pg.gt (w64 (r + 1))
    if e = 0 then do
      let _ ← Pg.pt (w64 (r + 0)) t.1
      Qu.tail r v t.1
    else if P.node e = true then do
      let _ ← Pg.pt (w64 (e + 1)) t.1
      Qu.tail r v t.1
    else pure 24
def Qu.put (P : Pl) (r v : Int) : Pg Int := do
  let m ← Pg.mk
  let e ← Qu.putIn P r v
  Qu.after m e
def Qu.takeIn (P : Pl) (r : Int) : Pg (Int × Int) := do
  let a ← Pg.gt (w64 (r + 0))
  if a = 0 then pure (0, 8) else
  if P.node a = true then do
    let v ← Pg.gt (w64 (a + 0))
    let b ← Pg.gt (w64 (a + 1))
    let e ← P.giveP a
    if e ≠ 0 then pure (0, e) else do
      let _ ← Pg.pt (w64 (r + 0)) b
      if b = 0 then do
        let _ ← Pg.pt (w64 (r + 1)) 0
        let h ← Pg.gt (w64 (r + 7))
        let _ ← Pg.pt (w64 (r + 7)) (w64 (h - 1))
        pure (v, 0)
      else do
        let h ← Pg.gt (w64 (r + 7))
        let _ ← Pg.pt (w64 (r + 7)) (w64 (h - 1))
        pure (v, 0)
  else pure (0, 24)
def Qu.after2 (m : Nat) (q : Int × Int) : Pg (Int × Int) := if q.2 ≠ 0 then do
    let _ ← Pg.bk m
    pure q
  else pure q
def Qu.take (P : Pl) (r : Int) : Pg (Int × Int) := do
  let m ← Pg.mk
  let e ← Qu.takeIn P r
  Qu.after2 m e
def Qu.first (r : Int) : Pg (Int × Int) := do
  let a ← Pg.gt (w64 (r + 0))
  if a = 0 then pure (0, 8) else do
    let v ← Pg.gt (w64 (a + 0))
    pure (v, 0)
def Qu.len (r : Int) : Pg Int := Pg.gt (w64 (r + 7))
namespace Qu
open Pg
theorem bd_after (m : Nat) (e : Int) : Bd 0 (after m e) := by unfold after; repeat' first | exact bd_pure _ | with_reducible refine bd_ite ?_ ?_ | with_reducible refine bd_then (bd_gt0 _) ?_ (by decide) | with_reducible refine bd_then (bd_pt _ _) ?_ (by decide) | with_reducible refine bd_then bd_mk0 ?_ (by decide) | with_reducible refine bd_then (bd_bk0 _) ?_ (by decide) | intro _
theorem bd_after2 (m : Nat) (e : Int × Int) : Bd 0 (after2 m e) := by unfold after2; repeat' first | exact bd_pure _ | with_reducible refine bd_ite ?_ ?_ | with_reducible refine bd_then (bd_gt0 _) ?_ (by decide) | with_reducible refine bd_then (bd_pt _ _) ?_ (by decide) | with_reducible refine bd_then bd_mk0 ?_ (by decide) | with_reducible refine bd_then (bd_bk0 _) ?_ (by decide) | intro _
theorem bd_tail (r v a : Int) : Bd 4 (tail r v a) := by unfold tail; repeat' first | exact bd_pure _ | with_reducible refine bd_ite ?_ ?_ | with_reducible refine bd_then (bd_gt0 _) ?_ (by decide) | with_reducible refine bd_then (bd_pt _ _) ?_ (by decide) | with_reducible refine bd_then bd_mk0 ?_ (by decide) | with_reducible refine bd_then (bd_bk0 _) ?_ (by decide) | intro _
theorem bd_putIn (P : Pl) (r v : Int) : Bd 7 (putIn P r v) := by unfold putIn; repeat' first | with_reducible refine bd_then (bd_takeP _) ?_ (by decide) | exact (bd_tail _ _ _).mono (by decide) | exact bd_pure _ | with_reducible refine bd_ite ?_ ?_ | with_reducible refine bd_then (bd_gt0 _) ?_ (by decide) | with_reducible refine bd_then (bd_pt _ _) ?_ (by decide) | with_reducible refine bd_then bd_mk0 ?_ (by decide) | with_reducible refine bd_then (bd_bk0 _) ?_ (by decide) | intro _
theorem bd_put (P : Pl) (r v : Int) : Bd 7 (put P r v) := by unfold put; repeat' first | with_reducible refine bd_then (bd_putIn _ _ _) ?_ (by decide) | exact (bd_after _ _).mono (by decide) | exact bd_pure _ | with_reducible refine bd_ite ?_ ?_ | with_reducible refine bd_then (bd_gt0 _) ?_ (by decide) | with_reducible refine bd_then (bd_pt _ _) ?_ (by decide) | with_reducible refine bd_then bd_mk0 ?_ (by decide) | with_reducible refine bd_then (bd_bk0 _) ?_ (by decide) | intro _
theorem bd_takeIn (P : Pl) (r : Int) : Bd 6 (takeIn P r) := by unfold takeIn; repeat' first | with_reducible refine bd_then (bd_giveP _ _) ?_ (by decide) | exact bd_pure _ | with_reducible refine bd_ite ?_ ?_ | with_reducible refine bd_then (bd_gt0 _) ?_ (by decide) | with_reducible refine bd_then (bd_pt _ _) ?_ (by decide) | with_reducible refine bd_then bd_mk0 ?_ (by decide) | with_reducible refine bd_then (bd_bk0 _) ?_ (by decide) | intro _
theorem bd_take (P : Pl) (r : Int) : Bd 6 (take P r) := by unfold take; repeat' first | with_reducible refine bd_then (bd_takeIn _ _) ?_ (by decide) | exact (bd_after2 _ _).mono (by decide) | exact bd_pure _ | with_reducible refine bd_ite ?_ ?_ | with_reducible refine bd_then (bd_gt0 _) ?_ (by decide) | with_reducible refine bd_then (bd_pt _ _) ?_ (by decide) | with_reducible refine bd_then bd_mk0 ?_ (by decide) | with_reducible refine bd_then (bd_bk0 _) ?_ (by decide) | intro _
theorem bd_first (r : Int) : Bd 0 (first r) := by unfold first; repeat' first | exact bd_pure _ | with_reducible refine bd_ite ?_ ?_ | with_reducible refine bd_then (bd_gt0 _) ?_ (by decide) | with_reducible refine bd_then (bd_pt _ _) ?_ (by decide) | with_reducible refine bd_then bd_mk0 ?_ (by decide) | with_reducible refine bd_then (bd_bk0 _) ?_ (by decide) | intro _
theorem bd_len (r : Int) : Bd 0 (len r) := bd_gt0 _
end Qu
end Sim

namespace Go.Proofs.YtgdhcgnmffgkiaaGreatDoor
open Go.Vc Sim
set_option maxHeartbeats 4000000
abbrev erV (eb : Nat) (e : Int) : Asn := pt eb (.cells (List.toArray [.int .i64 e]) 39 (0, 0))
theorem quUndo (w0 : World) (p : Nat) (s : Sp) (m : Nat) (eb : Nat) (e : Int) : FnD PP w0 [] 115 [spP p, .int .i64 m, .pointer (some ⟨eb, 0, none⟩)] [SpaceA p s, erV eb e]
    fun v Γ' => v = .tuple #[] ∧ Γ' = [SpaceA p (if e ≠ 0 then s.back m else s), erV eb e] := by
  refine fnD_of_run en115 fn115 rfl rfl rfl ?_
 
  repeat' (first | refine zck ?_ | refine zcp (by kernel_rfl) ?_ | (refine zap rfl ?_; first | refine zan rfl ?_ | refine zab 1 rfl rfl rfl ?_ | refine zbp rfl rfl ?_ | refine zan rfl ?_) | refine zch ?_)
  refine run_cond rfl (fun hE => ?_) (fun hE => ?_)
  · repeat' (first | refine zcp (by kernel_rfl) ?_ | (refine zap rfl ?_; first | refine zan rfl ?_ | refine zah [0] (back_spec w0 p s m) rfl rfl rfl sub_nil rfl ?_) | refine zch ?_)
    refine run_nil ⟨rfl, ends_none rfl ?_⟩
    rw [if_pos hE]; exact ⟨rfl, rfl⟩
  · repeat' (first | refine zcm ?_ | (refine zap rfl ?_; first | refine zaj rfl ?_ | refine zak rfl ?_ | refine zal rfl ?_ | refine zam rfl rfl (fun _ => ?_) (fun _ => ?_)) | refine zch ?_)
    refine run_nil ⟨rfl, ends_none rfl ?_⟩
    rw [if_neg hE]; exact ⟨rfl, rfl⟩
theorem quNode (w0 : World) (P : Pl) (hP : P.Ok) (n : Int) : FnE PP w0 [] 116 [poolV P, .int .i64 n] [] (.bool (P.node n)) [] := by
  refine fn_of_run en116 fn116 rfl rfl rfl ?_
  repeat (first | refine zck ?_ | refine zcl ?_ | refine zcm ?_ | refine zcn ?_)
  first | refine zcp (by kernel_rfl) ?_ | refine zcq PP_mixed (by kernel_rfl) (by kernel_rfl) ?_
  repeat' (refine zap rfl ?_; first | refine zan rfl ?_ | refine zaq (cs := [_, _, _]) rfl (fun nb => ?_))
  all_goals refine zch ?_
  all_goals repeat (first | refine zck ?_ | refine zcl ?_ | refine zcm ?_ | refine zcn ?_)
  refine run_share [0] rfl ?_
  repeat' (first | refine zck ?_ | refine zcp (by kernel_rfl) ?_ | (refine zap rfl ?_; first | refine zan rfl ?_ | refine zan rfl ?_ | refine zaa 0 rfl rfl rfl ?_ | refine zah [] (node_spec w0 P hP _) rfl rfl rfl sub_nil rfl ?_ | refine zan rfl ?_) | refine zch ?_)
  exact ret_tmp1 rfl ⟨rfl, rfl⟩
def quD (p eb : Nat) (m : Nat) : Deferred := { target := .fn (.func 115) #[], args := List.toArray [spP p, .int .i64 m, .pointer (some ⟨eb, 0, none⟩)] }
theorem quLen (w0 : World) (p : Nat) (r : Int) : FnG w0 [] 53 [spP p, .int .i64 r] p (Qu.len r) (.int .i64) := by
  intro s hS; have hG := At.start hS; generalize Pg.run _ s = R at hG ⊢
  refine fn_of_run en53 fn53 rfl rfl rfl ?_
  unfold Qu.len at hG
  repeat' (first | refine zck ?_ | refine zcp (by kernel_rfl) ?_ | (refine zap rfl ?_; first | refine reg_add rfl rfl ?_ | refine zan rfl ?_ | refine zan rfl ?_ | refine reg_callG [0] hG (getG w0 p _) rfl rfl rfl sub_nil (fun x s hG => ?_)) | refine zch ?_)
  rw [hG.done]
  exact ret_tmp1 rfl ⟨rfl, rfl⟩
theorem quFirst (w0 : World) (p : Nat) (r : Int) : FnG w0 [] 52 [spP p, .int .i64 r] p (Qu.first r) encI2 := by
  intro s hS; have hG := At.start hS; generalize Pg.run _ s = R at hG ⊢
  refine fn_of_run en52 fn52 rfl rfl rfl ?_
  unfold Qu.first at hG
  repeat' (first | refine zck ?_ | refine zcp (by kernel_rfl) ?_ | (refine zap rfl ?_; first | refine reg_add rfl rfl ?_ | refine zan rfl ?_ | refine zan rfl ?_ | refine reg_callG [0] hG (getG w0 p _) rfl rfl rfl sub_nil (fun x s hG => ?_) | refine zbo rfl rfl ?_) | refine zch ?_)
  refine run_cond rfl (fun hE => ?_) (fun hE => ?_)
  · rw [if_pos hE] at hG
    rw [hG.done]
    repeat' (first | refine zck ?_ | refine zcp (by kernel_rfl) ?_ | (refine zap rfl ?_; first | refine zan rfl ?_) | refine zch ?_)
    exact ret_tmp2 rfl ⟨rfl, rfl⟩
  · rw [if_neg hE] at hG
    repeat' (first | refine zck ?_ | refine zcp (by kernel_rfl) ?_ | refine zcm ?_ | (refine zap rfl ?_; first | refine reg_add rfl rfl ?_ | refine zan rfl ?_ | refine zan rfl ?_ | refine reg_callG [0] hG (getG w0 p _) rfl rfl rfl sub_nil (fun x s hG => ?_)) | refine zch ?_)
    rw [hG.done]
    exact ret_tmp2 rfl ⟨rfl, rfl⟩
theorem quPut_fin (w0 : World) (p eb m : Nat) (R : Int × Sp) (e : Int) (s : Sp) (ρ : Env) (h8 : ρ 8 = .int .i64 e) (hG : At R (Qu.after m e) s) :
    LeavesS PP w0 [] Tryz.f50 ρ [quD p eb m] [SpaceA p s, erV eb e] (fun v Γ => v = .int .i64 R.1 ∧ Γ = [SpaceA p R.2]) := by
  refine leaves_defer1 [0, 0] (quUndo w0 p s m eb e) rfl rfl sub_nil ?_
  refine leaves_nil (ends_take [0] rfl (ends_one rfl h8 ?_))
  refine ⟨rfl, ?_⟩
  unfold Qu.after at hG
  by_cases hE : e ≠ 0
  · rw [if_pos hE] at hG
    rw [hG.step.2.done, if_pos hE]
    exact ⟨rfl, rfl⟩
  · rw [if_neg hE] at hG
    rw [hG.done, if_neg hE]
    exact ⟨rfl, rfl⟩
theorem quPut (w0 : World) (p : Nat) (P : Pl) (hP : P.Ok) (r v : Int) : FnG w0 [] 50 [spP p, poolV P, .int .i64 r, .int .i64 v] p (Qu.put P r v) (.int .i64) := by
  intro s hS
  have hG := At.start hS
  generalize Pg.run _ s = R at hG ⊢
  simp only [Qu.put, Qu.putIn, Pg.bind_assoc, Pg.ite_bind, Pg.pure_bind] at hG
  refine fn_of_run en50 fn50 rfl rfl rfl ?_
  repeat (first | refine zck ?_ | refine zcl ?_ | refine zcm ?_ | refine zcn ?_)
  first | refine zcp (by kernel_rfl) ?_ | refine zcq PP_mixed (by kernel_rfl) (by kernel_rfl) ?_
  repeat' (refine zap rfl ?_; first | refine zan rfl ?_ | refine zaq (cs := [_, _, _]) rfl (fun nb => ?_))
  all_goals refine zch ?_
  all_goals repeat (first | refine zck ?_ | refine zcl ?_ | refine zcm ?_ | refine zcn ?_)
  refine run_share [1] rfl ?_
  repeat (first | refine zck ?_ | refine zcl ?_ | refine zcm ?_ | refine zcn ?_)
  first | refine zcp (by kernel_rfl) ?_ | refine zcq PP_mixed (by kernel_rfl) (by kernel_rfl) ?_
  repeat' (refine zap rfl ?_; first | refine zar (fun eb => ?_))
  all_goals refine zch ?_
  all_goals repeat (first | refine zck ?_ | refine zcl ?_ | refine zcm ?_ | refine zcn ?_)
  repeat (first | refine zck ?_ | refine zcl ?_ | refine zcm ?_ | refine zcn ?_)
  first | refine zcp (by kernel_rfl) ?_ | refine zcq PP_mixed (by kernel_rfl) (by kernel_rfl) ?_
  repeat' (refine zap rfl ?_; first | refine zcd rfl rfl ?_ | refine zan rfl ?_ | refine reg_callG [0] hG (markG w0 p) rfl rfl rfl sub_nil (fun m s hG => ?_))
  all_goals refine zch ?_
  all_goals repeat (first | refine zck ?_ | refine zcl ?_ | refine zcm ?_ | refine zcn ?_)
  repeat (first | refine zck ?_ | refine zcl ?_ | refine zcm ?_ | refine zcn ?_)
  first | refine zcp (by kernel_rfl) ?_ | refine zcq PP_mixed (by kernel_rfl) (by kernel_rfl) ?_
  repeat' (refine zap rfl ?_; first | refine zan rfl ?_)
  all_goals refine zch ?_
  all_goals repeat (first | refine zck ?_ | refine zcl ?_ | refine zcm ?_ | refine zcn ?_)
  repeat (first | refine zck ?_ | refine zcl ?_ | refine zcm ?_ | refine zcn ?_)
  first | refine zcp (by kernel_rfl) ?_ | refine zcq PP_mixed (by kernel_rfl) (by kernel_rfl) ?_
  repeat' (refine zap rfl ?_; first | refine zan rfl ?_ | refine zan rfl ?_ | refine zaa 0 rfl rfl rfl ?_ | refine reg_callG [0] hG (takeG w0 p P hP) rfl rfl rfl sub_nil (fun t s hG => ?_) | refine zan rfl ?_ | refine zae 1 rfl rfl rfl rfl rfl rfl rfl ?_)
  all_goals refine zch ?_
  all_goals repeat (first | refine zck ?_ | refine zcl ?_ | refine zcm ?_ | refine zcn ?_)
  obtain ⟨a, e⟩ := t
  dsimp only at hG
  repeat (first | refine zck ?_ | refine zcl ?_ | refine zcm ?_ | refine zcn ?_)
  first | refine zcp (by kernel_rfl) ?_ | refine zcq PP_mixed (by kernel_rfl) (by kernel_rfl) ?_
  repeat' (refine zap rfl ?_; first | refine zab 1 rfl rfl rfl ?_ | refine zbp rfl rfl ?_)
  all_goals refine zch ?_
  all_goals repeat (first | refine zck ?_ | refine zcl ?_ | refine zcm ?_ | refine zcn ?_)
  refine run_cond rfl (fun hE => ?_) (fun hE => ?_)
  · rw [if_pos hE] at hG
    repeat (first | refine zck ?_ | refine zcl ?_ | refine zcm ?_ | refine zcn ?_)
    first | refine zcp (by kernel_rfl) ?_ | refine zcq PP_mixed (by kernel_rfl) (by kernel_rfl) ?_
    repeat' (refine zap rfl ?_; first | refine zan rfl ?_ | refine zab 1 rfl rfl rfl ?_)
    all_goals refine zch ?_
    all_goals repeat (first | refine zck ?_ | refine zcl ?_ | refine zcm ?_ | refine zcn ?_)
    exact run_ret (quPut_fin w0 p eb m R e s _ rfl hG)
  rw [if_neg hE] at hG
  have hE : e = 0 := by simpa using hE
  subst hE
  repeat (first | refine zck ?_ | refine zcl ?_ | refine zcm ?_ | refine zcn ?_)
  first | refine zcp (by kernel_rfl) ?_ | refine zcq PP_mixed (by kernel_rfl) (by kernel_rfl) ?_
  repeat' (refine zap rfl ?_; first | refine reg_add rfl rfl ?_ | refine zan rfl ?_ | refine zan rfl ?_ | refine reg_callG [0] hG (getG w0 p _) rfl rfl rfl sub_nil (fun en s hG => ?_))
  all_goals refine zch ?_
  all_goals repeat (first | refine zck ?_ | refine zcl ?_ | refine zcm ?_ | refine zcn ?_)
  by_cases hn : en = 0
  · subst hn
    rw [if_pos rfl] at hG
    simp only [Qu.tail, Pg.bind_assoc, Pg.pure_bind] at hG
    repeat' (first | refine zck ?_ | refine zcp (by kernel_rfl) ?_ | refine zcn ?_ | (refine zap rfl ?_; first | refine reg_add rfl rfl ?_ | refine zan rfl ?_ | refine zan rfl ?_ | refine zab 1 rfl rfl rfl ?_ | refine reg_callG [0] hG (getG w0 p _) rfl rfl rfl sub_nil (fun x s hG => ?_) | refine reg_callG [0] hG (putG w0 p _ _) rfl rfl rfl sub_nil (fun u s hG => ?_) | refine zbc rfl rfl (by omega) ?_) | refine zch ?_ | refine zci rfl ?_)
    exact run_ret (quPut_fin w0 p eb m R 0 s _ rfl hG)
  rw [if_neg hn] at hG
  cases hN : P.node en with
  | true =>
    rw [hN, if_pos rfl] at hG
    have kn := quNode w0 P hP en
    rw [hN] at kn
    simp only [Qu.tail, Pg.bind_assoc, Pg.pure_bind] at hG
    repeat' (first | refine zck ?_ | refine zcp (by kernel_rfl) ?_ | refine zcn ?_ | (refine zap rfl ?_; first | refine reg_add rfl rfl ?_ | refine zan rfl ?_ | refine zan rfl ?_ | refine zaa 0 rfl rfl rfl ?_ | refine zab 1 rfl rfl rfl ?_ | refine zah [] kn rfl rfl rfl sub_nil rfl ?_ | refine reg_callG [0] hG (getG w0 p _) rfl rfl rfl sub_nil (fun x s hG => ?_) | refine reg_callG [0] hG (putG w0 p _ _) rfl rfl rfl sub_nil (fun u s hG => ?_) | refine zbd rfl rfl (by omega) ?_ | refine zbx rfl ?_) | refine zch ?_ | refine zcj rfl ?_)
    exact run_ret (quPut_fin w0 p eb m R 0 s _ rfl hG)
  | false =>
    rw [hN, if_neg (by decide)] at hG
    have kn := quNode w0 P hP en
    rw [hN] at kn
    try simp only [Pg.pure_bind] at hG
    repeat' (first | refine zck ?_ | refine zcp (by kernel_rfl) ?_ | (refine zap rfl ?_; first | refine zan rfl ?_ | refine zan rfl ?_ | refine zaa 0 rfl rfl rfl ?_ | refine zab 1 rfl rfl rfl ?_ | refine zah [] kn rfl rfl rfl sub_nil rfl ?_ | refine zbd rfl rfl (by omega) ?_ | refine zbx rfl ?_ | refine zae 1 rfl rfl rfl rfl rfl rfl rfl ?_) | refine zch ?_ | refine zci rfl ?_ | refine zcj rfl ?_)
    exact run_ret (quPut_fin w0 p eb m R 24 s _ rfl hG)
end Go.Proofs.YtgdhcgnmffgkiaaGreatDoor

namespace Go.Proofs.YtgdhcgnmffgkiaaGreatDoor
open Go.Vc Sim
set_option maxHeartbeats 4000000
theorem quTake_fin (w0 : World) (p eb m : Nat) (R : (Int × Int) × Sp) (q : Int × Int) (s : Sp) (ρ : Env) (h6 : ρ 6 = .int .i64 q.1) (h7 : ρ 7 = .int .i64 q.2) (hG : At R (Qu.after2 m q) s) :
    LeavesS PP w0 [] Tryz.f51 ρ [quD p eb m] [SpaceA p s, erV eb q.2] (fun v Γ => v = encI2 R.1 ∧ Γ = [SpaceA p R.2]) := by
  refine leaves_defer1 [0, 0] (quUndo w0 p s m eb q.2) rfl rfl sub_nil ?_
  refine leaves_nil (ends_take [0] rfl (ends_two rfl h6 h7 ?_))
  refine ⟨rfl, ?_⟩
  unfold Qu.after2 at hG
  by_cases hE : q.2 ≠ 0
  · rw [if_pos hE] at hG
    rw [hG.step.2.done, if_pos hE]
    exact ⟨rfl, rfl⟩
  · rw [if_neg hE] at hG
    rw [hG.done, if_neg hE]
    exact ⟨rfl, rfl⟩
theorem quTake (w0 : World) (p : Nat) (P : Pl) (hP : P.Ok) (r : Int) : FnG w0 [] 51 [spP p, poolV P, .int .i64 r] p (Qu.take P r) encI2 := by
  intro s hS
  have hG := At.start hS
  generalize Pg.run _ s = R at hG ⊢
  simp only [Qu.take, Qu.takeIn, Pg.bind_assoc, Pg.ite_bind, Pg.pure_bind] at hG
  refine fn_of_run en51 fn51 rfl rfl rfl ?_
  repeat (first | refine zck ?_ | refine zcl ?_ | refine zcm ?_ | refine zcn ?_)
  first | refine zcp (by kernel_rfl) ?_ | refine zcq PP_mixed (by kernel_rfl) (by kernel_rfl) ?_
  repeat' (refine zap rfl ?_; first | refine zan rfl ?_ | refine zaq (cs := [_, _, _]) rfl (fun nb => ?_))
  all_goals refine zch ?_
  all_goals repeat (first | refine zck ?_ | refine zcl ?_ | refine zcm ?_ | refine zcn ?_)
  refine run_share [1] rfl ?_
  repeat (first | refine zck ?_ | refine zcl ?_ | refine zcm ?_ | refine zcn ?_)
  first | refine zcp (by kernel_rfl) ?_ | refine zcq PP_mixed (by kernel_rfl) (by kernel_rfl) ?_
  repeat' (refine zap rfl ?_; first | refine zar (fun eb => ?_))
  all_goals refine zch ?_
  all_goals repeat (first | refine zck ?_ | refine zcl ?_ | refine zcm ?_ | refine zcn ?_)
  repeat (first | refine zck ?_ | refine zcl ?_ | refine zcm ?_ | refine zcn ?_)
  first | refine zcp (by kernel_rfl) ?_ | refine zcq PP_mixed (by kernel_rfl) (by kernel_rfl) ?_
  repeat' (refine zap rfl ?_; first | refine zcd rfl rfl ?_ | refine zan rfl ?_ | refine reg_callG [0] hG (markG w0 p) rfl rfl rfl sub_nil (fun m s hG => ?_))
  all_goals refine zch ?_
  all_goals repeat (first | refine zck ?_ | refine zcl ?_ | refine zcm ?_ | refine zcn ?_)
  repeat (first | refine zck ?_ | refine zcl ?_ | refine zcm ?_ | refine zcn ?_)
  first | refine zcp (by kernel_rfl) ?_ | refine zcq PP_mixed (by kernel_rfl) (by kernel_rfl) ?_
  repeat' (refine zap rfl ?_; first | refine reg_add rfl rfl ?_ | refine zan rfl ?_ | refine zan rfl ?_ | refine reg_callG [0] hG (getG w0 p _) rfl rfl rfl sub_nil (fun a s hG => ?_))
  all_goals refine zch ?_
  all_goals repeat (first | refine zck ?_ | refine zcl ?_ | refine zcm ?_ | refine zcn ?_)
  by_cases ha : a = 0
  · subst ha
    rw [if_pos rfl] at hG
    repeat (first | refine zck ?_ | refine zcl ?_ | refine zcm ?_ | refine zcn ?_)
    first | refine zcp (by kernel_rfl) ?_ | refine zcq PP_mixed (by kernel_rfl) (by kernel_rfl) ?_
    repeat' (refine zap rfl ?_; first | refine zan rfl ?_ | refine zan rfl ?_ | refine zbc rfl rfl (by omega) ?_)
    all_goals refine zch ?_
    all_goals repeat (first | refine zck ?_ | refine zcl ?_ | refine zcm ?_ | refine zcn ?_)
    refine zci rfl ?_
    repeat (first | refine zck ?_ | refine zcl ?_ | refine zcm ?_ | refine zcn ?_)
    first | refine zcp (by kernel_rfl) ?_ | refine zcq PP_mixed (by kernel_rfl) (by kernel_rfl) ?_
    repeat' (refine zap rfl ?_; first | refine zae 1 rfl rfl rfl rfl rfl rfl rfl ?_)
    all_goals refine zch ?_
    all_goals repeat (first | refine zck ?_ | refine zcl ?_ | refine zcm ?_ | refine zcn ?_)
    refine run_share_keep [1] rfl ?_
    repeat (first | refine zck ?_ | refine zcl ?_ | refine zcm ?_ | refine zcn ?_ | refine zco ?_)
    repeat (first | refine zck ?_ | refine zcl ?_ | refine zcm ?_ | refine zcn ?_)
    first | refine zcp (by kernel_rfl) ?_ | refine zcq PP_mixed (by kernel_rfl) (by kernel_rfl) ?_
    repeat' (refine zap rfl ?_; first | refine zan rfl ?_ | refine zaa 0 rfl rfl rfl ?_)
    all_goals refine zch ?_
    all_goals repeat (first | refine zck ?_ | refine zcl ?_ | refine zcm ?_ | refine zcn ?_)
    exact run_ret (quTake_fin w0 p eb m R (0, 8) s _ rfl rfl hG)
  rw [if_neg ha] at hG
  have kn := quNode w0 P hP a
  cases hN : P.node a with
  | false =>
    rw [hN, if_neg (by decide)] at hG
    rw [hN] at kn
    repeat (first | refine zck ?_ | refine zcl ?_ | refine zcm ?_ | refine zcn ?_)
    first | refine zcp (by kernel_rfl) ?_ | refine zcq PP_mixed (by kernel_rfl) (by kernel_rfl) ?_
    repeat' (refine zap rfl ?_; first | refine zan rfl ?_ | refine zan rfl ?_ | refine zbd rfl rfl (by omega) ?_)
    all_goals refine zch ?_
    all_goals repeat (first | refine zck ?_ | refine zcl ?_ | refine zcm ?_ | refine zcn ?_)
    refine zcj rfl ?_
    repeat (first | refine zck ?_ | refine zcl ?_ | refine zcm ?_ | refine zcn ?_)
    first | refine zcp (by kernel_rfl) ?_ | refine zcq PP_mixed (by kernel_rfl) (by kernel_rfl) ?_
    repeat' (refine zap rfl ?_; first | refine zan rfl ?_ | refine zan rfl ?_ | refine zaa 0 rfl rfl rfl ?_ | refine zah [] kn rfl rfl rfl sub_nil rfl ?_ | refine zbx rfl ?_)
    all_goals refine zch ?_
    all_goals repeat (first | refine zck ?_ | refine zcl ?_ | refine zcm ?_ | refine zcn ?_)
    refine zci rfl ?_
    repeat (first | refine zck ?_ | refine zcl ?_ | refine zcm ?_ | refine zcn ?_)
    first | refine zcp (by kernel_rfl) ?_ | refine zcq PP_mixed (by kernel_rfl) (by kernel_rfl) ?_
    repeat' (refine zap rfl ?_; first | refine zae 1 rfl rfl rfl rfl rfl rfl rfl ?_)
    all_goals refine zch ?_
    all_goals repeat (first | refine zck ?_ | refine zcl ?_ | refine zcm ?_ | refine zcn ?_)
    refine run_share_keep [1] rfl ?_
    repeat (first | refine zck ?_ | refine zcl ?_ | refine zcm ?_ | refine zcn ?_ | refine zco ?_)
    repeat (first | refine zck ?_ | refine zcl ?_ | refine zcm ?_ | refine zcn ?_)
    first | refine zcp (by kernel_rfl) ?_ | refine zcq PP_mixed (by kernel_rfl) (by kernel_rfl) ?_
    repeat' (refine zap rfl ?_; first | refine zan rfl ?_ | refine zaa 0 rfl rfl rfl ?_)
    all_goals refine zch ?_
    all_goals repeat (first | refine zck ?_ | refine zcl ?_ | refine zcm ?_ | refine zcn ?_)
    exact run_ret (quTake_fin w0 p eb m R (0, 24) s _ rfl rfl hG)
  | true =>
    rw [hN, if_pos rfl] at hG
    rw [hN] at kn
    repeat (first | refine zck ?_ | refine zcl ?_ | refine zcm ?_ | refine zcn ?_)
    first | refine zcp (by kernel_rfl) ?_ | refine zcq PP_mixed (by kernel_rfl) (by kernel_rfl) ?_
    repeat' (refine zap rfl ?_; first | refine zan rfl ?_ | refine zan rfl ?_ | refine zbd rfl rfl (by omega) ?_)
    all_goals refine zch ?_
    all_goals repeat (first | refine zck ?_ | refine zcl ?_ | refine zcm ?_ | refine zcn ?_)
    refine zcj rfl ?_
    repeat (first | refine zck ?_ | refine zcl ?_ | refine zcm ?_ | refine zcn ?_)
    first | refine zcp (by kernel_rfl) ?_ | refine zcq PP_mixed (by kernel_rfl) (by kernel_rfl) ?_
    repeat' (refine zap rfl ?_; first | refine zan rfl ?_ | refine zan rfl ?_ | refine zaa 0 rfl rfl rfl ?_ | refine zah [] kn rfl rfl rfl sub_nil rfl ?_ | refine zbx rfl ?_)
    all_goals refine zch ?_
    all_goals repeat (first | refine zck ?_ | refine zcl ?_ | refine zcm ?_ | refine zcn ?_)
    refine zcj rfl ?_
    repeat (first | refine zck ?_ | refine zcl ?_ | refine zcm ?_ | refine zcn ?_)
    first | refine zcp (by kernel_rfl) ?_ | refine zcq PP_mixed (by kernel_rfl) (by kernel_rfl) ?_
    repeat' (refine zap rfl ?_; first | refine reg_add rfl rfl ?_ | refine zan rfl ?_ | refine zan rfl ?_ | refine reg_callG [0] hG (getG w0 p _) rfl rfl rfl sub_nil (fun x s hG => ?_))
    all_goals refine zch ?_
    all_goals repeat (first | refine zck ?_ | refine zcl ?_ | refine zcm ?_ | refine zcn ?_)
    repeat (first | refine zck ?_ | refine zcl ?_ | refine zcm ?_ | refine zcn ?_)
    first | refine zcp (by kernel_rfl) ?_ | refine zcq PP_mixed (by kernel_rfl) (by kernel_rfl) ?_
    repeat' (refine zap rfl ?_; first | refine zan rfl ?_ | refine zaa 0 rfl rfl rfl ?_ | refine reg_callG [0] hG (giveG w0 p P hP a) rfl rfl rfl sub_nil (fun e s hG => ?_) | refine zae 1 rfl rfl rfl rfl rfl rfl rfl ?_)
    all_goals refine zch ?_
    all_goals repeat (first | refine zck ?_ | refine zcl ?_ | refine zcm ?_ | refine zcn ?_)
    by_cases hE : e = 0
    rotate_left
    · rw [if_pos hE] at hG
      repeat (first | refine zck ?_ | refine zcl ?_ | refine zcm ?_ | refine zcn ?_)
      first | refine zcp (by kernel_rfl) ?_ | refine zcq PP_mixed (by kernel_rfl) (by kernel_rfl) ?_
      repeat' (refine zap rfl ?_; first | refine zab 1 rfl rfl rfl ?_ | refine zbe rfl rfl (by omega) ?_)
      all_goals refine zch ?_
      all_goals repeat (first | refine zck ?_ | refine zcl ?_ | refine zcm ?_ | refine zcn ?_)
      refine zci rfl ?_
      refine run_share_keep [1] rfl ?_
      repeat (first | refine zck ?_ | refine zcl ?_ | refine zcm ?_ | refine zcn ?_ | refine zco ?_)
      repeat (first | refine zck ?_ | refine zcl ?_ | refine zcm ?_ | refine zcn ?_)
      first | refine zcp (by kernel_rfl) ?_ | refine zcq PP_mixed (by kernel_rfl) (by kernel_rfl) ?_
      repeat' (refine zap rfl ?_; first | refine zan rfl ?_ | refine zaa 0 rfl rfl rfl ?_)
      all_goals refine zch ?_
      all_goals repeat (first | refine zck ?_ | refine zcl ?_ | refine zcm ?_ | refine zcn ?_)
      exact run_ret (quTake_fin w0 p eb m R (0, e) s _ rfl rfl hG)
    subst hE
    rw [if_neg (fun q => q rfl)] at hG
    repeat (first | refine zck ?_ | refine zcl ?_ | refine zcm ?_ | refine zcn ?_)
    first | refine zcp (by kernel_rfl) ?_ | refine zcq PP_mixed (by kernel_rfl) (by kernel_rfl) ?_
    repeat' (refine zap rfl ?_; first | refine zab 1 rfl rfl rfl ?_ | refine zbf rfl rfl (by omega) ?_)
    all_goals refine zch ?_
    all_goals repeat (first | refine zck ?_ | refine zcl ?_ | refine zcm ?_ | refine zcn ?_)
    refine zcj rfl ?_
    repeat (first | refine zck ?_ | refine zcl ?_ | refine zcm ?_ | refine zcn ?_)
    first | refine zcp (by kernel_rfl) ?_ | refine zcq PP_mixed (by kernel_rfl) (by kernel_rfl) ?_
    repeat' (refine zap rfl ?_; first | refine reg_add rfl rfl ?_ | refine zan rfl ?_ | refine reg_callG [0] hG (putG w0 p _ _) rfl rfl rfl sub_nil (fun u s hG => ?_))
    all_goals refine zch ?_
    all_goals repeat (first | refine zck ?_ | refine zcl ?_ | refine zcm ?_ | refine zcn ?_)
    by_cases hb : x = 0
    · subst hb
      rw [if_pos rfl] at hG
      repeat (first | refine zck ?_ | refine zcl ?_ | refine zcm ?_ | refine zcn ?_)
      first | refine zcp (by kernel_rfl) ?_ | refine zcq PP_mixed (by kernel_rfl) (by kernel_rfl) ?_
      repeat' (refine zap rfl ?_; first | refine zan rfl ?_ | refine zbc rfl rfl (by omega) ?_)
      all_goals refine zch ?_
      all_goals repeat (first | refine zck ?_ | refine zcl ?_ | refine zcm ?_ | refine zcn ?_)
      refine zci rfl ?_
      repeat (first | refine zck ?_ | refine zcl ?_ | refine zcm ?_ | refine zcn ?_)
      first | refine zcp (by kernel_rfl) ?_ | refine zcq PP_mixed (by kernel_rfl) (by kernel_rfl) ?_
      repeat' (refine zap rfl ?_; first | refine reg_add rfl rfl ?_ | refine zan rfl ?_ | refine reg_callG [0] hG (putG w0 p _ _) rfl rfl rfl sub_nil (fun u s hG => ?_))
      all_goals refine zch ?_
      all_goals repeat (first | refine zck ?_ | refine zcl ?_ | refine zcm ?_ | refine zcn ?_)
      repeat (first | refine zck ?_ | refine zcl ?_ | refine zcm ?_ | refine zcn ?_)
      first | refine zcp (by kernel_rfl) ?_ | refine zcq PP_mixed (by kernel_rfl) (by kernel_rfl) ?_
      repeat' (refine zap rfl ?_; first | refine reg_add rfl rfl ?_ | refine reg_sub rfl rfl ?_ | refine zan rfl ?_ | refine reg_callG [0] hG (getG w0 p _) rfl rfl rfl sub_nil (fun h s hG => ?_) | refine reg_callG [0] hG (putG w0 p _ _) rfl rfl rfl sub_nil (fun u s hG => ?_))
      all_goals refine zch ?_
      all_goals repeat (first | refine zck ?_ | refine zcl ?_ | refine zcm ?_ | refine zcn ?_)
      refine run_share_keep [1] rfl ?_
      repeat (first | refine zck ?_ | refine zcl ?_ | refine zcm ?_ | refine zcn ?_ | refine zco ?_)
      repeat (first | refine zck ?_ | refine zcl ?_ | refine zcm ?_ | refine zcn ?_)
      first | refine zcp (by kernel_rfl) ?_ | refine zcq PP_mixed (by kernel_rfl) (by kernel_rfl) ?_
      repeat' (refine zap rfl ?_; first | refine zan rfl ?_ | refine zan rfl ?_ | refine zaa 0 rfl rfl rfl ?_)
      all_goals refine zch ?_
      all_goals repeat (first | refine zck ?_ | refine zcl ?_ | refine zcm ?_ | refine zcn ?_)
      exact run_ret (quTake_fin w0 p eb m R (_, 0) s _ rfl rfl hG)
    · rw [if_neg hb] at hG
      repeat (first | refine zck ?_ | refine zcl ?_ | refine zcm ?_ | refine zcn ?_)
      first | refine zcp (by kernel_rfl) ?_ | refine zcq PP_mixed (by kernel_rfl) (by kernel_rfl) ?_
      repeat' (refine zap rfl ?_; first | refine zan rfl ?_ | refine zbd rfl rfl (by omega) ?_)
      all_goals refine zch ?_
      all_goals repeat (first | refine zck ?_ | refine zcl ?_ | refine zcm ?_ | refine zcn ?_)
      refine zcj rfl ?_
      repeat (first | refine zck ?_ | refine zcl ?_ | refine zcm ?_ | refine zcn ?_)
      first | refine zcp (by kernel_rfl) ?_ | refine zcq PP_mixed (by kernel_rfl) (by kernel_rfl) ?_
      repeat' (refine zap rfl ?_; first | refine reg_add rfl rfl ?_ | refine reg_sub rfl rfl ?_ | refine zan rfl ?_ | refine reg_callG [0] hG (getG w0 p _) rfl rfl rfl sub_nil (fun h s hG => ?_) | refine reg_callG [0] hG (putG w0 p _ _) rfl rfl rfl sub_nil (fun u s hG => ?_))
      all_goals refine zch ?_
      all_goals repeat (first | refine zck ?_ | refine zcl ?_ | refine zcm ?_ | refine zcn ?_)
      refine run_share_keep [1] rfl ?_
      repeat (first | refine zck ?_ | refine zcl ?_ | refine zcm ?_ | refine zcn ?_ | refine zco ?_)
      repeat (first | refine zck ?_ | refine zcl ?_ | refine zcm ?_ | refine zcn ?_)
      first | refine zcp (by kernel_rfl) ?_ | refine zcq PP_mixed (by kernel_rfl) (by kernel_rfl) ?_
      repeat' (refine zap rfl ?_; first | refine zan rfl ?_ | refine zan rfl ?_ | refine zaa 0 rfl rfl rfl ?_)
      all_goals refine zch ?_
      all_goals repeat (first | refine zck ?_ | refine zcl ?_ | refine zcm ?_ | refine zcn ?_)
      exact run_ret (quTake_fin w0 p eb m R (_, 0) s _ rfl rfl hG)
end Go.Proofs.YtgdhcgnmffgkiaaGreatDoor

namespace Sim
open Go Go.Vc
structure Tr where
  pool : Pl
  root : Int
  hash : Int → Int
  has : Int → Bool
structure Tr.Ok (T : Tr) : Prop where
  pool : T.pool.Ok
  r0 : 0 ≤ T.root
  r1 : T.root ≤ 4096
  nodes : T.pool.nodes ≤ 100
  h0 : ∀ n, 0 ≤ T.hash n
  h1 : ∀ n, T.hash n ≤ 18446744073709551615
structure TWay where
  bs : List Int
  cs : List Int
  cell : Int
  depth : Nat
def dig (h : Int) (d : Nat) : Int := h / 8 ^ d % 8
namespace Tr
variable (T : Tr)
def nodeN (n : Int) : Int := if n ≤ 0 ∨ 4096 < n then 0 else n
def nodeB (n : Int) : Bool := if n ≤ 0 ∨ 4096 < n then false else T.pool.node n
def add (c n : Int) : Pg Unit := do
  let v ← Pg.gt (T.root + c)
  let _ ← Pg.pt (T.root + c) (w64 (v + n))
  pure ()
def downK (h : Int) : Nat → TWay → Pg (TWay × Bool)
  | 0, w => pure (w, false)
  | k + 1, w => do
    let x ← Pg.gt w.cell
    if x < 0 then do
      let y ← Pg.gt w.cell
      if T.nodeB (w64 (0 - y)) = true then
        if w.depth = 4 then pure (w, false) else
        downK h k ⟨w.bs ++ [nodeN (w64 (0 - y))], w.cs ++ [w.cell], nodeN (w64 (0 - y)) + dig h w.depth, w.depth + 1⟩
      else pure (w, false)
    else pure (w, true)
def down (h : Int) : Pg (TWay × Bool) := T.downK h 5 ⟨[], [], T.root, 0⟩
def leafK (n : Int) (d : Nat) : Nat → Int → Pg ((Int × Int) × Bool)
  | 0, cell => do
    let x ← Pg.gt cell
    if x = 0 then pure ((cell, 0), true) else do
      let _ ← Pg.gt cell
      pure ((0, 0), false)
  | k + 1, cell => do
    let x ← Pg.gt cell
    if x = 0 then pure ((cell, 0), true) else do
      let y ← Pg.gt cell
      if T.nodeB y = true then do
        let z ← Pg.gt (nodeN y)
        if z = n then pure ((cell, nodeN y), true) else
        if d < 4 then pure ((cell, 0), true) else leafK n d k (nodeN y + 2)
      else pure ((0, 0), false)
def leaf (w : TWay) (n : Int) : Pg ((Int × Int) × Bool) := T.leafK n w.depth T.pool.nodes.toNat w.cell
def get (n h : Int) : Pg (Int × Bool) := do
  let w ← T.down h
  if w.2 = true then do
    let l ← T.leaf w.1 n
    if l.2 = true then
      if l.1.2 = 0 then pure (0, false) else do
        let v ← Pg.gt (l.1.2 + 1)
        pure (v, true)
    else pure (0, false)
  else pure (0, false)
def putsL (a : Int) : Int → List Int → Pg Unit
  | _, [] => pure ()
  | i, v :: l => do
    let _ ← Pg.pt (w64 (a + i)) v
    putsL a (i + 1) l
def take (l : List Int) : Pg (Int × Int) := do
  let t ← T.pool.takeP
  if t.2 ≠ 0 then pure (0, t.2) else do
    let _ ← putsL t.1 0 l
    let _ ← T.add 7 1
    pure (t.1, 0)
def splitK (h : Int) : Nat → TWay → Pg (TWay × Int)
  | 0, w => pure (w, 0)
  | k + 1, w => do
    let x ← Pg.gt w.cell
    if x = 0 then pure (w, 0) else do
      let old ← Pg.gt w.cell
      if T.nodeB old = true then do
        let o ← Pg.gt (nodeN old)
        if T.has o = true then do
          let b ← T.take (List.replicate 8 0)
          if b.2 ≠ 0 then pure (w, b.2) else do
            let _ ← Pg.pt (w64 (b.1 + dig (T.hash o) w.depth)) old
            let _ ← Pg.pt w.cell (w64 (0 - b.1))
            splitK h k { w with cell := w64 (b.1 + dig h w.depth), depth := w.depth + 1 }
        else pure (w, 24)
      else pure (w, 24)
def split (w : TWay) (h : Int) : Pg (TWay × Int) := T.splitK h (4 - w.depth) w
def afterP (m : Nat) (r : (Int × Bool) × Int) : Pg ((Int × Bool) × Int) := if r.2 ≠ 0 then do let _ ← Pg.bk m; pure r else pure r
def newIn (n v : Int) (w : TWay) : Pg ((Int × Bool) × Int) := do
  let x ← Pg.gt w.cell
  let a ← T.take [n, v, x]
  if a.2 ≠ 0 then pure ((0, false), a.2) else do
    let _ ← Pg.pt w.cell a.1
    let _ ← T.add 1 1
    pure ((0, false), 0)
def putIn (n h v : Int) : Pg ((Int × Bool) × Int) := do
  let w ← T.down h
  if w.2 = true then do
    let l ← T.leaf w.1 n
    if l.2 = true then
      if l.1.2 = 0 then do
        let w ← T.split w.1 h
        if w.2 ≠ 0 then pure ((0, false), w.2) else T.newIn n v w.1
      else do
        let was ← Pg.gt (l.1.2 + 1)
        let _ ← Pg.pt (l.1.2 + 1) v
        pure ((was, true), 0)
    else pure ((0, false), 24)
  else pure ((0, false), 24)
def put (n h v : Int) : Pg ((Int × Bool) × Int) := do
  let m ← Pg.mk
  let r ← T.putIn n h v
  afterP m r
def give (a : Int) : Pg Int := do
  let e ← T.pool.giveP a
  if e ≠ 0 then pure e else do
    let _ ← T.add 7 (-1)
    pure 0
def aloneK (b : Int) : Nat → Int → Int → Pg (Int × Bool)
  | 0, _, one =>
    if one = 0 then pure (0, true) else
    if T.nodeB one = true then do
      let x ← Pg.gt (nodeN one + 2)
      pure (one, decide (x = 0))
    else pure (one, false)
  | k + 1, i, one => do
    let x ← Pg.gt (b + i)
    if x < 0 then pure (0, false) else
    if x = 0 then aloneK b k (i + 1) one else
    if one = 0 then aloneK b k (i + 1) x else pure (0, false)
def alone (b : Int) : Pg (Int × Bool) := T.aloneK b 8 0 0
def fold (was : Int) : List (Int × Int) → Pg ((Int × Bool) × Int)
  | [] => pure ((was, true), 0)
  | (b, c) :: l => do
    let o ← T.alone b
    if o.2 = true then do
      let _ ← Pg.pt c o.1
      let e ← T.give b
      if e ≠ 0 then pure ((0, false), e) else fold was l
    else pure ((was, true), 0)
def afterD (m : Nat) (r : (Int × Bool) × Int) : Pg ((Int × Bool) × Int) := if r.2 ≠ 0 then do let _ ← Pg.bk m; pure ((0, false), r.2) else pure r
def dropAt (w : TWay) (cell at_ : Int) : Pg ((Int × Bool) × Int) := do
  let was ← Pg.gt (at_ + 1)
  let x ← Pg.gt (at_ + 2)
  let _ ← Pg.pt cell x
  let e ← T.give at_
  if e ≠ 0 then pure ((0, false), e) else do
    let _ ← T.add 1 (-1)
    T.fold was (w.bs.zip w.cs).reverse
def dropIn (n h : Int) : Pg ((Int × Bool) × Int) := do
  let w ← T.down h
  if w.2 = true then do
    let l ← T.leaf w.1 n
    if l.2 = true then
      if l.1.2 = 0 then pure ((0, false), 0) else T.dropAt w.1 l.1.1 l.1.2
    else pure ((0, false), 24)
  else pure ((0, false), 24)
def drop (n h : Int) : Pg ((Int × Bool) × Int) := do
  let m ← Pg.mk
  let r ← T.dropIn n h
  afterD m r
def len : Pg Int := Pg.gt (T.root + 1)
end Tr
end Sim

namespace Sim
open Go Go.Vc
open Pg
theorem dig_tmod {h : Int} (h0 : 0 ≤ h) (d : Nat) : (h / 2 ^ (3 * d)).tmod 8 = dig h d := by
  have e : (2 : Int) ^ (3 * d) = 8 ^ d := by rw [Int.pow_mul]; rfl
  rw [e, Int.tmod_eq_emod_of_nonneg (Int.ediv_nonneg h0 (Int.le_of_lt (Int.pow_pos (by decide))))]; rfl
theorem dig_bd8 (h : Int) (d : Nat) : 0 ≤ dig h d ∧ dig h d < 8 := by unfold dig; omega
namespace Tr
variable (T : Tr)
theorem bd_add (c n : Int) : Bd 1 (T.add c n) := by unfold Tr.add; repeat' first | exact bd_pure _ | with_reducible refine bd_ite ?_ ?_ | with_reducible refine bd_then (bd_gt0 _) ?_ (by decide) | with_reducible refine bd_then (bd_pt _ _) ?_ (by decide) | with_reducible refine bd_then bd_mk0 ?_ (by decide) | with_reducible refine bd_then (bd_bk0 _) ?_ (by decide) | intro _
theorem bd_downK (h : Int) : ∀ (k : Nat) (w : TWay), Bd 0 (T.downK h k w)
  | 0, _ => trivial
  | k + 1, w => by unfold Tr.downK; repeat' first | exact bd_downK h k _ | exact bd_pure _ | with_reducible refine bd_ite ?_ ?_ | with_reducible refine bd_then (bd_gt0 _) ?_ (by decide) | with_reducible refine bd_then (bd_pt _ _) ?_ (by decide) | with_reducible refine bd_then bd_mk0 ?_ (by decide) | with_reducible refine bd_then (bd_bk0 _) ?_ (by decide) | intro _
theorem bd_down (h : Int) : Bd 0 (T.down h) := T.bd_downK h _ _
theorem bd_leafK (n : Int) (d : Nat) : ∀ (k : Nat) (c : Int), Bd 0 (T.leafK n d k c)
  | 0, _ => by unfold Tr.leafK; repeat' first | exact bd_pure _ | with_reducible refine bd_ite ?_ ?_ | with_reducible refine bd_then (bd_gt0 _) ?_ (by decide) | with_reducible refine bd_then (bd_pt _ _) ?_ (by decide) | with_reducible refine bd_then bd_mk0 ?_ (by decide) | with_reducible refine bd_then (bd_bk0 _) ?_ (by decide) | intro _
  | k + 1, c => by unfold Tr.leafK; repeat' first | exact bd_leafK n d k _ | exact bd_pure _ | with_reducible refine bd_ite ?_ ?_ | with_reducible refine bd_then (bd_gt0 _) ?_ (by decide) | with_reducible refine bd_then (bd_pt _ _) ?_ (by decide) | with_reducible refine bd_then bd_mk0 ?_ (by decide) | with_reducible refine bd_then (bd_bk0 _) ?_ (by decide) | intro _
theorem bd_leaf (w : TWay) (n : Int) : Bd 0 (T.leaf w n) := T.bd_leafK _ _ _ _
theorem bd_get (n h : Int) : Bd 0 (T.get n h) := by unfold Tr.get; repeat' first | with_reducible refine bd_then (T.bd_down _) ?_ (by decide) | with_reducible refine bd_then (T.bd_leaf _ _) ?_ (by decide) | exact bd_pure _ | with_reducible refine bd_ite ?_ ?_ | with_reducible refine bd_then (bd_gt0 _) ?_ (by decide) | with_reducible refine bd_then (bd_pt _ _) ?_ (by decide) | with_reducible refine bd_then bd_mk0 ?_ (by decide) | with_reducible refine bd_then (bd_bk0 _) ?_ (by decide) | intro _
theorem bd_putsL (a : Int) : ∀ (l : List Int) (i : Int), Bd l.length (putsL a i l)
  | [], _ => bd_pure _
  | v :: l, i => by
    unfold putsL
    refine bd_then (bd_pt _ _) (fun _ => ?_) (by simp)
    rw [List.length_cons, Nat.add_sub_cancel]
    exact bd_putsL a l (i + 1)
theorem bd_take (l : List Int) (hl : l.length ≤ 8) : Bd 11 (T.take l) := by
  unfold Tr.take
  repeat' first | with_reducible refine bd_then (bd_takeP _) ?_ (by decide) | with_reducible refine bd_then ((bd_putsL _ l _).mono hl) ?_ (by decide) | with_reducible refine bd_then (T.bd_add _ _) ?_ (by decide) | exact bd_pure _ | with_reducible refine bd_ite ?_ ?_ | with_reducible refine bd_then (bd_gt0 _) ?_ (by decide) | with_reducible refine bd_then (bd_pt _ _) ?_ (by decide) | with_reducible refine bd_then bd_mk0 ?_ (by decide) | with_reducible refine bd_then (bd_bk0 _) ?_ (by decide) | intro _
theorem bd_splitK (h : Int) : ∀ (k : Nat) (w : TWay), Bd (13 * k) (T.splitK h k w)
  | 0, _ => bd_pure _
  | k + 1, w => by
    unfold Tr.splitK
    refine bd_then (bd_gt0 _) (fun _ => bd_ite (bd_pure _) (bd_then (bd_gt0 _) (fun _ => bd_ite (bd_then (bd_gt0 _) (fun _ => bd_ite (bd_then (T.bd_take _ (by decide)) (fun _ => bd_ite (bd_pure _) (bd_then (bd_pt _ _) (fun _ => bd_then (bd_pt _ _) (fun _ => (bd_splitK h k _).mono (by omega)) (by omega)) (by omega))) (by omega)) (bd_pure _)) (by omega)) (bd_pure _)) (by omega))) (by omega)
theorem bd_split (w : TWay) (h : Int) : Bd 52 (T.split w h) := (T.bd_splitK h _ w).mono (by omega)
theorem bd_newIn (n v : Int) (w : TWay) : Bd 13 (T.newIn n v w) := by
  unfold Tr.newIn
  repeat' first | with_reducible refine bd_then (T.bd_take _ (Nat.le_of_ble_eq_true rfl)) ?_ (by decide) | with_reducible refine bd_then (T.bd_add _ _) ?_ (by decide) | exact bd_pure _ | with_reducible refine bd_ite ?_ ?_ | with_reducible refine bd_then (bd_gt0 _) ?_ (by decide) | with_reducible refine bd_then (bd_pt _ _) ?_ (by decide) | with_reducible refine bd_then bd_mk0 ?_ (by decide) | with_reducible refine bd_then (bd_bk0 _) ?_ (by decide) | intro _
theorem bd_putIn (n h v : Int) : Bd 65 (T.putIn n h v) := by
  unfold Tr.putIn
  repeat' first | exact T.bd_newIn _ _ _ | with_reducible refine bd_then (T.bd_down _) ?_ (by decide) | with_reducible refine bd_then (T.bd_leaf _ _) ?_ (by decide) | with_reducible refine bd_then (T.bd_split _ _) ?_ (by decide) | exact bd_pure _ | with_reducible refine bd_ite ?_ ?_ | with_reducible refine bd_then (bd_gt0 _) ?_ (by decide) | with_reducible refine bd_then (bd_pt _ _) ?_ (by decide) | with_reducible refine bd_then bd_mk0 ?_ (by decide) | with_reducible refine bd_then (bd_bk0 _) ?_ (by decide) | intro _
theorem bd_afterP (m : Nat) (r : (Int × Bool) × Int) : Bd 0 (afterP m r) := by unfold Tr.afterP; repeat' first | exact bd_pure _ | with_reducible refine bd_ite ?_ ?_ | with_reducible refine bd_then (bd_gt0 _) ?_ (by decide) | with_reducible refine bd_then (bd_pt _ _) ?_ (by decide) | with_reducible refine bd_then bd_mk0 ?_ (by decide) | with_reducible refine bd_then (bd_bk0 _) ?_ (by decide) | intro _
theorem bd_put (n h v : Int) : Bd 65 (T.put n h v) := by
  unfold Tr.put
  repeat' first | exact (bd_afterP _ _).mono (by decide) | with_reducible refine bd_then (T.bd_putIn _ _ _) ?_ (by decide) | exact bd_pure _ | with_reducible refine bd_ite ?_ ?_ | with_reducible refine bd_then (bd_gt0 _) ?_ (by decide) | with_reducible refine bd_then (bd_pt _ _) ?_ (by decide) | with_reducible refine bd_then bd_mk0 ?_ (by decide) | with_reducible refine bd_then (bd_bk0 _) ?_ (by decide) | intro _
def WayOk (w : TWay) : Prop := w.bs.length = w.depth ∧ w.cs.length = w.depth ∧ w.depth ≤ 4 ∧ 0 ≤ w.cell ∧ w.cell ≤ 5000 ∧ (∀ b ∈ w.bs, 0 ≤ b ∧ b ≤ 5000)
theorem nodeN_bd (v : Int) : 0 ≤ nodeN v ∧ nodeN v ≤ 4096 := by unfold nodeN; split <;> omega
theorem wayOk_next {w : TWay} (hw : WayOk w) (h4 : w.depth ≠ 4) (v h : Int) : WayOk ⟨w.bs ++ [nodeN v], w.cs ++ [w.cell], nodeN v + dig h w.depth, w.depth + 1⟩ := by
  obtain ⟨h1, h2, h3, h5, h6, h7⟩ := hw
  have := nodeN_bd v
  have := dig_bd8 h w.depth
  refine ⟨by simp [h1], by simp [h2], by dsimp only; omega, by dsimp only; omega, by dsimp only; omega, fun b hb => ?_⟩
  rcases List.mem_append.1 hb with hb | hb
  · exact h7 b hb
  · simp at hb; subst hb; omega
theorem all_downK (h : Int) : ∀ (k : Nat) (w : TWay), WayOk w → All (fun r => WayOk r.1) (T.downK h k w)
  | 0, w, hw => all_pure hw
  | k + 1, w, hw => by
    unfold Tr.downK
    refine all_then fun x => ?_
    refine all_ite (fun _ => ?_) fun _ => all_pure hw
    refine all_then fun y => ?_
    refine all_ite (fun _ => ?_) fun _ => all_pure hw
    refine all_ite (fun _ => all_pure hw) fun h4 => ?_
    exact all_downK h k _ (wayOk_next hw h4 _ h)
theorem all_down (hT : T.Ok) (h : Int) : All (fun r => WayOk r.1) (T.down h) := T.all_downK h 5 _ ⟨rfl, rfl, Nat.zero_le 4, hT.r0, by have := hT.r1; dsimp only; omega, fun b hb => by cases hb⟩
def LeafOk (r : (Int × Int) × Bool) : Prop := 0 ≤ r.1.1 ∧ r.1.1 ≤ 5000 ∧ 0 ≤ r.1.2 ∧ r.1.2 ≤ 5000
theorem leafOk0 : LeafOk ((0, 0), false) := ⟨Int.le_refl 0, by decide, Int.le_refl 0, by decide⟩
theorem leafOk1 {c : Int} (hc : 0 ≤ c ∧ c ≤ 5000) : LeafOk ((c, 0), true) := ⟨hc.1, hc.2, Int.le_refl 0, (by decide : (0 : Int) ≤ 5000)⟩
theorem all_leafK (n : Int) (d : Nat) : ∀ (k : Nat) (c : Int), 0 ≤ c ∧ c ≤ 5000 → All LeafOk (T.leafK n d k c)
  | 0, c, hc => by
    unfold Tr.leafK
    refine all_then fun x => ?_
    refine all_ite (fun _ => all_pure (leafOk1 hc)) fun _ => ?_
    exact all_then fun _ => all_pure leafOk0
  | k + 1, c, hc => by
    unfold Tr.leafK
    refine all_then fun x => ?_
    refine all_ite (fun _ => all_pure (leafOk1 hc)) fun _ => ?_
    refine all_then fun y => ?_
    have := nodeN_bd y
    refine all_ite (fun _ => ?_) fun _ => all_pure leafOk0
    refine all_then fun z => ?_
    refine all_ite (fun _ => all_pure ⟨hc.1, hc.2, by dsimp only; omega, by dsimp only; omega⟩) fun _ => ?_
    exact all_ite (fun _ => all_pure (leafOk1 hc)) fun _ => all_leafK n d k _ (by omega)
theorem all_leaf (w : TWay) (hw : WayOk w) (n : Int) : All LeafOk (T.leaf w n) := T.all_leafK _ _ _ _ ⟨hw.2.2.2.1, hw.2.2.2.2.1⟩
end Tr
end Sim
namespace Go.Proofs.YtgdhcgnmffgkiaaGreatDoor
open Go.Vc Sim
set_option maxHeartbeats 4000000
abbrev FnX {α : Type} (w0 : World) (sh : Shared) (f : FuncId) (args : List Value) (p : Nat) (g : Pg α) (Γ0 : List Asn) (R : α → Value → List Asn → Prop) : Prop :=
  ∀ s, Pg.Fits g s → Vc.Fn PP w0 sh f args (SpaceA p s :: Γ0) fun v Γ => ∃ Γ1, Γ = SpaceA p (Pg.run g s).2 :: Γ1 ∧ R (Pg.run g s).1 v Γ1
section
variable {w0 : World} {n : Nat} {sh shf : Shared} {Q : Exit → Env → List Deferred → List Asn → Prop} {k : List Item} {ρ : Env} {df : List Deferred} {Γ Γr Γ0 : List Asn}
variable {ops : Array Oper} {l : List (Fl × Nat × Oper)} {i : Nat} {ty : TypeId} {pos : String} {aft : Array Edge} {dst : Option Tmp}
variable {f : FuncId} {args : List Value} {fo : Operand} {cargs : Array Operand} {ats : Array TypeId} {first cap : Array Value}
theorem reg_callX (is : List Nat) {α β : Type} {R : β × Sp} {g : Pg α} {kk : α → Pg β} {s : Sp} {p : Nat} {RR : α → Value → List Asn → Prop} {φ : α → Prop} (hG : At R (g >>= kk) s) (hφ : Pg.All φ g) (spec : FnX w0 shf f args p g Γ0 RR)
    (hfo : ev ρ fo = .func (.func f) first cap) (hargs : first.toList ++ cargs.toList.map (ev ρ) ++ cap.toList = args)
    (hp : pick is Γ = some (SpaceA p s :: Γ0, Γr)) (hsh : ∀ p ∈ shf, p ∈ sh) (h : ∀ x s' v Γ1, φ x → RR x v Γ1 → At R (kk x) s' → Reg PP w0 n sh Q ops l k (ρ.setO dst v) df (SpaceA p s' :: Γ1 ++ Γr)) :
    Reg PP w0 n sh Q ops ((Fl.loud, i, ⟨dst, .call ⟨.value fo, cargs, ats⟩, ty, pos, aft, none⟩) :: l) k ρ df Γ :=
  zai is (spec s hG.step.1) hfo hargs hp hsh (fun v Γ' ⟨Γ1, e1, e2⟩ => by subst e1; exact h _ _ v Γ1 (Pg.all_run hφ) e2 hG.step.2)
theorem reg_dig {b : Fl} {x y : Operand} {t t2 : TypeId} {d : Tmp} {h : Int} {q : Nat} {l : List (Fl × Nat × Oper)} (hh : 0 ≤ h) (hx : ev ρ x = .int .u64 (h / 2 ^ (3 * q))) (hy : ev ρ y = .int .u64 8) (hr : Reg PP w0 n sh Q ops l k (ρ.set d (.int .u64 (dig h q))) df Γ) :
    Reg PP w0 n sh Q ops ((b, i, ⟨some d, .binOp .rem t x y t2, ty, pos, aft, none⟩) :: l) k ρ df Γ :=
  reg_rem hx hy (by decide) (by rw [dig_tmod hh]; exact hr)
end
instance : TMeth PP 105 (.agg #[]) "Num" 304 := ⟨fun w => by kernel_rfl⟩
instance : TMeth PP 105 (.agg #[]) "Key" 303 := ⟨fun w => by kernel_rfl⟩
instance : TMeth PP 105 (.agg #[]) "Hash" 302 := ⟨fun w => by kernel_rfl⟩
def kV : Value := .iface 105 (.agg #[])
def trV (T : Tr) : Value := .agg #[kV, .int .i64 T.pool.root, .int .i64 T.pool.frm, .int .i64 T.pool.nodes, .int .i64 T.root]
theorem trNode (w0 : World) (T : Tr) (hT : T.Ok) (v : Int) : FnE PP w0 [] 270 [trV T, .int .i64 v] [] (.tuple #[.int .i64 (Tr.nodeN v), .bool (T.nodeB v)]) [] := by
  refine fn_of_run en270 fn270 rfl rfl rfl ?_
  repeat (first | refine zck ?_ | refine zcl ?_ | refine zcm ?_ | refine zcn ?_)
  first | refine zcp (by kernel_rfl) ?_ | refine zcq PP_mixed (by kernel_rfl) (by kernel_rfl) ?_
  repeat' (refine zap rfl ?_; first | refine zan rfl ?_ | refine zaq (cs := [_, _, _, _, _]) rfl (fun nb => ?_))
  all_goals refine zch ?_
  all_goals repeat (first | refine zck ?_ | refine zcl ?_ | refine zcm ?_ | refine zcn ?_)
  refine run_share [0] rfl ?_
  repeat' (first | refine zck ?_ | refine zcp (by kernel_rfl) ?_ | refine zcm ?_ | (refine zap rfl ?_; first | refine zaj rfl ?_ | refine zak rfl ?_ | refine zam rfl rfl (fun _ => ?_) (fun _ => ?_) | refine zan rfl ?_ | refine zan rfl ?_ | refine zaa 0 rfl rfl rfl ?_ | refine zah [] (node_spec w0 T.pool hT.pool _) rfl rfl rfl sub_nil rfl ?_ | refine zao rfl ?_ | refine zan rfl ?_ | refine zbr rfl rfl ?_ | refine zbs rfl rfl ?_ | refine zbu rfl ?_ | refine zbv rfl ?_) | refine zch ?_ | refine zci rfl ?_ | refine run_cond rfl (fun _ => ?_) (fun _ => ?_))
  all_goals refine ret_tmp2 rfl ⟨?_, rfl⟩
  all_goals unfold Tr.nodeN Tr.nodeB
  all_goals first | rw [if_pos (by omega), if_pos (by omega)] | rw [if_neg (by omega), if_neg (by omega)]
  all_goals rfl
theorem trAdd (w0 : World) (p : Nat) (T : Tr) (hT : T.Ok) (c m : Int) (hc : 0 ≤ c ∧ c ≤ 7) : FnG w0 [] 127 [trV T, spP p, .int .i64 c, .int .i64 m] p (T.add c m) encU := by
  have h1 := hT.r0
  have h2 := hT.r1
  intro s hS; have hG := At.start hS; generalize Pg.run _ s = R at hG ⊢
  refine fn_of_run en127 fn127 rfl rfl rfl ?_
  repeat (first | refine zck ?_ | refine zcl ?_ | refine zcm ?_ | refine zcn ?_)
  first | refine zcp (by kernel_rfl) ?_ | refine zcq PP_mixed (by kernel_rfl) (by kernel_rfl) ?_
  repeat' (refine zap rfl ?_; first | refine zaq (cs := [_, _, _, _, _]) rfl (fun nb => ?_))
  all_goals refine zch ?_
  all_goals repeat (first | refine zck ?_ | refine zcl ?_ | refine zcm ?_ | refine zcn ?_)
  refine run_share [1] rfl ?_
  repeat' (first | refine zcq PP_mixed (by kernel_rfl) (by kernel_rfl) ?_ | (refine zap rfl ?_; first | refine reg_add (t := 2) rfl rfl ?_ | refine zan rfl ?_ | refine zaa 0 rfl rfl rfl ?_ | refine reg_callG [0] hG (getG w0 p _) rfl rfl rfl sub_nil (fun u s hG => ?_) | refine reg_callG [0] hG (putG w0 p _ _) rfl rfl rfl sub_nil (fun u s hG => ?_) | refine zao rfl ?_ | refine zau rfl rfl (by omega) ?_) | refine zch ?_)
  rw [hG.done]
  exact end_tmp0 rfl ⟨rfl, rfl⟩
def wayV (a1 : Option Addr) (c1 : Nat) (a2 : Option Addr) (c2 : Nat) (w : TWay) : Value := .agg #[.slice a1 w.bs.length c1, .slice a2 w.cs.length c2, .int .i64 w.cell, .int .i64 (w.depth : Int)]
def WayA (a1 : Option Addr) (c1 : Nat) (a2 : Option Addr) (c2 : Nat) (w : TWay) : List Asn := [SlA 34 1 a1 w.bs.length c1 (intsV w.bs), SlA 34 1 a2 w.cs.length c2 (intsV w.cs)]
def wayR (r : TWay × Bool) (v : Value) (Γ : List Asn) : Prop := ∃ a1 c1 a2 c2, v = .tuple #[wayV a1 c1 a2 c2 r.1, .bool r.2] ∧ Γ = WayA a1 c1 a2 c2 r.1
theorem trDown (w0 : World) (p : Nat) (T : Tr) (hT : T.Ok) (h : Int) (hh : 0 ≤ h) : FnX w0 [] 123 [trV T, spP p, .int .u64 h] p (T.down h) [] wayR := by
  have h1 := hT.r0
  have h2 := hT.r1
  intro s hS; have hG := At.start hS; generalize Pg.run _ s = R at hG ⊢
  unfold Tr.down at hG
  refine fn_of_run en123 fn123 rfl rfl rfl ?_
  repeat (first | refine zck ?_ | refine zcl ?_ | refine zcm ?_ | refine zcn ?_)
  first | refine zcp (by kernel_rfl) ?_ | refine zcq PP_mixed (by kernel_rfl) (by kernel_rfl) ?_
  repeat' (refine zap rfl ?_; first | refine zan rfl ?_ | refine zaq (cs := [_, _, _, _, _]) rfl (fun nb => ?_) | refine zar (fun nb => ?_))
  all_goals refine zch ?_
  all_goals repeat (first | refine zck ?_ | refine zcl ?_ | refine zcm ?_ | refine zcn ?_)
  rename_i tb
  revert nb; intro rb
  refine run_share [1] rfl ?_
  repeat (first | refine zck ?_ | refine zcl ?_ | refine zcm ?_ | refine zcn ?_)
  first | refine zcp (by kernel_rfl) ?_ | refine zcq PP_mixed (by kernel_rfl) (by kernel_rfl) ?_
  repeat' (refine zap rfl ?_; first | refine zaa 0 rfl rfl rfl ?_ | refine zao rfl ?_ | refine zae 2 rfl rfl rfl rfl rfl rfl rfl ?_ | refine zar (fun nb => ?_) | refine zcb rfl ?_)
  all_goals refine zch ?_
  all_goals repeat (first | refine zck ?_ | refine zcl ?_ | refine zcm ?_ | refine zcn ?_)
  refine run_nilslice 34 1 ?_
  refine run_nilslice 34 1 ?_
  refine run_loop (S := Nat × TWay × Sp × (Option Addr × Nat) × (Option Addr × Nat)) (fun st => [(1, spP p), (2, .int .u64 h), (3, .pointer (some ⟨tb, 0, none⟩)), (6, .pointer (some ⟨rb, 0, none⟩)), (8, .pointer (some ⟨nb, 0, none⟩))])
    (fun st Γ => Γ = [SpaceA p st.2.2.1, pt rb (.cells (List.toArray [.slice none 0 0, .slice none 0 0, .int .i64 0, .int .i64 0]) 167 (0, 0)), pt nb (.cells (List.toArray [.slice st.2.2.2.1.1 st.2.1.bs.length st.2.2.2.1.2, .slice st.2.2.2.2.1 st.2.1.cs.length st.2.2.2.2.2, .int .i64 st.2.1.cell, .int .i64 (st.2.1.depth : Int)]) 167 (0, 0)), SlA 34 1 st.2.2.2.1.1 st.2.1.bs.length st.2.2.2.1.2 (intsV st.2.1.bs), SlA 34 1 st.2.2.2.2.1 st.2.1.cs.length st.2.2.2.2.2 (intsV st.2.1.cs)] ∧ At R (T.downK h st.1 st.2.1) st.2.2.1 ∧ st.1 + st.2.1.depth = 5 ∧ Tr.WayOk st.2.1)
    (fun st => st.1) (5, ⟨[], [], T.root, 0⟩, s, (none, 0), (none, 0)) ⟨rfl, rfl, rfl, rfl, rfl, trivial⟩ ⟨rfl, hG, rfl, ⟨rfl, rfl, Nat.zero_le 4, h1, by dsimp only; omega, fun b hb => by cases hb⟩⟩ ?_
  rintro ⟨k, w, s, ⟨a1, c1⟩, ⟨a2, c2⟩⟩ Γ junk ⟨rfl, hG, hk, hw⟩
  dsimp only at hG hk hw ⊢
  obtain ⟨k, rfl⟩ : ∃ q, k = q + 1 := ⟨k - 1, by have := hw.2.2.1; omega⟩
  rw [Tr.downK] at hG
  repeat (first | refine zck ?_ | refine zcl ?_ | refine zcm ?_ | refine zcn ?_)
  first | refine zcp (by kernel_rfl) ?_ | refine zcq PP_mixed (by kernel_rfl) (by kernel_rfl) ?_
  repeat' (refine zap rfl ?_; first | refine zan rfl ?_ | refine zab 2 rfl rfl rfl ?_ | refine reg_callG [0] hG (getG w0 p _) rfl rfl rfl sub_nil (fun u s hG => ?_) | refine zao rfl ?_ | refine zbq rfl rfl ?_)
  all_goals refine zch ?_
  all_goals repeat (first | refine zck ?_ | refine zcl ?_ | refine zcm ?_ | refine zcn ?_)
  refine run_cond rfl (fun hx => ?_) (fun hx => ?_)
  · rw [if_pos hx] at hG
    repeat (first | refine zck ?_ | refine zcl ?_ | refine zcm ?_ | refine zcn ?_)
    first | refine zcp (by kernel_rfl) ?_ | refine zcr [(.quiet, 0), (.quiet, 1), (.quiet, 2), (.read, 3), (.loud, 4), (.quiet, 5), (.loud, 6), (.quiet, 7), (.quiet, 8), (.quiet, 9), (.quiet, 10), (.quiet, 11)] PP_mixed (by kernel_rfl) (by kernel_rfl) ?_ | refine run_drawR PP_mixed (by kernel_rfl) (by kernel_rfl) ?_
    repeat' (refine zap rfl ?_; first | refine reg_neg rfl ?_ | refine zan rfl ?_ | refine zan rfl ?_ | refine zaa 0 rfl rfl rfl ?_ | refine zab 2 rfl rfl rfl ?_ | refine reg_callG [0] hG (getG w0 p _) rfl rfl rfl sub_nil (fun v s hG => ?_) | refine zah [] (trNode w0 T hT _) rfl rfl rfl sub_nil rfl ?_ | refine zao rfl ?_ | refine zan rfl ?_)
    all_goals refine zch ?_
    all_goals repeat (first | refine zck ?_ | refine zcl ?_ | refine zcm ?_ | refine zcn ?_)
    generalize hb : T.nodeB (w64 (0 - v)) = b at hG
    have hb' : T.nodeB (IntKind.i64.wrap (0 - v)) = b := hb
    rw [hb']
    have hnb := Tr.nodeN_bd (IntKind.i64.wrap (0 - v))
    cases b with
    | false =>
      simp only [Bool.false_eq_true, if_false] at hG
      rw [hG.done]
      repeat' (first | refine zck ?_ | refine zcp (by kernel_rfl) ?_ | (refine zap rfl ?_; first | refine zak rfl ?_ | refine zan rfl ?_ | refine zan rfl ?_ | refine zab 2 rfl rfl rfl ?_ | refine zbx rfl ?_ | refine zbu rfl ?_ | refine zae 1 rfl rfl rfl rfl rfl rfl rfl ?_) | refine zch ?_ | refine zci rfl ?_)
      exact qret rfl (fun _ _ h => h) (leaves_nil (ends_take [0, 2, 2] rfl (ends_two rfl (resOk_pt 1 rfl rfl rfl) rfl ⟨rfl, _, rfl, a1, c1, a2, c2, rfl, rfl⟩)))
    | true =>
      simp only [if_true] at hG
      by_cases h4 : w.depth = 4
      · rw [if_pos h4] at hG
        rw [hG.done]
        repeat' (first | refine zck ?_ | refine zcp (by kernel_rfl) ?_ | (refine zap rfl ?_; first | refine zaj rfl ?_ | refine zan rfl ?_ | refine zan rfl ?_ | refine zab 2 rfl rfl rfl ?_ | refine zao rfl ?_ | refine zbc rfl rfl (by omega) ?_ | refine zbx rfl ?_ | refine zbv rfl ?_ | refine zae 1 rfl rfl rfl rfl rfl rfl rfl ?_) | refine zch ?_ | refine zci rfl ?_)
        exact qret rfl (fun _ _ h => h) (leaves_nil (ends_take [0, 2, 2] rfl (ends_two rfl (resOk_pt 1 rfl rfl rfl) rfl ⟨rfl, _, rfl, a1, c1, a2, c2, rfl, rfl⟩)))
      · rw [if_neg h4] at hG
        have hdb := dig_bd8 h w.depth
        obtain ⟨hw1, hw2, hwd, hw4, hw5, hw6⟩ := id hw
        repeat (first | refine zck ?_ | refine zcl ?_ | refine zcm ?_ | refine zcn ?_)
        first | refine zcp (by kernel_rfl) ?_ | refine zcq PP_mixed (by kernel_rfl) (by kernel_rfl) ?_
        repeat' (refine zap rfl ?_; first | refine zaj rfl ?_ | refine zan rfl ?_ | refine zab 2 rfl rfl rfl ?_ | refine zao rfl ?_ | refine zbd rfl rfl (by omega) ?_ | refine zbx rfl ?_ | refine zbv rfl ?_)
        all_goals refine zch ?_
        all_goals repeat (first | refine zck ?_ | refine zcl ?_ | refine zcm ?_ | refine zcn ?_)
        refine zcj rfl ?_
        repeat (first | refine zck ?_ | refine zcl ?_ | refine zcm ?_ | refine zcn ?_)
        refine run_drawT [2] [(.quiet, 0), (.quiet, 1), (.quiet, 2), (.loud, 3), (.loud, 4), (.quiet, 5), (.quiet, 6), (.quiet, 7), (.quiet, 8), (.loud, 9), (.loud, 10), (.quiet, 11)] [(.loud, 12), (.quiet, 13), (.loud, 14)] PP_mixed (by kernel_rfl) (by kernel_rfl) rfl ?_
        repeat' (refine zap rfl ?_; first | refine reg_buildSlice rfl rfl rfl rfl rfl rfl (fun nb2 => ?_) | refine reg_append 2 4 rfl rfl rfl rfl rfl rfl rfl rfl (by first | omega | (dsimp only; omega)) (fun _ _ => rfl) (fun a1' c1' => ?_) | refine reg_append 3 5 rfl rfl rfl rfl rfl rfl rfl rfl (by first | omega | (dsimp only; omega)) (fun _ _ => rfl) (fun a2' c2' => ?_) | refine zan rfl ?_ | refine zaa 0 rfl rfl rfl ?_ | refine zao rfl ?_)
        all_goals refine reg_turn ?_
        all_goals repeat' (refine zap rfl ?_; first | refine zao rfl ?_ | refine zae 0 rfl rfl rfl rfl rfl rfl rfl ?_)
        all_goals refine zch ?_
        all_goals repeat (first | refine zck ?_ | refine zcl ?_ | refine zcm ?_ | refine zcn ?_)
        repeat' (first | refine zcp (by kernel_rfl) ?_ | refine zcn ?_ | (refine zap rfl ?_; first | refine reg_shr (q := 3 * w.depth) rfl (int_eq (by omega)) (by show 3 * w.depth ≤ 64; omega) ?_ | refine reg_dig (q := w.depth) hh rfl rfl ?_ | refine zab 0 rfl rfl rfl ?_ | refine zae 0 rfl rfl rfl rfl rfl rfl rfl ?_ | refine zan rfl ?_ | refine zao rfl ?_ | refine zau rfl rfl (by omega) ?_ | refine zaw rfl rfl (by omega) ?_ | refine zbz rfl (by omega) ?_) | refine zch ?_)
        refine run_take [1, 1, 0, 0, 0] rfl ?_
        have e1 : intsV (w.bs ++ [Tr.nodeN (w64 (0 - v))]) = intsV w.bs ++ [.int .i64 (Tr.nodeN (w64 (0 - v)))] := by simp [intsV]
        have e2 : intsV (w.cs ++ [w.cell]) = intsV w.cs ++ [.int .i64 w.cell] := by simp [intsV]
        have e3 : ((w.depth + 1 : Nat) : Int) = (w.depth : Int) + 1 := by omega
        refine cut_end ⟨rfl, (k, ⟨w.bs ++ [Tr.nodeN (w64 (0 - v))], w.cs ++ [w.cell], Tr.nodeN (w64 (0 - v)) + dig h w.depth, w.depth + 1⟩, s, (a1', c1'), (a2', c2')), ⟨rfl, rfl, rfl, rfl, rfl, trivial⟩, ⟨?_, hG, by dsimp only; omega, Tr.wayOk_next hw h4 _ h⟩, Nat.lt_succ_self k⟩
        dsimp only
        rw [e1, e2, e3, List.length_append, List.length_append]
        rfl
  · rw [if_neg hx] at hG
    rw [hG.done]
    refine cut_exit rfl rfl ?_
    repeat (first | refine zck ?_ | refine zcl ?_ | refine zcm ?_ | refine zcn ?_)
    first | refine zcp (by kernel_rfl) ?_ | refine zcq PP_mixed (by kernel_rfl) (by kernel_rfl) ?_
    repeat' (refine zap rfl ?_; first | refine zan rfl ?_ | refine zab 2 rfl rfl rfl ?_ | refine zae 1 rfl rfl rfl rfl rfl rfl rfl ?_)
    all_goals refine zch ?_
    all_goals repeat (first | refine zck ?_ | refine zcl ?_ | refine zcm ?_ | refine zcn ?_)
    exact run_ret (leaves_nil (ends_take [0, 2, 2] rfl (ends_two rfl (resOk_pt 1 rfl rfl rfl) rfl ⟨rfl, _, rfl, a1, c1, a2, c2, rfl, rfl⟩)))
end Go.Proofs.YtgdhcgnmffgkiaaGreatDoor

namespace Sim
open Go
def hsI (n : Int) : Int := IntKind.u64.wrap ((BitVec.ofInt 64 (IntKind.u64.wrap (IntKind.u64.wrap n * 11400714819323198485)) ^^^ BitVec.ofInt 64 (IntKind.u64.wrap (IntKind.u64.wrap n * 11400714819323198485) / 2 ^ 32)).toNat : Nat)
theorem hsI_in (n : Int) : 0 ≤ hsI n ∧ hsI n ≤ 18446744073709551615 := by unfold hsI; rw [IntKind.wrap_u64]; omega
structure Tr.IsI (T : Tr) : Prop where
  hash : T.hash = hsI
  has : ∀ n, T.has n = true
end Sim
namespace Go.Proofs.YtgdhcgnmffgkiaaGreatDoor
open Go.Vc Sim
set_option maxHeartbeats 4000000
def encVB (r : Int × Bool) : Value := .tuple #[.int .i64 r.1, .bool r.2]
def encLf (r : (Int × Int) × Bool) : Value := .tuple #[.int .i64 r.1.1, .int .i64 r.1.2, .bool r.2]
theorem trLeaf (w0 : World) (p : Nat) (T : Tr) (hT : T.Ok) (w : TWay) (hw : Tr.WayOk w) (a1 : Option Addr) (c1 : Nat) (a2 : Option Addr) (c2 : Nat) (n : Int) : FnG w0 [] 124 [trV T, spP p, wayV a1 c1 a2 c2 w, .int .i64 n] p (T.leaf w n) encLf := by
  obtain ⟨hw1, hw2, hw3, hw4, hw5, hw6⟩ := id hw
  have hN0 := hT.pool.2.2.2.2.2.1
  have hN1 := hT.nodes
  obtain ⟨N, hN⟩ : ∃ N : Nat, T.pool.nodes = (N : Int) := ⟨T.pool.nodes.toNat, by omega⟩
  have hNt : T.pool.nodes.toNat = N := by omega
  intro s hS; have hG := At.start hS; generalize Pg.run _ s = R at hG ⊢
  unfold Tr.leaf at hG
  rw [hNt] at hG
  refine fn_of_run en124 fn124 rfl rfl rfl ?_
  repeat (first | refine zck ?_ | refine zcl ?_ | refine zcm ?_ | refine zcn ?_)
  first | refine zcp (by kernel_rfl) ?_ | refine zcq PP_mixed (by kernel_rfl) (by kernel_rfl) ?_
  repeat' (refine zap rfl ?_; first | refine zan rfl ?_ | refine zaq (cs := [_, _, _, _]) rfl (fun nb => ?_) | refine zaq (cs := [_, _, _, _, _]) rfl (fun nb => ?_))
  all_goals refine zch ?_
  all_goals repeat (first | refine zck ?_ | refine zcl ?_ | refine zcm ?_ | refine zcn ?_)
  rename_i tb
  revert nb; intro wb
  refine run_share [1] rfl ?_
  refine run_share [1] rfl ?_
  repeat (first | refine zck ?_ | refine zcl ?_ | refine zcm ?_ | refine zcn ?_)
  first | refine zcp (by kernel_rfl) ?_ | refine zcq PP_mixed (by kernel_rfl) (by kernel_rfl) ?_
  repeat' (refine zap rfl ?_; first | refine zan rfl ?_ | refine zaa 0 rfl rfl rfl ?_ | refine zao rfl ?_)
  all_goals refine zch ?_
  all_goals repeat (first | refine zck ?_ | refine zcl ?_ | refine zcm ?_ | refine zcn ?_)
  repeat (first | refine zck ?_ | refine zcl ?_ | refine zcm ?_ | refine zcn ?_)
  first | refine zcp (by kernel_rfl) ?_ | refine zcq PP_mixed (by kernel_rfl) (by kernel_rfl) ?_
  repeat' (refine zap rfl ?_; first | refine zan rfl ?_)
  all_goals refine zch ?_
  all_goals repeat (first | refine zck ?_ | refine zcl ?_ | refine zcm ?_ | refine zcn ?_)
  refine run_loop (S := Nat × Int × Sp) (fun st => [(1, spP p), (3, .int .i64 n), (4, .pointer (some ⟨tb, 0, none⟩)), (6, .pointer (some ⟨wb, 0, none⟩)), (11, .int .i64 st.2.1), (12, .int .i64 (st.1 : Int))])
    (fun st Γ => Γ = [SpaceA p st.2.2] ∧ At R (T.leafK n w.depth (N - st.1) st.2.1) st.2.2 ∧ st.1 ≤ N)
    (fun st => N - st.1) (0, w.cell, s) ⟨rfl, rfl, rfl, rfl, rfl, rfl, trivial⟩ ⟨rfl, hG, Nat.zero_le _⟩ ?_
  rintro ⟨i, c, s⟩ Γ junk ⟨rfl, hG, hi⟩
  dsimp only at hG hi ⊢
  by_cases hlt : i < N
  · obtain ⟨k, hk⟩ : ∃ k, N - i = k + 1 := ⟨N - i - 1, by omega⟩
    rw [hk, Tr.leafK] at hG
    repeat (first | refine zck ?_ | refine zcl ?_ | refine zcm ?_ | refine zcn ?_)
    first | refine zcp (by kernel_rfl) ?_ | refine zcq PP_mixed (by kernel_rfl) (by kernel_rfl) ?_
    repeat' (refine zap rfl ?_; first | refine zan rfl ?_ | refine reg_callG [0] hG (getG w0 p _) rfl rfl rfl sub_nil (fun x s hG => ?_) | refine zbp rfl rfl ?_)
    all_goals refine zch ?_
    all_goals repeat (first | refine zck ?_ | refine zcl ?_ | refine zcm ?_ | refine zcn ?_)
    refine run_cond rfl (fun hx => ?_) (fun hx => ?_)
    · rw [if_neg hx] at hG
      repeat (first | refine zck ?_ | refine zcl ?_ | refine zcm ?_ | refine zcn ?_)
      first | refine zcp (by kernel_rfl) ?_ | refine zcq PP_mixed (by kernel_rfl) (by kernel_rfl) ?_
      repeat' (refine zap rfl ?_; first | refine zan rfl ?_ | refine zan rfl ?_ | refine zaa 1 rfl rfl rfl ?_ | refine reg_callG [0] hG (getG w0 p _) rfl rfl rfl sub_nil (fun v s hG => ?_) | refine zah [] (trNode w0 T hT _) rfl rfl rfl sub_nil rfl ?_ | refine zan rfl ?_)
      all_goals refine zch ?_
      all_goals repeat (first | refine zck ?_ | refine zcl ?_ | refine zcm ?_ | refine zcn ?_)
      have hnb := Tr.nodeN_bd v
      generalize hb : T.nodeB v = b at hG ⊢
      cases b with
      | false =>
        simp only [Bool.false_eq_true, if_false] at hG
        rw [hG.done]
        repeat' (first | refine zck ?_ | refine zcp (by kernel_rfl) ?_ | (refine zap rfl ?_; first | refine zak rfl ?_ | refine zan rfl ?_ | refine zan rfl ?_ | refine zbx rfl ?_ | refine zbu rfl ?_) | refine zch ?_ | refine zci rfl ?_)
        exact qret3 (fun _ _ h => h) rfl ⟨rfl, rfl⟩
      | true =>
        simp only [if_true] at hG
        repeat (first | refine zck ?_ | refine zcl ?_ | refine zcm ?_ | refine zcn ?_)
        first | refine zcp (by kernel_rfl) ?_ | refine zcq PP_mixed (by kernel_rfl) (by kernel_rfl) ?_
        repeat' (refine zap rfl ?_; first | refine zaj rfl ?_ | refine zan rfl ?_ | refine zaa 1 rfl rfl rfl ?_ | refine zao rfl ?_ | refine zbn rfl rfl (by omega) ?_ | refine zbx rfl ?_ | refine zbv rfl ?_)
        all_goals refine zch ?_
        all_goals repeat (first | refine zck ?_ | refine zcl ?_ | refine zcm ?_ | refine zcn ?_)
        refine zcj rfl ?_
        repeat (first | refine zck ?_ | refine zcl ?_ | refine zcm ?_ | refine zcn ?_)
        first | refine zcp (by kernel_rfl) ?_ | refine zcq PP_mixed (by kernel_rfl) (by kernel_rfl) ?_
        repeat' (refine zap rfl ?_; first | refine zan rfl ?_ | refine reg_callG [0] hG (getG w0 p _) rfl rfl rfl sub_nil (fun u s hG => ?_) | refine zbo rfl rfl ?_)
        all_goals refine zch ?_
        all_goals repeat (first | refine zck ?_ | refine zcl ?_ | refine zcm ?_ | refine zcn ?_)
        refine run_cond rfl (fun hz => ?_) (fun hz => ?_)
        · rw [if_pos hz] at hG
          rw [hG.done]
          repeat' (first | refine zck ?_ | refine zcp (by kernel_rfl) ?_ | (refine zap rfl ?_; first | refine zan rfl ?_ | refine zan rfl ?_) | refine zch ?_)
          exact qret3 (fun _ _ h => h) rfl ⟨rfl, rfl⟩
        · rw [if_neg hz] at hG
          by_cases h4 : w.depth < 4
          · rw [if_pos h4] at hG
            rw [hG.done]
            repeat (first | refine zck ?_ | refine zcl ?_ | refine zcm ?_ | refine zcn ?_)
            first | refine zcp (by kernel_rfl) ?_ | refine zcq PP_mixed (by kernel_rfl) (by kernel_rfl) ?_
            repeat' (refine zap rfl ?_; first | refine zaa 0 rfl rfl rfl ?_ | refine zao rfl ?_ | refine zbg rfl rfl (by omega) ?_)
            all_goals refine zch ?_
            all_goals repeat (first | refine zck ?_ | refine zcl ?_ | refine zcm ?_ | refine zcn ?_)
            refine zci rfl ?_
            refine cut_exit rfl rfl ?_
            repeat' (first | refine zck ?_ | refine zcp (by kernel_rfl) ?_ | (refine zap rfl ?_; first | refine zan rfl ?_ | refine zan rfl ?_) | refine zch ?_)
            exact ret_tmp3 rfl ⟨rfl, rfl⟩
          · rw [if_neg h4] at hG
            repeat (first | refine zck ?_ | refine zcl ?_ | refine zcm ?_ | refine zcn ?_)
            first | refine zcp (by kernel_rfl) ?_ | refine zcq PP_mixed (by kernel_rfl) (by kernel_rfl) ?_
            repeat' (refine zap rfl ?_; first | refine zaa 0 rfl rfl rfl ?_ | refine zao rfl ?_ | refine zbh rfl rfl (by omega) ?_)
            all_goals refine zch ?_
            all_goals repeat (first | refine zck ?_ | refine zcl ?_ | refine zcm ?_ | refine zcn ?_)
            refine zcj rfl ?_
            repeat' (first | refine zcp (by kernel_rfl) ?_ | refine zcm ?_ | refine zcn ?_ | (refine zap rfl ?_; first | refine zan rfl ?_ | refine zan rfl ?_ | refine zau rfl rfl (by omega) ?_) | refine zch ?_)
            exact cut_end ⟨rfl, (i + 1, _, s), ⟨rfl, rfl, rfl, rfl, rfl, int_eq (by dsimp only; omega), trivial⟩, ⟨rfl, by dsimp only; rw [show N - (i + 1) = k by omega]; exact hG, hlt⟩, by dsimp only; omega⟩
    · have hx0 : x = 0 := by simpa using hx
      rw [if_pos hx0] at hG
      rw [hG.done]
      refine cut_exit rfl rfl ?_
      repeat' (first | refine zck ?_ | refine zcp (by kernel_rfl) ?_ | (refine zap rfl ?_; first | refine zan rfl ?_ | refine zan rfl ?_) | refine zch ?_)
      exact ret_tmp3 rfl ⟨rfl, rfl⟩
  · have hk : N - i = 0 := by omega
    rw [hk, Tr.leafK] at hG
    repeat (first | refine zck ?_ | refine zcl ?_ | refine zcm ?_ | refine zcn ?_)
    first | refine zcp (by kernel_rfl) ?_ | refine zcq PP_mixed (by kernel_rfl) (by kernel_rfl) ?_
    repeat' (refine zap rfl ?_; first | refine zan rfl ?_ | refine reg_callG [0] hG (getG w0 p _) rfl rfl rfl sub_nil (fun x s hG => ?_) | refine zbp rfl rfl ?_)
    all_goals refine zch ?_
    all_goals repeat (first | refine zck ?_ | refine zcl ?_ | refine zcm ?_ | refine zcn ?_)
    refine run_cond rfl (fun hx => ?_) (fun hx => ?_)
    · rw [if_neg hx] at hG
      repeat (first | refine zck ?_ | refine zcl ?_ | refine zcm ?_ | refine zcn ?_)
      first | refine zcp (by kernel_rfl) ?_ | refine zcq PP_mixed (by kernel_rfl) (by kernel_rfl) ?_
      repeat' (refine zap rfl ?_; first | refine zan rfl ?_ | refine zan rfl ?_ | refine zaa 1 rfl rfl rfl ?_ | refine reg_callG [0] hG (getG w0 p _) rfl rfl rfl sub_nil (fun v s hG => ?_) | refine zah [] (trNode w0 T hT _) rfl rfl rfl sub_nil rfl ?_ | refine zan rfl ?_)
      all_goals refine zch ?_
      all_goals repeat (first | refine zck ?_ | refine zcl ?_ | refine zcm ?_ | refine zcn ?_)
      rw [hG.done]
      generalize hb : T.nodeB v = b
      cases b with
      | false =>
        repeat' (first | refine zck ?_ | refine zcp (by kernel_rfl) ?_ | (refine zap rfl ?_; first | refine zak rfl ?_ | refine zan rfl ?_ | refine zan rfl ?_ | refine zbx rfl ?_ | refine zbu rfl ?_) | refine zch ?_ | refine zci rfl ?_)
        exact qret3 (fun _ _ h => h) rfl ⟨rfl, rfl⟩
      | true =>
        repeat' (first | refine zck ?_ | refine zcp (by kernel_rfl) ?_ | (refine zap rfl ?_; first | refine zaj rfl ?_ | refine zan rfl ?_ | refine zan rfl ?_ | refine zaa 1 rfl rfl rfl ?_ | refine zao rfl ?_ | refine zbm rfl rfl (by omega) ?_ | refine zbx rfl ?_ | refine zbv rfl ?_) | refine zch ?_ | refine zci rfl ?_)
        exact qret3 (fun _ _ h => h) rfl ⟨rfl, rfl⟩
    · have hx0 : x = 0 := by simpa using hx
      rw [if_pos hx0] at hG
      rw [hG.done]
      refine cut_exit rfl rfl ?_
      repeat' (first | refine zck ?_ | refine zcp (by kernel_rfl) ?_ | (refine zap rfl ?_; first | refine zan rfl ?_ | refine zan rfl ?_) | refine zch ?_)
      exact ret_tmp3 rfl ⟨rfl, rfl⟩
theorem trNum (w0 : World) (n : Int) : FnE PP w0 [] 304 [.agg #[], .int .i64 n] [] (.tuple #[.int .i64 n, .bool true]) [] := by
  refine fn_of_run en304 fn304 rfl rfl rfl ?_
  repeat' (first | refine zck ?_ | refine zcp (by kernel_rfl) ?_ | (refine zap rfl ?_; first | refine zan rfl ?_ | refine zan rfl ?_ | refine zaq (cs := []) rfl (fun nb => ?_)) | refine zch ?_)
  refine run_take [] rfl ?_
  exact ret_tmp2 rfl ⟨rfl, rfl⟩
theorem trKey (w0 : World) (n : Int) : FnE PP w0 [] 303 [.agg #[], .int .i64 n] [] (.tuple #[.int .i64 n, .bool true]) [] := by
  refine fn_of_run en303 fn303 rfl rfl rfl ?_
  repeat' (first | refine zck ?_ | refine zcp (by kernel_rfl) ?_ | (refine zap rfl ?_; first | refine zan rfl ?_ | refine zan rfl ?_ | refine zaq (cs := []) rfl (fun nb => ?_)) | refine zch ?_)
  refine run_take [] rfl ?_
  exact ret_tmp2 rfl ⟨rfl, rfl⟩
theorem trHash (w0 : World) (n : Int) : FnE PP w0 [] 302 [.agg #[], .int .i64 n] [] (.int .u64 (hsI n)) [] := by
  refine fn_of_run en302 fn302 rfl rfl rfl ?_
  repeat' (first | refine zck ?_ | refine zcp (by kernel_rfl) ?_ | (refine zap rfl ?_; first | refine reg_shr (q := 32) rfl rfl (by decide) ?_ | refine reg_xor rfl rfl ?_ | refine reg_mul (t := 163) rfl rfl ?_ | refine zan rfl ?_ | refine zan rfl ?_ | refine zaq (cs := []) rfl (fun nb => ?_) | refine zca rfl ?_) | refine zch ?_)
  refine run_take [] rfl ?_
  exact ret_tmp1 rfl ⟨rfl, rfl⟩
theorem trGet (w0 : World) (p : Nat) (T : Tr) (hT : T.Ok) (_ : T.IsI) (n : Int) : FnG w0 [] 60 [trV T, spP p, .int .i64 n] p (T.get n (hsI n)) encVB := by
  intro s hS; have hG := At.start hS; generalize Pg.run _ s = R at hG ⊢
  unfold Tr.get at hG
  refine fn_of_run en60 fn60 rfl rfl rfl ?_
  repeat (first | refine zck ?_ | refine zcl ?_ | refine zcm ?_ | refine zcn ?_)
  first | refine zcp (by kernel_rfl) ?_ | refine zcq PP_mixed (by kernel_rfl) (by kernel_rfl) ?_
  repeat' (refine zap rfl ?_; first | refine zan rfl ?_ | refine zaq (cs := [_, _, _, _, _]) rfl (fun nb => ?_))
  all_goals refine zch ?_
  all_goals repeat (first | refine zck ?_ | refine zcl ?_ | refine zcm ?_ | refine zcn ?_)
  refine run_share [1] rfl ?_
  repeat (first | refine zck ?_ | refine zcl ?_ | refine zcm ?_ | refine zcn ?_)
  first | refine zcp (by kernel_rfl) ?_ | refine zcq PP_mixed (by kernel_rfl) (by kernel_rfl) ?_
  repeat' (refine zap rfl ?_; first | refine zan rfl ?_ | refine zan rfl ?_ | refine zaa 0 rfl rfl rfl ?_ | refine reg_invokeE [] (trNum w0 n) rfl rfl rfl sub_nil rfl ?_ | refine zao rfl ?_ | refine zan rfl ?_)
  all_goals refine zch ?_
  all_goals repeat (first | refine zck ?_ | refine zcl ?_ | refine zcm ?_ | refine zcn ?_)
  repeat (first | refine zck ?_ | refine zcl ?_ | refine zcm ?_ | refine zcn ?_)
  first | refine zcp (by kernel_rfl) ?_ | refine zcq PP_mixed (by kernel_rfl) (by kernel_rfl) ?_
  repeat' (refine zap rfl ?_; first | refine zan rfl ?_ | refine zbx rfl ?_)
  all_goals refine zch ?_
  all_goals repeat (first | refine zck ?_ | refine zcl ?_ | refine zcm ?_ | refine zcn ?_)
  refine zcj rfl ?_
  repeat (first | refine zck ?_ | refine zcl ?_ | refine zcm ?_ | refine zcn ?_)
  first | refine zcp (by kernel_rfl) ?_ | refine zcq PP_mixed (by kernel_rfl) (by kernel_rfl) ?_
  repeat' (refine zap rfl ?_; first | refine zan rfl ?_ | refine zan rfl ?_ | refine zaa 0 rfl rfl rfl ?_ | refine reg_invokeE [] (trHash w0 n) rfl rfl rfl sub_nil rfl ?_ | (refine reg_callX [0] hG (T.all_down hT _) (trDown w0 p T hT _ (hsI_in n).1) rfl rfl rfl sub_nil ?_; rintro w s v Γ1 hw ⟨a1, c1, a2, c2, rfl, rfl⟩ hG) | refine zao rfl ?_ | refine zan rfl ?_ | refine zae 3 rfl rfl rfl rfl rfl rfl rfl ?_ | refine zar (fun nb => ?_))
  all_goals refine zch ?_
  all_goals repeat (first | refine zck ?_ | refine zcl ?_ | refine zcm ?_ | refine zcn ?_)
  obtain ⟨w, ok⟩ := w
  dsimp only at hG hw
  cases ok with
  | false =>
    simp only [Bool.false_eq_true, if_false] at hG
    rw [hG.done]
    repeat' (first | refine zck ?_ | refine zcp (by kernel_rfl) ?_ | (refine zap rfl ?_; first | refine zan rfl ?_ | refine zan rfl ?_ | refine zbx rfl ?_) | refine zch ?_ | refine zci rfl ?_)
    refine run_take [0] rfl ?_
    exact ret_tmp2 rfl ⟨rfl, rfl⟩
  | true =>
    simp only [if_true] at hG
    repeat (first | refine zck ?_ | refine zcl ?_ | refine zcm ?_ | refine zcn ?_)
    first | refine zcp (by kernel_rfl) ?_ | refine zcq PP_mixed (by kernel_rfl) (by kernel_rfl) ?_
    repeat' (refine zap rfl ?_; first | refine zan rfl ?_ | refine zbx rfl ?_)
    all_goals refine zch ?_
    all_goals repeat (first | refine zck ?_ | refine zcl ?_ | refine zcm ?_ | refine zcn ?_)
    refine zcj rfl ?_
    repeat (first | refine zck ?_ | refine zcl ?_ | refine zcm ?_ | refine zcn ?_)
    first | refine zcp (by kernel_rfl) ?_ | refine zcq PP_mixed (by kernel_rfl) (by kernel_rfl) ?_
    repeat' (refine zap rfl ?_; first | refine zan rfl ?_ | refine zan rfl ?_ | refine zaa 0 rfl rfl rfl ?_ | refine zab 3 rfl rfl rfl ?_ | (refine reg_callGP [0] hG (T.all_leaf w hw n) (trLeaf w0 p T hT w hw a1 c1 a2 c2 n) rfl rfl rfl sub_nil (fun l s hl hG => ?_)) | refine zan rfl ?_)
    all_goals refine zch ?_
    all_goals repeat (first | refine zck ?_ | refine zcl ?_ | refine zcm ?_ | refine zcn ?_)
    obtain ⟨⟨c, a⟩, ok⟩ := l
    obtain ⟨hk1, hk2, hk3, hk4⟩ := id hl
    obtain ⟨hl1, hl2, hl3, hl4⟩ := hl
    dsimp only at hG hl1 hl2 hl3 hl4
    cases ok with
    | false =>
      simp only [Bool.false_eq_true, if_false] at hG
      rw [hG.done]
      repeat' (first | refine zck ?_ | refine zcp (by kernel_rfl) ?_ | (refine zap rfl ?_; first | refine zak rfl ?_ | refine zan rfl ?_ | refine zan rfl ?_ | refine zbx rfl ?_ | refine zbu rfl ?_) | refine zch ?_ | refine zci rfl ?_)
      refine run_take [0] rfl ?_
      exact ret_tmp2 rfl ⟨rfl, rfl⟩
    | true =>
      simp only [if_true] at hG
      by_cases ha : a = 0
      · rw [if_pos ha] at hG
        rw [hG.done]
        repeat' (first | refine zck ?_ | refine zcp (by kernel_rfl) ?_ | (refine zap rfl ?_; first | refine zaj rfl ?_ | refine zan rfl ?_ | refine zan rfl ?_ | refine zbc rfl rfl (by omega) ?_ | refine zbx rfl ?_ | refine zbv rfl ?_) | refine zch ?_ | refine zci rfl ?_)
        refine run_take [0] rfl ?_
        exact ret_tmp2 rfl ⟨rfl, rfl⟩
      · rw [if_neg ha] at hG
        repeat' (first | refine zck ?_ | refine zcp (by kernel_rfl) ?_ | refine zcm ?_ | (refine zap rfl ?_; first | refine zaj rfl ?_ | refine zan rfl ?_ | refine zan rfl ?_ | refine reg_callG [0] hG (getG w0 p _) rfl rfl rfl sub_nil (fun u s hG => ?_) | refine zbd rfl rfl (by omega) ?_ | refine zau rfl rfl (by omega) ?_ | refine zbx rfl ?_ | refine zbv rfl ?_) | refine zch ?_ | refine zcj rfl ?_)
        rw [hG.done]
        refine run_take [0] rfl ?_
        exact ret_tmp2 rfl ⟨rfl, rfl⟩
end Go.Proofs.YtgdhcgnmffgkiaaGreatDoor

