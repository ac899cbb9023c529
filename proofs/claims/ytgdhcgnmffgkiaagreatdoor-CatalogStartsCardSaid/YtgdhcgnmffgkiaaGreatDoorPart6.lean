import Derived.Sort.AssemblyPlain
import Derived.Sort.LotD5
import Derived.Test.YtgdhcgnmffgkiaaGreatDoorPart5
import Derived.Test.YtgdhcgnmffgkiaaGreatDoorPart2
import Derived.Test.YtgdhcgnmffgkiaaGreatDoorPart3
import Derived.Test.YtgdhcgnmffgkiaaGreatDoorPart4
import Derived.Test.YtgdhcgnmffgkiaaGreatDoorPart1
import Derived.Test.YtgdhcgnmffgkiaaGreatDoorKit
import Derived.Test.YtgdhcgnmffgkiaaGreatDoorKitA
/- Lemmas and walks for the claims of this seat (own work): Fo6 Qs0 Qs1 Qs2 Qs3 Nw2 Aw1 Tw5 Tw6 Tw7 Sq0 Sq1 Sq2 Sq3 Sq4 Sq5 Sq6 Sq7 Sq8 So0 So1 So2 So3 So4 So5 So6 So7 So8 So9 Sq10 Sq11 Sq12 Sq13 Sq14 Tw8. -/
namespace Go.Proofs.YtgdhcgnmffgkiaaGreatDoor
open Go.Vc Sim
set_option maxHeartbeats 4000000
abbrev cel (b : Nat) (v : Value) (T : TypeId) : Asn := pt b (.cells (List.toArray [v]) T (0, 0))
theorem foMake1 (w0 : World) (p : Nat) (s : Sp) (m : Nat) (e x : Int) (eb sb mb xb : Nat) :
    FnD PP w0 [] 187 [.pointer (some ⟨eb, 0, none⟩), .pointer (some ⟨sb, 0, none⟩), .pointer (some ⟨mb, 0, none⟩), .pointer (some ⟨xb, 0, none⟩)]
    [SpaceA p s, cel xb (.int .i64 x) 2, cel eb (.int .i64 e) 39, cel mb (.int .i64 m) 3, cel sb (spP p) 24]
    fun v Γ' => v = .tuple #[] ∧ Γ' = [SpaceA p (if e ≠ 0 then s.back m else s), cel xb (.int .i64 (if e ≠ 0 then 0 else x)) 2, cel eb (.int .i64 e) 39, cel mb (.int .i64 m) 3, cel sb (spP p) 24] := by
  refine fnD_of_run en187 fn187 rfl rfl rfl ?_
 
  repeat' (first | refine zck ?_ | refine zcp (by kernel_rfl) ?_ | (refine zap rfl ?_; first | refine zab 2 rfl rfl rfl ?_ | refine zbp rfl rfl ?_) | refine zch ?_)
  refine run_cond rfl (fun hE => ?_) (fun hE => ?_)
  · repeat' (first | refine zck ?_ | refine zcp (by kernel_rfl) ?_ | (refine zap rfl ?_; first | refine zab 3 rfl rfl rfl ?_ | refine zab 4 rfl rfl rfl ?_ | refine zah [0] (back_spec w0 p s m) rfl rfl rfl sub_nil rfl ?_ | refine zae 1 rfl rfl rfl rfl rfl rfl rfl ?_) | refine zch ?_)
    refine run_nil ⟨rfl, ends_none rfl ?_⟩
    rw [if_pos hE, if_pos hE]; exact ⟨rfl, rfl⟩
  · repeat' (first | refine zcm ?_ | (refine zap rfl ?_; first | refine zaj rfl ?_ | refine zak rfl ?_ | refine zal rfl ?_ | refine zam rfl rfl (fun _ => ?_) (fun _ => ?_)) | refine zch ?_)
    refine run_nil ⟨rfl, ends_none rfl ?_⟩
    rw [if_neg hE, if_neg hE]; exact ⟨rfl, rfl⟩
def makeD (eb sb mb xb : Nat) : Deferred := { target := .fn (.func 187) (List.toArray [.pointer (some ⟨eb, 0, none⟩), .pointer (some ⟨sb, 0, none⟩), .pointer (some ⟨mb, 0, none⟩), .pointer (some ⟨xb, 0, none⟩)]), args := List.toArray [] }
theorem make_fin (w0 : World) (p eb sb mb xb : Nat) (m : Nat) (R : (Int × Int) × Sp) (x e : Int) (s : Sp) (ρ : Env) (h4 : ρ 4 = .pointer (some ⟨xb, 0, none⟩)) (h5 : ρ 5 = .pointer (some ⟨eb, 0, none⟩)) (hG : At R (Fo.after m (x, e)) s) :
    LeavesS PP w0 [] Tryz.f96 ρ [makeD eb sb mb xb] [SpaceA p s, cel xb (.int .i64 x) 2, cel eb (.int .i64 e) 39, cel mb (.int .i64 m) 3, cel sb (spP p) 24] (fun v Γ => v = encI2 R.1 ∧ Γ = [SpaceA p R.2]) := by
  refine leaves_defer1 [0, 0, 0, 0, 0] (foMake1 w0 p s m e x eb sb mb xb) rfl rfl sub_nil ?_
  refine leaves_nil (ends_take [0] rfl (ends_two rfl (resOk_pt 1 h4 rfl rfl) (resOk_pt 2 h5 rfl rfl) ?_))
  refine ⟨rfl, ?_⟩
  unfold Fo.after at hG
  by_cases hE : e ≠ 0
  · dsimp only at hG
    rw [if_pos hE] at hG
    rw [hG.step.2.done, if_pos hE, if_pos hE]
    exact ⟨rfl, rfl⟩
  · dsimp only at hG
    rw [if_neg hE] at hG
    rw [hG.done, if_neg hE, if_neg hE]
    exact ⟨rfl, rfl⟩
theorem foMake (w0 : World) (p : Nat) (F : Fo) (hF : F.Ok) : FnG w0 [] 96 [foV F, spP p] p F.make encI2 := by
  obtain ⟨_, h1, h2⟩ := id hF
  intro s hS; have hG := At.start hS; generalize Pg.run _ s = R at hG ⊢
  refine fn_of_run en96 fn96 rfl rfl rfl ?_
  repeat (first | refine zck ?_ | refine zcl ?_ | refine zcm ?_ | refine zcn ?_)
  first | refine zcp (by kernel_rfl) ?_ | refine zcq PP_mixed (by kernel_rfl) (by kernel_rfl) ?_
  repeat' (refine zap rfl ?_; first | refine zaq (cs := [_]) rfl (fun nb => ?_) | refine zaq (cs := [_, _, _, _]) rfl (fun nb => ?_) | refine zar (fun nb => ?_))
  all_goals refine zch ?_
  all_goals repeat (first | refine zck ?_ | refine zcl ?_ | refine zcm ?_ | refine zcn ?_)
  rename_i fb sb xb
  revert nb; intro eb
  refine run_share [1] rfl ?_
  refine run_share_keep [1] rfl ?_
  repeat (first | refine zck ?_ | refine zcl ?_ | refine zcm ?_ | refine zcn ?_)
  first | refine zcp (by kernel_rfl) ?_ | refine zcq PP_mixed (by kernel_rfl) (by kernel_rfl) ?_
  repeat' (refine zap rfl ?_; first | refine zan rfl ?_ | refine zan rfl ?_ | refine zaa 0 rfl rfl rfl ?_ | refine zaa 1 rfl rfl rfl ?_ | refine reg_callGP [0] hG F.all_many (foMany w0 p F hF) rfl rfl rfl sub_nil (fun n s hn hG => ?_) | refine zan rfl ?_)
  all_goals refine zch ?_
  all_goals repeat (first | refine zck ?_ | refine zcl ?_ | refine zcm ?_ | refine zcn ?_)
  obtain ⟨n1, n2⟩ := n
  dsimp only at hn hG
  cases n2 with
  | false =>
    rw [if_neg (by decide)] at hG
    rw [hG.done]
    repeat' (first | refine zck ?_ | refine zcp (by kernel_rfl) ?_ | (refine zap rfl ?_; first | refine zbx rfl ?_ | refine zan rfl ?_ | refine zan rfl ?_ | refine zae 1 rfl rfl rfl rfl rfl rfl rfl ?_ | refine zae 2 rfl rfl rfl rfl rfl rfl rfl ?_) | refine zch ?_ | refine zci rfl ?_)
    exact run_ret (leaves_nil (ends_take [0] rfl (ends_two rfl (resOk_pt 1 rfl rfl rfl) (resOk_pt 2 rfl rfl rfl) ⟨rfl, rfl, rfl⟩)))
  | true =>
    rw [if_pos rfl] at hG
    have hn := hn rfl
    by_cases c1 : n1 = 64
    · rw [if_pos c1] at hG
      rw [hG.done]
      repeat' (first | refine zck ?_ | refine zcp (by kernel_rfl) ?_ | (refine zap rfl ?_; first | refine zbx rfl ?_ | refine zan rfl ?_ | refine zan rfl ?_ | refine zbc rfl rfl (by omega) ?_ | refine zae 1 rfl rfl rfl rfl rfl rfl rfl ?_ | refine zae 2 rfl rfl rfl rfl rfl rfl rfl ?_) | refine zch ?_ | refine zci rfl ?_ | refine zcj rfl ?_)
      exact run_ret (leaves_nil (ends_take [0] rfl (ends_two rfl (resOk_pt 1 rfl rfl rfl) (resOk_pt 2 rfl rfl rfl) ⟨rfl, rfl, rfl⟩)))
    rw [if_neg c1] at hG
    repeat (first | refine zck ?_ | refine zcl ?_ | refine zcm ?_ | refine zcn ?_)
    first | refine zcp (by kernel_rfl) ?_ | refine zcq PP_mixed (by kernel_rfl) (by kernel_rfl) ?_
    repeat' (refine zap rfl ?_; first | refine zbx rfl ?_ | refine zan rfl ?_ | refine zan rfl ?_)
    all_goals refine zch ?_
    all_goals repeat (first | refine zck ?_ | refine zcl ?_ | refine zcm ?_ | refine zcn ?_)
    refine zcj rfl ?_
    repeat (first | refine zck ?_ | refine zcl ?_ | refine zcm ?_ | refine zcn ?_)
    first | refine zcp (by kernel_rfl) ?_ | refine zcq PP_mixed (by kernel_rfl) (by kernel_rfl) ?_
    repeat' (refine zap rfl ?_; first | refine zan rfl ?_ | refine zan rfl ?_ | refine zbd rfl rfl (by omega) ?_)
    all_goals refine zch ?_
    all_goals repeat (first | refine zck ?_ | refine zcl ?_ | refine zcm ?_ | refine zcn ?_)
    refine zcj rfl ?_
    repeat (first | refine zck ?_ | refine zcl ?_ | refine zcm ?_ | refine zcn ?_)
    first | refine zcp (by kernel_rfl) ?_ | refine zcq PP_mixed (by kernel_rfl) (by kernel_rfl) ?_
    repeat' (refine zap rfl ?_; first | refine zaa 0 rfl rfl rfl ?_ | refine reg_callG [0] hG (markG w0 p) rfl rfl rfl sub_nil (fun m s hG => ?_) | refine zae 3 rfl rfl rfl rfl rfl rfl rfl ?_ | refine zar (fun nb => ?_))
    all_goals refine zch ?_
    all_goals repeat (first | refine zck ?_ | refine zcl ?_ | refine zcm ?_ | refine zcn ?_)
    revert nb; intro mb
    refine run_share_keep [3] rfl ?_
    simp only [Fo.makeIn, Pg.bind_assoc, Pg.ite_bind, Pg.pure_bind] at hG
    repeat (first | refine zck ?_ | refine zcl ?_ | refine zcm ?_ | refine zcn ?_)
    first | refine zcp (by kernel_rfl) ?_ | refine zcq PP_mixed (by kernel_rfl) (by kernel_rfl) ?_
    repeat' (refine zap rfl ?_; first | refine zan rfl ?_ | refine zcd rfl rfl ?_)
    all_goals refine zch ?_
    all_goals repeat (first | refine zck ?_ | refine zcl ?_ | refine zcm ?_ | refine zcn ?_)
    repeat (first | refine zck ?_ | refine zcl ?_ | refine zcm ?_ | refine zcn ?_)
    first | refine zcp (by kernel_rfl) ?_ | refine zcq PP_mixed (by kernel_rfl) (by kernel_rfl) ?_
    repeat' (refine zap rfl ?_; first | refine zan rfl ?_ | refine zau rfl rfl (by omega) ?_ | refine zae 1 rfl rfl rfl rfl rfl rfl rfl ?_)
    all_goals refine zch ?_
    all_goals repeat (first | refine zck ?_ | refine zcl ?_ | refine zcm ?_ | refine zcn ?_)
    repeat (first | refine zck ?_ | refine zcl ?_ | refine zcm ?_ | refine zcn ?_)
    first | refine zcp (by kernel_rfl) ?_ | refine zcq PP_mixed (by kernel_rfl) (by kernel_rfl) ?_
    repeat' (refine zap rfl ?_; first | refine zaa 1 rfl rfl rfl ?_ | refine zaa 2 rfl rfl rfl ?_ | refine zab 1 rfl rfl rfl ?_ | refine reg_callG [0] hG (foRoom w0 p F hF (n1 + 1) (by omega)) rfl rfl rfl sub_nil (fun e s hG => ?_) | refine zae 2 rfl rfl rfl rfl rfl rfl rfl ?_)
    all_goals refine zch ?_
    all_goals repeat (first | refine zck ?_ | refine zcl ?_ | refine zcm ?_ | refine zcn ?_)
    repeat (first | refine zck ?_ | refine zcl ?_ | refine zcm ?_ | refine zcn ?_)
    first | refine zcp (by kernel_rfl) ?_ | refine zcq PP_mixed (by kernel_rfl) (by kernel_rfl) ?_
    repeat' (refine zap rfl ?_; first | refine zab 2 rfl rfl rfl ?_ | refine zbp rfl rfl ?_)
    all_goals refine zch ?_
    all_goals repeat (first | refine zck ?_ | refine zcl ?_ | refine zcm ?_ | refine zcn ?_)
    refine run_cond rfl (fun hE => ?_) (fun hE => ?_)
    · rw [if_pos hE] at hG
      refine run_share_keep [2] rfl ?_
      repeat' (first | refine zck ?_ | refine zcq PP_mixed (by kernel_rfl) (by kernel_rfl) ?_ | (refine zap rfl ?_; first | refine reg_store_same 0 rfl rfl rfl rfl rfl rfl ?_ | refine zaa 0 rfl rfl rfl ?_ | refine zae 1 rfl rfl rfl rfl rfl rfl rfl ?_) | refine zch ?_)
      exact run_ret (make_fin w0 p eb sb mb xb m R 0 e s _ rfl rfl hG)
    rw [if_neg hE] at hG
    refine run_slots [(2, .pointer (some ⟨fb, 0, none⟩)), (3, .pointer (some ⟨sb, 0, none⟩)), (4, .pointer (some ⟨xb, 0, none⟩)), (5, .pointer (some ⟨eb, 0, none⟩))] ⟨rfl, rfl, rfl, rfl, trivial⟩ (fun junk => ?_)
    repeat (first | refine zck ?_ | refine zcl ?_ | refine zcm ?_ | refine zcn ?_)
    first | refine zcp (by kernel_rfl) ?_ | refine zcq PP_mixed (by kernel_rfl) (by kernel_rfl) ?_
    repeat' (refine zap rfl ?_; first | refine zan rfl ?_ | refine zan rfl ?_ | refine zaa 1 rfl rfl rfl ?_ | refine zaa 2 rfl rfl rfl ?_ | refine zab 1 rfl rfl rfl ?_ | refine reg_callGP [0] hG (F.all_place (n1 + 1)) (foPlace w0 p F hF (n1 + 1) ⟨by omega, by omega⟩) rfl rfl rfl sub_nil (fun c s hb hG => ?_) | refine zan rfl ?_)
    all_goals refine zch ?_
    all_goals repeat (first | refine zck ?_ | refine zcl ?_ | refine zcm ?_ | refine zcn ?_)
    repeat (first | refine zck ?_ | refine zcl ?_ | refine zcm ?_ | refine zcn ?_)
    first | refine zcp (by kernel_rfl) ?_ | refine zcq PP_mixed (by kernel_rfl) (by kernel_rfl) ?_
    repeat' (refine zap rfl ?_; first | refine zan rfl ?_ | refine zbx rfl ?_)
    all_goals refine zch ?_
    all_goals repeat (first | refine zck ?_ | refine zcl ?_ | refine zcm ?_ | refine zcn ?_)
    refine run_condV rfl (fun hE => ?_) (fun hE => ?_)
    · have hE : c.2 = false := by simpa using hE
      simp only [hE, Bool.false_eq_true, if_false] at hG
      repeat' (first | refine zck ?_ | refine zcp (by kernel_rfl) ?_ | (refine zap rfl ?_; first | refine zae 1 rfl rfl rfl rfl rfl rfl rfl ?_ | refine zae 2 rfl rfl rfl rfl rfl rfl rfl ?_) | refine zch ?_)
      exact run_ret (make_fin w0 p eb sb mb xb m R 0 24 s _ rfl rfl hG)
    have hE : c.2 = true := by simpa using hE
    simp only [hE, if_true] at hG
    repeat (first | refine zck ?_ | refine zcl ?_ | refine zcm ?_ | refine zcn ?_)
    first | refine zcp (by kernel_rfl) ?_ | refine zcq PP_mixed (by kernel_rfl) (by kernel_rfl) ?_
    repeat' (refine zap rfl ?_; first | refine zan rfl ?_ | refine reg_buildA rfl ?_)
    all_goals refine zch ?_
    all_goals repeat (first | refine zck ?_ | refine zcl ?_ | refine zcm ?_ | refine zcn ?_)
    refine run_loop1 ?_
    repeat' (first | refine zck ?_ | refine zcp (by kernel_rfl) ?_ | refine zcq PP_mixed (by kernel_rfl) (by kernel_rfl) ?_ | refine zcm ?_ | refine zcl ?_ | refine zcn ?_ | refine zco ?_ | refine zcs rfl ?_ | (refine zap rfl ?_; first | refine reg_add (t := 2) rfl rfl ?_ | refine zan rfl ?_ | refine zan rfl ?_ | refine zaa 1 rfl rfl rfl ?_ | refine zaa 2 rfl rfl rfl ?_ | refine zab 1 rfl rfl rfl ?_ | refine reg_callG [0] hG (getG w0 p _) rfl rfl rfl sub_nil (fun u s hG => ?_) | refine reg_callG [0] hG (putG w0 p _ _) rfl rfl rfl sub_nil (fun u s hG => ?_) | refine zao rfl ?_ | refine zbg rfl rfl (by omega) ?_ | refine zbh rfl rfl (by omega) ?_ | refine reg_addZ rfl rfl (by omega) ?_ | refine zau rfl rfl (by omega) ?_ | refine zae 1 rfl rfl rfl rfl rfl rfl rfl ?_ | refine zae 2 rfl rfl rfl rfl rfl rfl rfl ?_ | refine reg_indexA rfl rfl (by omega) rfl ?_) | refine zch ?_ | refine zci rfl ?_ | refine zcj rfl ?_)
    exact run_ret (make_fin w0 p eb sb mb xb m R (n1 + 1) 0 s _ rfl rfl hG)
end Go.Proofs.YtgdhcgnmffgkiaaGreatDoor

namespace Sim
open Go Go.Vc
def Ctr.fits (a n : Int) : Bool := if n > 0 then decide (a ≤ w64 (9223372036854775807 - n)) else decide (a ≥ w64 (-9223372036854775808 - n))
def Ctr.get (r : Int) : Pg Int := Pg.gt r
def Ctr.add (r n : Int) : Pg (Int × Int) := do
  let v ← Pg.gt r
  if Ctr.fits v n = true then do
    let _ ← Pg.pt r (w64 (v + n))
    pure (w64 (v + n), 0)
  else pure (0, 9)
def Ctr.set (r n : Int) : Pg Int := do
  let v ← Pg.gt r
  let _ ← Pg.pt r n
  pure v
def Stk.more (r n : Int) : Pg Unit := do
  let a ← Pg.gt (w64 (r + 1))
  let _ ← Pg.pt (w64 (r + 1)) (w64 (a + n))
  let b ← Pg.gt (w64 (r + 7))
  let _ ← Pg.pt (w64 (r + 7)) (w64 (b + n))
  pure ()
def Stk.pushIn (P : Pl) (r v : Int) : Pg Int := do
  let t ← P.takeP
  if t.2 ≠ 0 then pure t.2 else do
    let x ← Pg.gt (w64 (r + 0))
    let _ ← Pg.pt (w64 (t.1 + 0)) x
    let _ ← Pg.pt (w64 (t.1 + 1)) v
    let _ ← Pg.pt (w64 (r + 0)) t.1
    let _ ← Stk.more r 1
    pure 0
def Stk.push (P : Pl) (r v : Int) : Pg Int := do
  let m ← Pg.mk
  let e ← Stk.pushIn P r v
  Qu.after m e
def Stk.popIn (P : Pl) (r : Int) : Pg (Int × Int) := do
  let a ← Pg.gt (w64 (r + 0))
  if a = 0 then pure (0, 8) else
  if P.node a = true then do
    let n ← Pg.gt (w64 (a + 0))
    let v ← Pg.gt (w64 (a + 1))
    let e ← P.giveP a
    if e ≠ 0 then pure (0, e) else do
      let _ ← Pg.pt (w64 (r + 0)) n
      let _ ← Stk.more r (-1)
      pure (v, 0)
  else pure (0, 24)
def Stk.pop (P : Pl) (r : Int) : Pg (Int × Int) := do
  let m ← Pg.mk
  let e ← Stk.popIn P r
  Qu.after2 m e
def Stk.top (r : Int) : Pg (Int × Int) := do
  let a ← Pg.gt (w64 (r + 0))
  if a = 0 then pure (0, 8) else do
    let v ← Pg.gt (w64 (a + 1))
    pure (v, 0)
def Stk.len (r : Int) : Pg Int := Pg.gt (w64 (r + 1))
def Dq.side (b : Bool) : Int := if b = true then 1 else 0
def Dq.more (x n : Int) : Pg Unit := do
  let a ← Pg.gt x
  let _ ← Pg.pt x (w64 (a + n))
  pure ()
def Dq.tail (r n : Int) (b : Bool) : Pg Int := do
  let _ ← Pg.pt (w64 (r + Dq.side b)) n
  let _ ← Dq.more (w64 (r + 2)) 1
  let _ ← Dq.more (w64 (r + 7)) 1
  pure 0
def Dq.pushIn (P : Pl) (r v : Int) (b : Bool) : Pg Int := do
  let t ← P.takeP
  if t.2 ≠ 0 then pure t.2 else do
    let e ← Pg.gt (w64 (r + Dq.side b))
    let _ ← Pg.pt (w64 (t.1 + Dq.side b)) 0
    let _ ← Pg.pt (w64 (t.1 + Dq.side (!b))) e
    let _ ← Pg.pt (w64 (t.1 + 2)) v
    if e = 0 then do
      let _ ← Pg.pt (w64 (r + Dq.side (!b))) t.1
      Dq.tail r t.1 b
    else if P.node e = true then do
      let _ ← Pg.pt (w64 (e + Dq.side b)) t.1
      Dq.tail r t.1 b
    else pure 24
def Dq.push (P : Pl) (r v : Int) (b : Bool) : Pg Int := do
  let m ← Pg.mk
  let e ← Dq.pushIn P r v b
  Qu.after m e
def Dq.fin (P : Pl) (r a n : Int) (b : Bool) : Pg (Int × Int) := do
  let _ ← Pg.pt (w64 (r + Dq.side b)) n
  let _ ← Dq.more (w64 (r + 2)) (-1)
  let _ ← Dq.more (w64 (r + 7)) (-1)
  let x ← Pg.gt (w64 (a + 2))
  let e ← P.giveP a
  if e ≠ 0 then pure (0, e) else pure (x, 0)
def Dq.popIn (P : Pl) (r : Int) (b : Bool) : Pg (Int × Int) := do
  let a ← Pg.gt (w64 (r + Dq.side b))
  if a = 0 then pure (0, 8) else
  if P.node a = true then do
    let n ← Pg.gt (w64 (a + Dq.side (!b)))
    if n = 0 then do
      let _ ← Pg.pt (w64 (r + Dq.side (!b))) 0
      Dq.fin P r a n b
    else if P.node n = true then do
      let _ ← Pg.pt (w64 (n + Dq.side b)) 0
      Dq.fin P r a n b
    else pure (0, 24)
  else pure (0, 24)
def Dq.pop (P : Pl) (r : Int) (b : Bool) : Pg (Int × Int) := do
  let m ← Pg.mk
  let e ← Dq.popIn P r b
  Qu.after2 m e
def Dq.peek (r : Int) (b : Bool) : Pg (Int × Int) := do
  let a ← Pg.gt (w64 (r + Dq.side b))
  if a = 0 then pure (0, 8) else do
    let v ← Pg.gt (w64 (a + 2))
    pure (v, 0)
def Dq.len (r : Int) : Pg Int := Pg.gt (w64 (r + 2))
open Pg
theorem Ctr.bd_add (r n : Int) : Bd 1 (Ctr.add r n) := by unfold Ctr.add; repeat' first | exact bd_pure _ | with_reducible refine bd_ite ?_ ?_ | with_reducible refine bd_then (bd_gt0 _) ?_ (by decide) | with_reducible refine bd_then (bd_pt _ _) ?_ (by decide) | with_reducible refine bd_then bd_mk0 ?_ (by decide) | with_reducible refine bd_then (bd_bk0 _) ?_ (by decide) | intro _
theorem Stk.bd_more (r n : Int) : Bd 2 (Stk.more r n) := by unfold Stk.more; repeat' first | exact bd_pure _ | with_reducible refine bd_ite ?_ ?_ | with_reducible refine bd_then (bd_gt0 _) ?_ (by decide) | with_reducible refine bd_then (bd_pt _ _) ?_ (by decide) | with_reducible refine bd_then bd_mk0 ?_ (by decide) | with_reducible refine bd_then (bd_bk0 _) ?_ (by decide) | intro _
theorem Dq.bd_more (x n : Int) : Bd 1 (Dq.more x n) := by unfold Dq.more; repeat' first | exact bd_pure _ | with_reducible refine bd_ite ?_ ?_ | with_reducible refine bd_then (bd_gt0 _) ?_ (by decide) | with_reducible refine bd_then (bd_pt _ _) ?_ (by decide) | with_reducible refine bd_then bd_mk0 ?_ (by decide) | with_reducible refine bd_then (bd_bk0 _) ?_ (by decide) | intro _
theorem Dq.bd_tail (r n : Int) (b : Bool) : Bd 3 (Dq.tail r n b) := by unfold Dq.tail; repeat' first | with_reducible refine bd_then (Dq.bd_more _ _) ?_ (by decide) | exact bd_pure _ | with_reducible refine bd_ite ?_ ?_ | with_reducible refine bd_then (bd_gt0 _) ?_ (by decide) | with_reducible refine bd_then (bd_pt _ _) ?_ (by decide) | with_reducible refine bd_then bd_mk0 ?_ (by decide) | with_reducible refine bd_then (bd_bk0 _) ?_ (by decide) | intro _
end Sim

namespace Go.Proofs.YtgdhcgnmffgkiaaGreatDoor
open Go.Vc Sim
set_option maxHeartbeats 4000000
theorem ctrGet (w0 : World) (p : Nat) (r : Int) : FnG w0 [] 43 [spP p, .int .i64 r] p (Ctr.get r) (.int .i64) := by
  intro s hS
  have hG := (At.start hS).to (Pg.bind_pure _).symm
  generalize Pg.run _ s = R at hG ⊢
  unfold Ctr.get at hG
  refine fn_of_run en43 fn43 rfl rfl rfl ?_
  repeat' (first | refine zck ?_ | refine zcp (by kernel_rfl) ?_ | (refine zap rfl ?_; first | refine zan rfl ?_ | refine zan rfl ?_ | refine reg_callG [0] hG (getG w0 p _) rfl rfl rfl sub_nil (fun x s hG => ?_)) | refine zch ?_)
  rw [hG.done]
  exact ret_tmp1 rfl ⟨rfl, rfl⟩
theorem stUndo (w0 : World) (p : Nat) (s : Sp) (m : Nat) (eb : Nat) (e : Int) : FnD PP w0 [] 110 [spP p, .int .i64 m, .pointer (some ⟨eb, 0, none⟩)] [SpaceA p s, erV eb e]
    fun v Γ' => v = .tuple #[] ∧ Γ' = [SpaceA p (if e ≠ 0 then s.back m else s), erV eb e] := by
  refine fnD_of_run en110 fn110 rfl rfl rfl ?_
 
  repeat' (first | refine zck ?_ | refine zcp (by kernel_rfl) ?_ | (refine zap rfl ?_; first | refine zan rfl ?_ | refine zab 1 rfl rfl rfl ?_ | refine zbp rfl rfl ?_ | refine zan rfl ?_) | refine zch ?_)
  refine run_cond rfl (fun hE => ?_) (fun hE => ?_)
  · repeat' (first | refine zcp (by kernel_rfl) ?_ | (refine zap rfl ?_; first | refine zan rfl ?_ | refine zah [0] (back_spec w0 p s m) rfl rfl rfl sub_nil rfl ?_) | refine zch ?_)
    refine run_nil ⟨rfl, ends_none rfl ?_⟩
    rw [if_pos hE]; exact ⟨rfl, rfl⟩
  · repeat' (first | refine zcm ?_ | (refine zap rfl ?_; first | refine zaj rfl ?_ | refine zak rfl ?_ | refine zal rfl ?_ | refine zam rfl rfl (fun _ => ?_) (fun _ => ?_)) | refine zch ?_)
    refine run_nil ⟨rfl, ends_none rfl ?_⟩
    rw [if_neg hE]; exact ⟨rfl, rfl⟩
def stD (p eb : Nat) (m : Nat) : Deferred := { target := .fn (.func 110) #[], args := List.toArray [spP p, .int .i64 m, .pointer (some ⟨eb, 0, none⟩)] }
theorem stMore (w0 : World) (p : Nat) (r n : Int) : FnG w0 [] 112 [spP p, .int .i64 r, .int .i64 n] p (Stk.more r n) encU := by
  intro s hS
  have hG := At.start hS
  generalize Pg.run _ s = R at hG ⊢
  unfold Stk.more at hG
  refine fn_of_run en112 fn112 rfl rfl rfl ?_
  repeat' (first | refine zck ?_ | refine zcp (by kernel_rfl) ?_ | (refine zap rfl ?_; first | refine reg_add rfl rfl ?_ | refine zan rfl ?_ | refine reg_callG [0] hG (getG w0 p _) rfl rfl rfl sub_nil (fun x s hG => ?_) | refine reg_callG [0] hG (putG w0 p _ _) rfl rfl rfl sub_nil (fun u s hG => ?_)) | refine zch ?_)
  rw [hG.done]
  refine end_tmp0 rfl ⟨rfl, rfl⟩
theorem stTop (w0 : World) (p : Nat) (r : Int) : FnG w0 [] 48 [spP p, .int .i64 r] p (Stk.top r) encI2 := by
  intro s hS
  have hG := At.start hS
  generalize Pg.run _ s = R at hG ⊢
  unfold Stk.top at hG
  refine fn_of_run en48 fn48 rfl rfl rfl ?_
  repeat' (first | refine zck ?_ | refine zcp (by kernel_rfl) ?_ | (refine zap rfl ?_; first | refine reg_add rfl rfl ?_ | refine zan rfl ?_ | refine zan rfl ?_ | refine reg_callG [0] hG (getG w0 p _) rfl rfl rfl sub_nil (fun x s hG => ?_) | refine zbo rfl rfl ?_) | refine zch ?_)
  refine run_cond rfl (fun hE => ?_) (fun hE => ?_)
  · rw [if_pos hE] at hG
    rw [hG.done]
    repeat' (first | refine zck ?_ | refine zcp (by kernel_rfl) ?_ | (refine zap rfl ?_; first | refine zan rfl ?_) | refine zch ?_)
    exact ret_tmp2 rfl ⟨rfl, rfl⟩
  · rw [if_neg hE] at hG
    repeat' (first | refine zck ?_ | refine zcp (by kernel_rfl) ?_ | refine zcm ?_ | (refine zap rfl ?_; first | refine reg_add rfl rfl ?_ | refine zan rfl ?_ | refine zan rfl ?_ | refine reg_callG [0] hG (getG w0 p _) rfl rfl rfl sub_nil (fun x s hG => ?_)) | refine zch ?_)
    rw [hG.done]
    exact ret_tmp2 rfl ⟨rfl, rfl⟩
theorem stLen (w0 : World) (p : Nat) (r : Int) : FnG w0 [] 49 [spP p, .int .i64 r] p (Stk.len r) (.int .i64) := by
  intro s hS
  have hG := (At.start hS).to (Pg.bind_pure _).symm
  generalize Pg.run _ s = R at hG ⊢
  unfold Stk.len at hG
  refine fn_of_run en49 fn49 rfl rfl rfl ?_
  repeat' (first | refine zck ?_ | refine zcp (by kernel_rfl) ?_ | (refine zap rfl ?_; first | refine reg_add rfl rfl ?_ | refine zan rfl ?_ | refine zan rfl ?_ | refine reg_callG [0] hG (getG w0 p _) rfl rfl rfl sub_nil (fun x s hG => ?_)) | refine zch ?_)
  rw [hG.done]
  exact ret_tmp1 rfl ⟨rfl, rfl⟩
theorem stPop_fin (w0 : World) (p eb m : Nat) (R : (Int × Int) × Sp) (q : Int × Int) (s : Sp) (ρ : Env) (h6 : ρ 6 = .int .i64 q.1) (h7 : ρ 7 = .pointer (some ⟨eb, 0, none⟩)) (hG : At R (Qu.after2 m q) s) :
    LeavesS PP w0 [] Tryz.f47 ρ [stD p eb m] [SpaceA p s, erV eb q.2] (fun v Γ => v = encI2 R.1 ∧ Γ = [SpaceA p R.2]) := by
  refine leaves_defer1 [0, 0] (stUndo w0 p s m eb q.2) rfl rfl sub_nil ?_
  refine leaves_nil (ends_take [0] rfl (ends_two rfl h6 (resOk_pt 1 h7 rfl rfl) ?_))
  refine ⟨rfl, ?_⟩
  unfold Qu.after2 at hG
  by_cases hE : q.2 ≠ 0
  · rw [if_pos hE] at hG
    rw [hG.step.2.done, if_pos hE]
    exact ⟨rfl, rfl⟩
  · rw [if_neg hE] at hG
    rw [hG.done, if_neg hE]
    exact ⟨rfl, rfl⟩
theorem stPop (w0 : World) (p : Nat) (P : Pl) (hP : P.Ok) (r : Int) : FnG w0 [] 47 [spP p, poolV P, .int .i64 r] p (Stk.pop P r) encI2 := by
  intro s hS
  have hG := At.start hS
  generalize Pg.run _ s = R at hG ⊢
  simp only [Stk.pop, Stk.popIn, Pg.bind_assoc, Pg.ite_bind, Pg.pure_bind] at hG
  refine fn_of_run en47 fn47 rfl rfl rfl ?_
  repeat (first | refine zck ?_ | refine zcl ?_ | refine zcm ?_ | refine zcn ?_)
  first | refine zcp (by kernel_rfl) ?_ | refine zcq PP_mixed (by kernel_rfl) (by kernel_rfl) ?_
  repeat' (refine zap rfl ?_; first | refine zar (fun eb => ?_) | refine zan rfl ?_ | refine zaq (cs := [_, _, _]) rfl (fun nb => ?_))
  all_goals refine zch ?_
  all_goals repeat (first | refine zck ?_ | refine zcl ?_ | refine zcm ?_ | refine zcn ?_)
  refine run_share [1] rfl ?_
  repeat (first | refine zck ?_ | refine zcl ?_ | refine zcm ?_ | refine zcn ?_)
  first | refine zcp (by kernel_rfl) ?_ | refine zcq PP_mixed (by kernel_rfl) (by kernel_rfl) ?_
  repeat' (refine zap rfl ?_; first | refine zcd rfl rfl ?_ | refine zan rfl ?_ | refine reg_callG [0] hG (markG w0 p) rfl rfl rfl sub_nil (fun m s hG => ?_))
  all_goals refine zch ?_
  all_goals repeat (first | refine zck ?_ | refine zcl ?_ | refine zcm ?_ | refine zcn ?_)
  repeat (first | refine zck ?_ | refine zcl ?_ | refine zcm ?_ | refine zcn ?_)
  first | refine zcp (by kernel_rfl) ?_ | refine zcq PP_mixed (by kernel_rfl) (by kernel_rfl) ?_
  repeat' (refine zap rfl ?_; first | refine reg_add rfl rfl ?_ | refine zan rfl ?_ | refine zan rfl ?_ | refine reg_callG [0] hG (getG w0 p _) rfl rfl rfl sub_nil (fun a s hG => ?_))
  all_goals refine zch ?_
  all_goals repeat (first | refine zck ?_ | refine zcl ?_ | refine zcm ?_ | refine zcn ?_)
  by_cases ha : a = 0
  · subst ha
    rw [if_pos rfl] at hG
    repeat (first | refine zck ?_ | refine zcl ?_ | refine zcm ?_ | refine zcn ?_)
    first | refine zcp (by kernel_rfl) ?_ | refine zcq PP_mixed (by kernel_rfl) (by kernel_rfl) ?_
    repeat' (refine zap rfl ?_; first | refine zan rfl ?_ | refine zbc rfl rfl (by omega) ?_)
    all_goals refine zch ?_
    all_goals repeat (first | refine zck ?_ | refine zcl ?_ | refine zcm ?_ | refine zcn ?_)
    refine zci rfl ?_
    repeat (first | refine zck ?_ | refine zcl ?_ | refine zcm ?_ | refine zcn ?_)
    first | refine zcp (by kernel_rfl) ?_ | refine zcq PP_mixed (by kernel_rfl) (by kernel_rfl) ?_
    repeat' (refine zap rfl ?_; first | refine zan rfl ?_ | refine zae 1 rfl rfl rfl rfl rfl rfl rfl ?_)
    all_goals refine zch ?_
    all_goals repeat (first | refine zck ?_ | refine zcl ?_ | refine zcm ?_ | refine zcn ?_)
    exact run_ret (stPop_fin w0 p eb m R (0, 8) s _ rfl rfl hG)
  rw [if_neg ha] at hG
  have kn := node_spec w0 P hP a
  cases hN : P.node a with
  | false =>
    rw [hN, if_neg (by decide)] at hG
    rw [hN] at kn
    repeat (first | refine zck ?_ | refine zcl ?_ | refine zcm ?_ | refine zcn ?_)
    first | refine zcp (by kernel_rfl) ?_ | refine zcq PP_mixed (by kernel_rfl) (by kernel_rfl) ?_
    repeat' (refine zap rfl ?_; first | refine zan rfl ?_ | refine zbd rfl rfl (by omega) ?_)
    all_goals refine zch ?_
    all_goals repeat (first | refine zck ?_ | refine zcl ?_ | refine zcm ?_ | refine zcn ?_)
    refine zcj rfl ?_
    repeat (first | refine zck ?_ | refine zcl ?_ | refine zcm ?_ | refine zcn ?_)
    first | refine zcp (by kernel_rfl) ?_ | refine zcq PP_mixed (by kernel_rfl) (by kernel_rfl) ?_
    repeat' (refine zap rfl ?_; first | refine zan rfl ?_ | refine zan rfl ?_ | refine zaa 0 rfl rfl rfl ?_ | refine zah [] kn rfl rfl rfl sub_nil rfl ?_ | refine zan rfl ?_)
    all_goals refine zch ?_
    all_goals repeat (first | refine zck ?_ | refine zcl ?_ | refine zcm ?_ | refine zcn ?_)
    repeat (first | refine zck ?_ | refine zcl ?_ | refine zcm ?_ | refine zcn ?_)
    first | refine zcp (by kernel_rfl) ?_ | refine zcq PP_mixed (by kernel_rfl) (by kernel_rfl) ?_
    repeat' (refine zap rfl ?_; first | refine zbx rfl ?_ | refine zan rfl ?_)
    all_goals refine zch ?_
    all_goals repeat (first | refine zck ?_ | refine zcl ?_ | refine zcm ?_ | refine zcn ?_)
    refine zci rfl ?_
    repeat (first | refine zck ?_ | refine zcl ?_ | refine zcm ?_ | refine zcn ?_)
    first | refine zcp (by kernel_rfl) ?_ | refine zcq PP_mixed (by kernel_rfl) (by kernel_rfl) ?_
    repeat' (refine zap rfl ?_; first | refine zan rfl ?_ | refine zae 1 rfl rfl rfl rfl rfl rfl rfl ?_)
    all_goals refine zch ?_
    all_goals repeat (first | refine zck ?_ | refine zcl ?_ | refine zcm ?_ | refine zcn ?_)
    exact run_ret (stPop_fin w0 p eb m R (0, 24) s _ rfl rfl hG)
  | true =>
    rw [hN, if_pos rfl] at hG
    rw [hN] at kn
    repeat (first | refine zck ?_ | refine zcl ?_ | refine zcm ?_ | refine zcn ?_)
    first | refine zcp (by kernel_rfl) ?_ | refine zcq PP_mixed (by kernel_rfl) (by kernel_rfl) ?_
    repeat' (refine zap rfl ?_; first | refine zan rfl ?_ | refine zbd rfl rfl (by omega) ?_)
    all_goals refine zch ?_
    all_goals repeat (first | refine zck ?_ | refine zcl ?_ | refine zcm ?_ | refine zcn ?_)
    refine zcj rfl ?_
    repeat (first | refine zck ?_ | refine zcl ?_ | refine zcm ?_ | refine zcn ?_)
    first | refine zcp (by kernel_rfl) ?_ | refine zcq PP_mixed (by kernel_rfl) (by kernel_rfl) ?_
    repeat' (refine zap rfl ?_; first | refine zan rfl ?_ | refine zan rfl ?_ | refine zaa 0 rfl rfl rfl ?_ | refine zah [] kn rfl rfl rfl sub_nil rfl ?_ | refine zan rfl ?_)
    all_goals refine zch ?_
    all_goals repeat (first | refine zck ?_ | refine zcl ?_ | refine zcm ?_ | refine zcn ?_)
    repeat (first | refine zck ?_ | refine zcl ?_ | refine zcm ?_ | refine zcn ?_)
    first | refine zcp (by kernel_rfl) ?_ | refine zcq PP_mixed (by kernel_rfl) (by kernel_rfl) ?_
    repeat' (refine zap rfl ?_; first | refine zbx rfl ?_ | refine zan rfl ?_)
    all_goals refine zch ?_
    all_goals repeat (first | refine zck ?_ | refine zcl ?_ | refine zcm ?_ | refine zcn ?_)
    refine zcj rfl ?_
    repeat (first | refine zck ?_ | refine zcl ?_ | refine zcm ?_ | refine zcn ?_)
    first | refine zcp (by kernel_rfl) ?_ | refine zcq PP_mixed (by kernel_rfl) (by kernel_rfl) ?_
    repeat' (refine zap rfl ?_; first | refine reg_add rfl rfl ?_ | refine zan rfl ?_ | refine zan rfl ?_ | refine reg_callG [0] hG (getG w0 p _) rfl rfl rfl sub_nil (fun x s hG => ?_))
    all_goals refine zch ?_
    all_goals repeat (first | refine zck ?_ | refine zcl ?_ | refine zcm ?_ | refine zcn ?_)
    repeat (first | refine zck ?_ | refine zcl ?_ | refine zcm ?_ | refine zcn ?_)
    first | refine zcp (by kernel_rfl) ?_ | refine zcq PP_mixed (by kernel_rfl) (by kernel_rfl) ?_
    repeat' (refine zap rfl ?_; first | refine zan rfl ?_ | refine zan rfl ?_ | refine zaa 0 rfl rfl rfl ?_ | refine reg_callG [0] hG (giveG w0 p P hP a) rfl rfl rfl sub_nil (fun e s hG => ?_))
    all_goals refine zch ?_
    all_goals repeat (first | refine zck ?_ | refine zcl ?_ | refine zcm ?_ | refine zcn ?_)
    by_cases hE : e = 0
    rotate_left
    · rw [if_pos hE] at hG
      repeat (first | refine zck ?_ | refine zcl ?_ | refine zcm ?_ | refine zcn ?_)
      first | refine zcp (by kernel_rfl) ?_ | refine zcq PP_mixed (by kernel_rfl) (by kernel_rfl) ?_
      repeat' (refine zap rfl ?_; first | refine zan rfl ?_ | refine zbe rfl rfl (by omega) ?_)
      all_goals refine zch ?_
      all_goals repeat (first | refine zck ?_ | refine zcl ?_ | refine zcm ?_ | refine zcn ?_)
      refine zci rfl ?_
      repeat (first | refine zck ?_ | refine zcl ?_ | refine zcm ?_ | refine zcn ?_)
      first | refine zcp (by kernel_rfl) ?_ | refine zcq PP_mixed (by kernel_rfl) (by kernel_rfl) ?_
      repeat' (refine zap rfl ?_; first | refine zan rfl ?_ | refine zan rfl ?_ | refine zae 1 rfl rfl rfl rfl rfl rfl rfl ?_)
      all_goals refine zch ?_
      all_goals repeat (first | refine zck ?_ | refine zcl ?_ | refine zcm ?_ | refine zcn ?_)
      exact run_ret (stPop_fin w0 p eb m R (0, e) s _ rfl rfl hG)
    subst hE
    rw [if_neg (fun q => q rfl)] at hG
    repeat (first | refine zck ?_ | refine zcl ?_ | refine zcm ?_ | refine zcn ?_)
    first | refine zcp (by kernel_rfl) ?_ | refine zcq PP_mixed (by kernel_rfl) (by kernel_rfl) ?_
    repeat' (refine zap rfl ?_; first | refine zan rfl ?_ | refine zbf rfl rfl (by omega) ?_)
    all_goals refine zch ?_
    all_goals repeat (first | refine zck ?_ | refine zcl ?_ | refine zcm ?_ | refine zcn ?_)
    refine zcj rfl ?_
    repeat (first | refine zck ?_ | refine zcl ?_ | refine zcm ?_ | refine zcn ?_)
    first | refine zcp (by kernel_rfl) ?_ | refine zcq PP_mixed (by kernel_rfl) (by kernel_rfl) ?_
    repeat' (refine zap rfl ?_; first | refine reg_add rfl rfl ?_ | refine zan rfl ?_ | refine reg_callG [0] hG (putG w0 p _ _) rfl rfl rfl sub_nil (fun u s hG => ?_))
    all_goals refine zch ?_
    all_goals repeat (first | refine zck ?_ | refine zcl ?_ | refine zcm ?_ | refine zcn ?_)
    repeat (first | refine zck ?_ | refine zcl ?_ | refine zcm ?_ | refine zcn ?_)
    first | refine zcp (by kernel_rfl) ?_ | refine zcq PP_mixed (by kernel_rfl) (by kernel_rfl) ?_
    repeat' (refine zap rfl ?_; first | refine zan rfl ?_ | refine reg_callG [0] hG (stMore w0 p _ _) rfl rfl rfl sub_nil (fun u s hG => ?_))
    all_goals refine zch ?_
    all_goals repeat (first | refine zck ?_ | refine zcl ?_ | refine zcm ?_ | refine zcn ?_)
    repeat (first | refine zck ?_ | refine zcl ?_ | refine zcm ?_ | refine zcn ?_)
    first | refine zcp (by kernel_rfl) ?_ | refine zcq PP_mixed (by kernel_rfl) (by kernel_rfl) ?_
    repeat' (refine zap rfl ?_; first | refine zan rfl ?_ | refine zan rfl ?_ | refine zae 1 rfl rfl rfl rfl rfl rfl rfl ?_)
    all_goals refine zch ?_
    all_goals repeat (first | refine zck ?_ | refine zcl ?_ | refine zcm ?_ | refine zcn ?_)
    exact run_ret (stPop_fin w0 p eb m R (_, 0) s _ rfl rfl hG)
end Go.Proofs.YtgdhcgnmffgkiaaGreatDoor

namespace Go.Proofs.YtgdhcgnmffgkiaaGreatDoor
open Go.Vc Sim
set_option maxHeartbeats 4000000
theorem dqUndo (w0 : World) (p : Nat) (s : Sp) (m : Nat) (eb : Nat) (e : Int) : FnD PP w0 [] 117 [spP p, .int .i64 m, .pointer (some ⟨eb, 0, none⟩)] [SpaceA p s, erV eb e]
    fun v Γ' => v = .tuple #[] ∧ Γ' = [SpaceA p (if e ≠ 0 then s.back m else s), erV eb e] := by
  refine fnD_of_run en117 fn117 rfl rfl rfl ?_
 
  repeat' (first | refine zck ?_ | refine zcp (by kernel_rfl) ?_ | (refine zap rfl ?_; first | refine zan rfl ?_ | refine zab 1 rfl rfl rfl ?_ | refine zbp rfl rfl ?_ | refine zan rfl ?_) | refine zch ?_)
  refine run_cond rfl (fun hE => ?_) (fun hE => ?_)
  · repeat' (first | refine zcp (by kernel_rfl) ?_ | (refine zap rfl ?_; first | refine zan rfl ?_ | refine zah [0] (back_spec w0 p s m) rfl rfl rfl sub_nil rfl ?_) | refine zch ?_)
    refine run_nil ⟨rfl, ends_none rfl ?_⟩
    rw [if_pos hE]; exact ⟨rfl, rfl⟩
  · repeat' (first | refine zcm ?_ | (refine zap rfl ?_; first | refine zaj rfl ?_ | refine zak rfl ?_ | refine zal rfl ?_ | refine zam rfl rfl (fun _ => ?_) (fun _ => ?_)) | refine zch ?_)
    refine run_nil ⟨rfl, ends_none rfl ?_⟩
    rw [if_neg hE]; exact ⟨rfl, rfl⟩
def dqD (p eb : Nat) (m : Nat) : Deferred := { target := .fn (.func 117) #[], args := List.toArray [spP p, .int .i64 m, .pointer (some ⟨eb, 0, none⟩)] }
theorem dqSide (w0 : World) (b : Bool) : FnE PP w0 [] 118 [.bool b] [] (.int .i64 (Dq.side b)) [] := by
  cases b <;>
  · refine fn_of_run en118 fn118 rfl rfl rfl ?_
    repeat' (first | refine zck ?_ | refine zcp (by kernel_rfl) ?_ | refine zcm ?_ | (refine zap rfl ?_; first | refine zan rfl ?_ | refine zan rfl ?_) | refine zch ?_ | refine zci rfl ?_ | refine zcj rfl ?_)
    exact ret_tmp1 rfl ⟨rfl, rfl⟩
theorem dqIs (w0 : World) (P : Pl) (hP : P.Ok) (n : Int) : FnE PP w0 [] 119 [poolV P, .int .i64 n] [] (.bool (P.node n)) [] := by
  refine fn_of_run en119 fn119 rfl rfl rfl ?_
  repeat (first | refine zck ?_ | refine zcl ?_ | refine zcm ?_ | refine zcn ?_)
  first | refine zcp (by kernel_rfl) ?_ | refine zcq PP_mixed (by kernel_rfl) (by kernel_rfl) ?_
  repeat' (refine zap rfl ?_; first | refine zan rfl ?_ | refine zaq (cs := [_, _, _]) rfl (fun nb => ?_))
  all_goals refine zch ?_
  all_goals repeat (first | refine zck ?_ | refine zcl ?_ | refine zcm ?_ | refine zcn ?_)
  refine run_share [0] rfl ?_
  repeat' (first | refine zck ?_ | refine zcp (by kernel_rfl) ?_ | (refine zap rfl ?_; first | refine zan rfl ?_ | refine zan rfl ?_ | refine zaa 0 rfl rfl rfl ?_ | refine zah [] (node_spec w0 P hP _) rfl rfl rfl sub_nil rfl ?_ | refine zan rfl ?_) | refine zch ?_)
  exact ret_tmp1 rfl ⟨rfl, rfl⟩
theorem dqMore (w0 : World) (p : Nat) (x n : Int) : FnG w0 [] 120 [spP p, .int .i64 x, .int .i64 n] p (Dq.more x n) encU := by
  intro s hS
  have hG := At.start hS
  generalize Pg.run _ s = R at hG ⊢
  unfold Dq.more at hG
  refine fn_of_run en120 fn120 rfl rfl rfl ?_
  repeat' (first | refine zcp (by kernel_rfl) ?_ | (refine zap rfl ?_; first | refine reg_add rfl rfl ?_ | refine zan rfl ?_ | refine reg_callG [0] hG (getG w0 p _) rfl rfl rfl sub_nil (fun x s hG => ?_) | refine reg_callG [0] hG (putG w0 p _ _) rfl rfl rfl sub_nil (fun u s hG => ?_)) | refine zch ?_)
  rw [hG.done]
  refine end_tmp0 rfl ⟨rfl, rfl⟩
theorem dqLen (w0 : World) (p : Nat) (r : Int) : FnG w0 [] 57 [spP p, .int .i64 r] p (Dq.len r) (.int .i64) := by
  intro s hS
  have hG := (At.start hS).to (Pg.bind_pure _).symm
  generalize Pg.run _ s = R at hG ⊢
  unfold Dq.len at hG
  refine fn_of_run en57 fn57 rfl rfl rfl ?_
  repeat' (first | refine zck ?_ | refine zcp (by kernel_rfl) ?_ | (refine zap rfl ?_; first | refine reg_add rfl rfl ?_ | refine zan rfl ?_ | refine zan rfl ?_ | refine reg_callG [0] hG (getG w0 p _) rfl rfl rfl sub_nil (fun x s hG => ?_)) | refine zch ?_)
  rw [hG.done]
  exact ret_tmp1 rfl ⟨rfl, rfl⟩
theorem dqPeek (w0 : World) (p : Nat) (r : Int) (b : Bool) : FnG w0 [] 56 [spP p, .int .i64 r, .bool b] p (Dq.peek r b) encI2 := by
  intro s hS
  have hG := At.start hS
  generalize Pg.run _ s = R at hG ⊢
  unfold Dq.peek at hG
  refine fn_of_run en56 fn56 rfl rfl rfl ?_
  repeat' (first | refine zck ?_ | refine zcp (by kernel_rfl) ?_ | (refine zap rfl ?_; first | refine reg_add rfl rfl ?_ | refine zan rfl ?_ | refine zan rfl ?_ | refine zah [] (dqSide w0 _) rfl rfl rfl sub_nil rfl ?_ | refine reg_callG [0] hG (getG w0 p _) rfl rfl rfl sub_nil (fun x s hG => ?_) | refine zbo rfl rfl ?_) | refine zch ?_)
  refine run_cond rfl (fun hE => ?_) (fun hE => ?_)
  · rw [if_pos hE] at hG
    rw [hG.done]
    repeat' (first | refine zck ?_ | refine zcp (by kernel_rfl) ?_ | (refine zap rfl ?_; first | refine zan rfl ?_) | refine zch ?_)
    exact ret_tmp2 rfl ⟨rfl, rfl⟩
  · rw [if_neg hE] at hG
    repeat' (first | refine zck ?_ | refine zcp (by kernel_rfl) ?_ | refine zcm ?_ | (refine zap rfl ?_; first | refine reg_add rfl rfl ?_ | refine zan rfl ?_ | refine zan rfl ?_ | refine reg_callG [0] hG (getG w0 p _) rfl rfl rfl sub_nil (fun x s hG => ?_)) | refine zch ?_)
    rw [hG.done]
    exact ret_tmp2 rfl ⟨rfl, rfl⟩
theorem dqPop_fin (w0 : World) (p eb m : Nat) (R : (Int × Int) × Sp) (q : Int × Int) (s : Sp) (ρ : Env) (h6 : ρ 8 = .int .i64 q.1) (h7 : ρ 9 = .pointer (some ⟨eb, 0, none⟩)) (hG : At R (Qu.after2 m q) s) :
    LeavesS PP w0 [] Tryz.f55 ρ [dqD p eb m] [SpaceA p s, erV eb q.2] (fun v Γ => v = encI2 R.1 ∧ Γ = [SpaceA p R.2]) := by
  refine leaves_defer1 [0, 0] (dqUndo w0 p s m eb q.2) rfl rfl sub_nil ?_
  refine leaves_nil (ends_take [0] rfl (ends_two rfl h6 (resOk_pt 1 h7 rfl rfl) ?_))
  refine ⟨rfl, ?_⟩
  unfold Qu.after2 at hG
  by_cases hE : q.2 ≠ 0
  · rw [if_pos hE] at hG
    rw [hG.step.2.done, if_pos hE]
    exact ⟨rfl, rfl⟩
  · rw [if_neg hE] at hG
    rw [hG.done, if_neg hE]
    exact ⟨rfl, rfl⟩
theorem dqPop (w0 : World) (p : Nat) (P : Pl) (hP : P.Ok) (r : Int) (b : Bool) : FnG w0 [] 55 [spP p, poolV P, .int .i64 r, .bool b] p (Dq.pop P r b) encI2 := by
  intro s hS
  have hG := At.start hS
  generalize Pg.run _ s = R at hG ⊢
  simp only [Dq.pop, Dq.popIn, Pg.bind_assoc, Pg.ite_bind, Pg.pure_bind] at hG
  refine fn_of_run en55 fn55 rfl rfl rfl ?_
  repeat (first | refine zck ?_ | refine zcl ?_ | refine zcm ?_ | refine zcn ?_)
  first | refine zcp (by kernel_rfl) ?_ | refine zcq PP_mixed (by kernel_rfl) (by kernel_rfl) ?_
  repeat' (refine zap rfl ?_; first | refine zar (fun eb => ?_) | refine zan rfl ?_ | refine zaq (cs := [_, _, _]) rfl (fun nb => ?_))
  all_goals refine zch ?_
  all_goals repeat (first | refine zck ?_ | refine zcl ?_ | refine zcm ?_ | refine zcn ?_)
  refine run_share [1] rfl ?_
  repeat (first | refine zck ?_ | refine zcl ?_ | refine zcm ?_ | refine zcn ?_)
  first | refine zcp (by kernel_rfl) ?_ | refine zcq PP_mixed (by kernel_rfl) (by kernel_rfl) ?_
  repeat' (refine zap rfl ?_; first | refine zcd rfl rfl ?_ | refine zan rfl ?_ | refine reg_callG [0] hG (markG w0 p) rfl rfl rfl sub_nil (fun m s hG => ?_))
  all_goals refine zch ?_
  all_goals repeat (first | refine zck ?_ | refine zcl ?_ | refine zcm ?_ | refine zcn ?_)
  repeat (first | refine zck ?_ | refine zcl ?_ | refine zcm ?_ | refine zcn ?_)
  first | refine zcp (by kernel_rfl) ?_ | refine zcq PP_mixed (by kernel_rfl) (by kernel_rfl) ?_
  repeat' (refine zap rfl ?_; first | refine zbx rfl ?_ | refine zan rfl ?_ | refine zan rfl ?_ | refine zah [] (dqSide w0 _) rfl rfl rfl sub_nil rfl ?_)
  all_goals refine zch ?_
  all_goals repeat (first | refine zck ?_ | refine zcl ?_ | refine zcm ?_ | refine zcn ?_)
  repeat (first | refine zck ?_ | refine zcl ?_ | refine zcm ?_ | refine zcn ?_)
  first | refine zcp (by kernel_rfl) ?_ | refine zcq PP_mixed (by kernel_rfl) (by kernel_rfl) ?_
  repeat' (refine zap rfl ?_; first | refine reg_add rfl rfl ?_ | refine zan rfl ?_ | refine zan rfl ?_ | refine reg_callG [0] hG (getG w0 p _) rfl rfl rfl sub_nil (fun a s hG => ?_))
  all_goals refine zch ?_
  all_goals repeat (first | refine zck ?_ | refine zcl ?_ | refine zcm ?_ | refine zcn ?_)
  by_cases ha : a = 0
  · subst ha
    rw [if_pos rfl] at hG
    repeat (first | refine zck ?_ | refine zcl ?_ | refine zcm ?_ | refine zcn ?_)
    first | refine zcp (by kernel_rfl) ?_ | refine zcq PP_mixed (by kernel_rfl) (by kernel_rfl) ?_
    repeat' (refine zap rfl ?_; first | refine zan rfl ?_ | refine zan rfl ?_ | refine zbc rfl rfl (by omega) ?_)
    all_goals refine zch ?_
    all_goals repeat (first | refine zck ?_ | refine zcl ?_ | refine zcm ?_ | refine zcn ?_)
    refine zci rfl ?_
    repeat (first | refine zck ?_ | refine zcl ?_ | refine zcm ?_ | refine zcn ?_)
    first | refine zcp (by kernel_rfl) ?_ | refine zcq PP_mixed (by kernel_rfl) (by kernel_rfl) ?_
    repeat' (refine zap rfl ?_; first | refine zan rfl ?_ | refine zae 1 rfl rfl rfl rfl rfl rfl rfl ?_)
    all_goals refine zch ?_
    all_goals repeat (first | refine zck ?_ | refine zcl ?_ | refine zcm ?_ | refine zcn ?_)
    exact run_ret (dqPop_fin w0 p eb m R (0, 8) s _ rfl rfl hG)
  rw [if_neg ha] at hG
  have kn := dqIs w0 P hP a
  cases hN : P.node a with
  | false =>
    rw [hN, if_neg (by decide)] at hG
    rw [hN] at kn
    repeat (first | refine zck ?_ | refine zcl ?_ | refine zcm ?_ | refine zcn ?_)
    first | refine zcp (by kernel_rfl) ?_ | refine zcq PP_mixed (by kernel_rfl) (by kernel_rfl) ?_
    repeat' (refine zap rfl ?_; first | refine zan rfl ?_ | refine zan rfl ?_ | refine zbd rfl rfl (by omega) ?_)
    all_goals refine zch ?_
    all_goals repeat (first | refine zck ?_ | refine zcl ?_ | refine zcm ?_ | refine zcn ?_)
    refine zcj rfl ?_
    repeat (first | refine zck ?_ | refine zcl ?_ | refine zcm ?_ | refine zcn ?_)
    first | refine zcp (by kernel_rfl) ?_ | refine zcq PP_mixed (by kernel_rfl) (by kernel_rfl) ?_
    repeat' (refine zap rfl ?_; first | refine zbx rfl ?_ | refine zan rfl ?_ | refine zan rfl ?_ | refine zaa 0 rfl rfl rfl ?_ | refine zah [] kn rfl rfl rfl sub_nil rfl ?_)
    all_goals refine zch ?_
    all_goals repeat (first | refine zck ?_ | refine zcl ?_ | refine zcm ?_ | refine zcn ?_)
    refine zci rfl ?_
    repeat (first | refine zck ?_ | refine zcl ?_ | refine zcm ?_ | refine zcn ?_)
    first | refine zcp (by kernel_rfl) ?_ | refine zcq PP_mixed (by kernel_rfl) (by kernel_rfl) ?_
    repeat' (refine zap rfl ?_; first | refine zan rfl ?_ | refine zae 1 rfl rfl rfl rfl rfl rfl rfl ?_)
    all_goals refine zch ?_
    all_goals repeat (first | refine zck ?_ | refine zcl ?_ | refine zcm ?_ | refine zcn ?_)
    exact run_ret (dqPop_fin w0 p eb m R (0, 24) s _ rfl rfl hG)
  | true =>
    rw [hN, if_pos rfl] at hG
    rw [hN] at kn
    repeat (first | refine zck ?_ | refine zcl ?_ | refine zcm ?_ | refine zcn ?_)
    first | refine zcp (by kernel_rfl) ?_ | refine zcq PP_mixed (by kernel_rfl) (by kernel_rfl) ?_
    repeat' (refine zap rfl ?_; first | refine zan rfl ?_ | refine zan rfl ?_ | refine zbd rfl rfl (by omega) ?_)
    all_goals refine zch ?_
    all_goals repeat (first | refine zck ?_ | refine zcl ?_ | refine zcm ?_ | refine zcn ?_)
    refine zcj rfl ?_
    repeat (first | refine zck ?_ | refine zcl ?_ | refine zcm ?_ | refine zcn ?_)
    first | refine zcp (by kernel_rfl) ?_ | refine zcq PP_mixed (by kernel_rfl) (by kernel_rfl) ?_
    repeat' (refine zap rfl ?_; first | refine zbx rfl ?_ | refine zan rfl ?_ | refine zan rfl ?_ | refine zaa 0 rfl rfl rfl ?_ | refine zah [] kn rfl rfl rfl sub_nil rfl ?_)
    all_goals refine zch ?_
    all_goals repeat (first | refine zck ?_ | refine zcl ?_ | refine zcm ?_ | refine zcn ?_)
    refine zcj rfl ?_
    repeat (first | refine zck ?_ | refine zcl ?_ | refine zcm ?_ | refine zcn ?_)
    first | refine zcp (by kernel_rfl) ?_ | refine zcq PP_mixed (by kernel_rfl) (by kernel_rfl) ?_
    repeat' (refine zap rfl ?_; first | refine zan rfl ?_ | refine zan rfl ?_)
    all_goals refine zch ?_
    all_goals repeat (first | refine zck ?_ | refine zcl ?_ | refine zcm ?_ | refine zcn ?_)
    repeat (first | refine zck ?_ | refine zcl ?_ | refine zcm ?_ | refine zcn ?_)
    first | refine zcp (by kernel_rfl) ?_ | refine zcq PP_mixed (by kernel_rfl) (by kernel_rfl) ?_
    repeat' (refine zap rfl ?_; first | refine reg_add rfl rfl ?_ | refine zan rfl ?_ | refine zan rfl ?_ | refine reg_callG [0] hG (getG w0 p _) rfl rfl rfl sub_nil (fun n s hG => ?_))
    all_goals refine zch ?_
    all_goals repeat (first | refine zck ?_ | refine zcl ?_ | refine zcm ?_ | refine zcn ?_)
    by_cases hn : n = 0
    · subst hn
      rw [if_pos rfl] at hG
      simp only [Dq.fin, Pg.bind_assoc, Pg.ite_bind, Pg.pure_bind] at hG
      repeat (first | refine zck ?_ | refine zcl ?_ | refine zcm ?_ | refine zcn ?_)
      first | refine zcp (by kernel_rfl) ?_ | refine zcq PP_mixed (by kernel_rfl) (by kernel_rfl) ?_
      repeat' (refine zap rfl ?_; first | refine zan rfl ?_ | refine zan rfl ?_ | refine zbc rfl rfl (by omega) ?_)
      all_goals refine zch ?_
      all_goals repeat (first | refine zck ?_ | refine zcl ?_ | refine zcm ?_ | refine zcn ?_)
      refine zci rfl ?_
      repeat (first | refine zck ?_ | refine zcl ?_ | refine zcm ?_ | refine zcn ?_)
      first | refine zcp (by kernel_rfl) ?_ | refine zcq PP_mixed (by kernel_rfl) (by kernel_rfl) ?_
      repeat' (refine zap rfl ?_; first | refine reg_add rfl rfl ?_ | refine zan rfl ?_ | refine reg_callG [0] hG (putG w0 p _ _) rfl rfl rfl sub_nil (fun u s hG => ?_))
      all_goals refine zch ?_
      all_goals repeat (first | refine zck ?_ | refine zcl ?_ | refine zcm ?_ | refine zcn ?_)
      repeat (first | refine zck ?_ | refine zcl ?_ | refine zcm ?_ | refine zcn ?_)
      first | refine zcp (by kernel_rfl) ?_ | refine zcq PP_mixed (by kernel_rfl) (by kernel_rfl) ?_
      repeat' (refine zap rfl ?_; first | refine reg_add rfl rfl ?_ | refine zan rfl ?_ | refine reg_callG [0] hG (putG w0 p _ _) rfl rfl rfl sub_nil (fun u s hG => ?_))
      all_goals refine zch ?_
      all_goals repeat (first | refine zck ?_ | refine zcl ?_ | refine zcm ?_ | refine zcn ?_)
      repeat (first | refine zck ?_ | refine zcl ?_ | refine zcm ?_ | refine zcn ?_)
      first | refine zcp (by kernel_rfl) ?_ | refine zcq PP_mixed (by kernel_rfl) (by kernel_rfl) ?_
      repeat' (refine zap rfl ?_; first | refine reg_add rfl rfl ?_ | refine zan rfl ?_ | refine reg_callG [0] hG (dqMore w0 p _ _) rfl rfl rfl sub_nil (fun u s hG => ?_))
      all_goals refine zch ?_
      all_goals repeat (first | refine zck ?_ | refine zcl ?_ | refine zcm ?_ | refine zcn ?_)
      repeat (first | refine zck ?_ | refine zcl ?_ | refine zcm ?_ | refine zcn ?_)
      first | refine zcp (by kernel_rfl) ?_ | refine zcq PP_mixed (by kernel_rfl) (by kernel_rfl) ?_
      repeat' (refine zap rfl ?_; first | refine reg_add rfl rfl ?_ | refine zan rfl ?_ | refine reg_callG [0] hG (dqMore w0 p _ _) rfl rfl rfl sub_nil (fun u s hG => ?_))
      all_goals refine zch ?_
      all_goals repeat (first | refine zck ?_ | refine zcl ?_ | refine zcm ?_ | refine zcn ?_)
      repeat (first | refine zck ?_ | refine zcl ?_ | refine zcm ?_ | refine zcn ?_)
      first | refine zcp (by kernel_rfl) ?_ | refine zcq PP_mixed (by kernel_rfl) (by kernel_rfl) ?_
      repeat' (refine zap rfl ?_; first | refine reg_add rfl rfl ?_ | refine zan rfl ?_ | refine zan rfl ?_ | refine reg_callG [0] hG (getG w0 p _) rfl rfl rfl sub_nil (fun x s hG => ?_))
      all_goals refine zch ?_
      all_goals repeat (first | refine zck ?_ | refine zcl ?_ | refine zcm ?_ | refine zcn ?_)
      repeat (first | refine zck ?_ | refine zcl ?_ | refine zcm ?_ | refine zcn ?_)
      first | refine zcp (by kernel_rfl) ?_ | refine zcq PP_mixed (by kernel_rfl) (by kernel_rfl) ?_
      repeat' (refine zap rfl ?_; first | refine zan rfl ?_ | refine zan rfl ?_ | refine zaa 0 rfl rfl rfl ?_ | refine reg_callG [0] hG (giveG w0 p P hP a) rfl rfl rfl sub_nil (fun e s hG => ?_))
      all_goals refine zch ?_
      all_goals repeat (first | refine zck ?_ | refine zcl ?_ | refine zcm ?_ | refine zcn ?_)
      by_cases hE : e = 0
      · subst hE
        rw [if_neg (fun q => q rfl)] at hG
        repeat (first | refine zck ?_ | refine zcl ?_ | refine zcm ?_ | refine zcn ?_)
        first | refine zcp (by kernel_rfl) ?_ | refine zcq PP_mixed (by kernel_rfl) (by kernel_rfl) ?_
        repeat' (refine zap rfl ?_; first | refine zan rfl ?_ | refine zbf rfl rfl (by omega) ?_)
        all_goals refine zch ?_
        all_goals repeat (first | refine zck ?_ | refine zcl ?_ | refine zcm ?_ | refine zcn ?_)
        refine zcj rfl ?_
        repeat (first | refine zck ?_ | refine zcl ?_ | refine zcm ?_ | refine zcn ?_)
        first | refine zcp (by kernel_rfl) ?_ | refine zcq PP_mixed (by kernel_rfl) (by kernel_rfl) ?_
        repeat' (refine zap rfl ?_; first | refine zan rfl ?_ | refine zan rfl ?_ | refine zae 1 rfl rfl rfl rfl rfl rfl rfl ?_)
        all_goals refine zch ?_
        all_goals repeat (first | refine zck ?_ | refine zcl ?_ | refine zcm ?_ | refine zcn ?_)
        exact run_ret (dqPop_fin w0 p eb m R (x, 0) s _ rfl rfl hG)
      · rw [if_pos hE] at hG
        repeat (first | refine zck ?_ | refine zcl ?_ | refine zcm ?_ | refine zcn ?_)
        first | refine zcp (by kernel_rfl) ?_ | refine zcq PP_mixed (by kernel_rfl) (by kernel_rfl) ?_
        repeat' (refine zap rfl ?_; first | refine zan rfl ?_ | refine zbe rfl rfl (by omega) ?_)
        all_goals refine zch ?_
        all_goals repeat (first | refine zck ?_ | refine zcl ?_ | refine zcm ?_ | refine zcn ?_)
        refine zci rfl ?_
        repeat (first | refine zck ?_ | refine zcl ?_ | refine zcm ?_ | refine zcn ?_)
        first | refine zcp (by kernel_rfl) ?_ | refine zcq PP_mixed (by kernel_rfl) (by kernel_rfl) ?_
        repeat' (refine zap rfl ?_; first | refine zan rfl ?_ | refine zan rfl ?_ | refine zae 1 rfl rfl rfl rfl rfl rfl rfl ?_)
        all_goals refine zch ?_
        all_goals repeat (first | refine zck ?_ | refine zcl ?_ | refine zcm ?_ | refine zcn ?_)
        exact run_ret (dqPop_fin w0 p eb m R (0, e) s _ rfl rfl hG)
    rw [if_neg hn] at hG
    have kn2 := dqIs w0 P hP n
    cases hN2 : P.node n with
    | false =>
      rw [hN2, if_neg (by decide)] at hG
      rw [hN2] at kn2
      repeat (first | refine zck ?_ | refine zcl ?_ | refine zcm ?_ | refine zcn ?_)
      first | refine zcp (by kernel_rfl) ?_ | refine zcq PP_mixed (by kernel_rfl) (by kernel_rfl) ?_
      repeat' (refine zap rfl ?_; first | refine zan rfl ?_ | refine zan rfl ?_ | refine zbd rfl rfl (by omega) ?_)
      all_goals refine zch ?_
      all_goals repeat (first | refine zck ?_ | refine zcl ?_ | refine zcm ?_ | refine zcn ?_)
      refine zcj rfl ?_
      repeat (first | refine zck ?_ | refine zcl ?_ | refine zcm ?_ | refine zcn ?_)
      first | refine zcp (by kernel_rfl) ?_ | refine zcq PP_mixed (by kernel_rfl) (by kernel_rfl) ?_
      repeat' (refine zap rfl ?_; first | refine zbx rfl ?_ | refine zan rfl ?_ | refine zan rfl ?_ | refine zaa 0 rfl rfl rfl ?_ | refine zah [] kn2 rfl rfl rfl sub_nil rfl ?_)
      all_goals refine zch ?_
      all_goals repeat (first | refine zck ?_ | refine zcl ?_ | refine zcm ?_ | refine zcn ?_)
      refine zci rfl ?_
      repeat (first | refine zck ?_ | refine zcl ?_ | refine zcm ?_ | refine zcn ?_)
      first | refine zcp (by kernel_rfl) ?_ | refine zcq PP_mixed (by kernel_rfl) (by kernel_rfl) ?_
      repeat' (refine zap rfl ?_; first | refine zan rfl ?_ | refine zae 1 rfl rfl rfl rfl rfl rfl rfl ?_)
      all_goals refine zch ?_
      all_goals repeat (first | refine zck ?_ | refine zcl ?_ | refine zcm ?_ | refine zcn ?_)
      exact run_ret (dqPop_fin w0 p eb m R (0, 24) s _ rfl rfl hG)
    | true =>
      rw [hN2, if_pos rfl] at hG
      rw [hN2] at kn2
      simp only [Dq.fin, Pg.bind_assoc, Pg.ite_bind, Pg.pure_bind] at hG
      repeat (first | refine zck ?_ | refine zcl ?_ | refine zcm ?_ | refine zcn ?_)
      first | refine zcp (by kernel_rfl) ?_ | refine zcq PP_mixed (by kernel_rfl) (by kernel_rfl) ?_
      repeat' (refine zap rfl ?_; first | refine zan rfl ?_ | refine zan rfl ?_ | refine zbd rfl rfl (by omega) ?_)
      all_goals refine zch ?_
      all_goals repeat (first | refine zck ?_ | refine zcl ?_ | refine zcm ?_ | refine zcn ?_)
      refine zcj rfl ?_
      repeat (first | refine zck ?_ | refine zcl ?_ | refine zcm ?_ | refine zcn ?_)
      first | refine zcp (by kernel_rfl) ?_ | refine zcq PP_mixed (by kernel_rfl) (by kernel_rfl) ?_
      repeat' (refine zap rfl ?_; first | refine zbx rfl ?_ | refine zan rfl ?_ | refine zan rfl ?_ | refine zaa 0 rfl rfl rfl ?_ | refine zah [] kn2 rfl rfl rfl sub_nil rfl ?_)
      all_goals refine zch ?_
      all_goals repeat (first | refine zck ?_ | refine zcl ?_ | refine zcm ?_ | refine zcn ?_)
      refine zcj rfl ?_
      repeat (first | refine zck ?_ | refine zcl ?_ | refine zcm ?_ | refine zcn ?_)
      first | refine zcp (by kernel_rfl) ?_ | refine zcq PP_mixed (by kernel_rfl) (by kernel_rfl) ?_
      repeat' (refine zap rfl ?_; first | refine reg_add rfl rfl ?_ | refine zan rfl ?_ | refine reg_callG [0] hG (putG w0 p _ _) rfl rfl rfl sub_nil (fun u s hG => ?_))
      all_goals refine zch ?_
      all_goals repeat (first | refine zck ?_ | refine zcl ?_ | refine zcm ?_ | refine zcn ?_)
      repeat (first | refine zck ?_ | refine zcl ?_ | refine zcm ?_ | refine zcn ?_)
      first | refine zcp (by kernel_rfl) ?_ | refine zcq PP_mixed (by kernel_rfl) (by kernel_rfl) ?_
      repeat' (refine zap rfl ?_; first | refine reg_add rfl rfl ?_ | refine zan rfl ?_ | refine reg_callG [0] hG (putG w0 p _ _) rfl rfl rfl sub_nil (fun u s hG => ?_))
      all_goals refine zch ?_
      all_goals repeat (first | refine zck ?_ | refine zcl ?_ | refine zcm ?_ | refine zcn ?_)
      repeat (first | refine zck ?_ | refine zcl ?_ | refine zcm ?_ | refine zcn ?_)
      first | refine zcp (by kernel_rfl) ?_ | refine zcq PP_mixed (by kernel_rfl) (by kernel_rfl) ?_
      repeat' (refine zap rfl ?_; first | refine reg_add rfl rfl ?_ | refine zan rfl ?_ | refine reg_callG [0] hG (dqMore w0 p _ _) rfl rfl rfl sub_nil (fun u s hG => ?_))
      all_goals refine zch ?_
      all_goals repeat (first | refine zck ?_ | refine zcl ?_ | refine zcm ?_ | refine zcn ?_)
      repeat (first | refine zck ?_ | refine zcl ?_ | refine zcm ?_ | refine zcn ?_)
      first | refine zcp (by kernel_rfl) ?_ | refine zcq PP_mixed (by kernel_rfl) (by kernel_rfl) ?_
      repeat' (refine zap rfl ?_; first | refine reg_add rfl rfl ?_ | refine zan rfl ?_ | refine reg_callG [0] hG (dqMore w0 p _ _) rfl rfl rfl sub_nil (fun u s hG => ?_))
      all_goals refine zch ?_
      all_goals repeat (first | refine zck ?_ | refine zcl ?_ | refine zcm ?_ | refine zcn ?_)
      repeat (first | refine zck ?_ | refine zcl ?_ | refine zcm ?_ | refine zcn ?_)
      first | refine zcp (by kernel_rfl) ?_ | refine zcq PP_mixed (by kernel_rfl) (by kernel_rfl) ?_
      repeat' (refine zap rfl ?_; first | refine reg_add rfl rfl ?_ | refine zan rfl ?_ | refine zan rfl ?_ | refine reg_callG [0] hG (getG w0 p _) rfl rfl rfl sub_nil (fun x s hG => ?_))
      all_goals refine zch ?_
      all_goals repeat (first | refine zck ?_ | refine zcl ?_ | refine zcm ?_ | refine zcn ?_)
      repeat (first | refine zck ?_ | refine zcl ?_ | refine zcm ?_ | refine zcn ?_)
      first | refine zcp (by kernel_rfl) ?_ | refine zcq PP_mixed (by kernel_rfl) (by kernel_rfl) ?_
      repeat' (refine zap rfl ?_; first | refine zan rfl ?_ | refine zan rfl ?_ | refine zaa 0 rfl rfl rfl ?_ | refine reg_callG [0] hG (giveG w0 p P hP a) rfl rfl rfl sub_nil (fun e s hG => ?_))
      all_goals refine zch ?_
      all_goals repeat (first | refine zck ?_ | refine zcl ?_ | refine zcm ?_ | refine zcn ?_)
      by_cases hE : e = 0
      · subst hE
        rw [if_neg (fun q => q rfl)] at hG
        repeat (first | refine zck ?_ | refine zcl ?_ | refine zcm ?_ | refine zcn ?_)
        first | refine zcp (by kernel_rfl) ?_ | refine zcq PP_mixed (by kernel_rfl) (by kernel_rfl) ?_
        repeat' (refine zap rfl ?_; first | refine zan rfl ?_ | refine zbf rfl rfl (by omega) ?_)
        all_goals refine zch ?_
        all_goals repeat (first | refine zck ?_ | refine zcl ?_ | refine zcm ?_ | refine zcn ?_)
        refine zcj rfl ?_
        repeat (first | refine zck ?_ | refine zcl ?_ | refine zcm ?_ | refine zcn ?_)
        first | refine zcp (by kernel_rfl) ?_ | refine zcq PP_mixed (by kernel_rfl) (by kernel_rfl) ?_
        repeat' (refine zap rfl ?_; first | refine zan rfl ?_ | refine zan rfl ?_ | refine zae 1 rfl rfl rfl rfl rfl rfl rfl ?_)
        all_goals refine zch ?_
        all_goals repeat (first | refine zck ?_ | refine zcl ?_ | refine zcm ?_ | refine zcn ?_)
        exact run_ret (dqPop_fin w0 p eb m R (x, 0) s _ rfl rfl hG)
      · rw [if_pos hE] at hG
        repeat (first | refine zck ?_ | refine zcl ?_ | refine zcm ?_ | refine zcn ?_)
        first | refine zcp (by kernel_rfl) ?_ | refine zcq PP_mixed (by kernel_rfl) (by kernel_rfl) ?_
        repeat' (refine zap rfl ?_; first | refine zan rfl ?_ | refine zbe rfl rfl (by omega) ?_)
        all_goals refine zch ?_
        all_goals repeat (first | refine zck ?_ | refine zcl ?_ | refine zcm ?_ | refine zcn ?_)
        refine zci rfl ?_
        repeat (first | refine zck ?_ | refine zcl ?_ | refine zcm ?_ | refine zcn ?_)
        first | refine zcp (by kernel_rfl) ?_ | refine zcq PP_mixed (by kernel_rfl) (by kernel_rfl) ?_
        repeat' (refine zap rfl ?_; first | refine zan rfl ?_ | refine zan rfl ?_ | refine zae 1 rfl rfl rfl rfl rfl rfl rfl ?_)
        all_goals refine zch ?_
        all_goals repeat (first | refine zck ?_ | refine zcl ?_ | refine zcm ?_ | refine zcn ?_)
        exact run_ret (dqPop_fin w0 p eb m R (0, e) s _ rfl rfl hG)
end Go.Proofs.YtgdhcgnmffgkiaaGreatDoor

namespace Go.Proofs.YtgdhcgnmffgkiaaGreatDoor
open Go.Vc Sim
set_option maxHeartbeats 16000000
end Go.Proofs.YtgdhcgnmffgkiaaGreatDoor

namespace Go.Proofs.YtgdhcgnmffgkiaaGreatDoor
open Go.Vc Sim
set_option maxHeartbeats 4000000

def cnt : Nat → List Nat → Nat
  | 0, _ => 0
  | n + 1, s => cnt n s + if n ∈ s then 0 else 1
theorem cnt_more (q : Nat) (s : List Nat) (hs : q ∉ s) : ∀ n, (n ≤ q → cnt n (s ++ [q]) = cnt n s) ∧ (q < n → cnt n (s ++ [q]) + 1 = cnt n s)
  | 0 => ⟨fun _ => rfl, fun h => absurd h (by omega)⟩
  | n + 1 => by
    obtain ⟨h1, h2⟩ := cnt_more q s hs n
    simp only [cnt]
    refine ⟨fun h => ?_, fun h => ?_⟩
    · have hne : n ≠ q := by omega
      rw [h1 (by omega)]; simp [hne]
    · by_cases e : q = n
      · subst e; rw [h1 (Nat.le_refl _)]; simp [hs]
      · have := h2 (by omega)
        have e2 : (n ∈ s ++ [q]) = (n ∈ s) := by simp; intro h; omega
        simp only [e2]; omega

theorem new_spec (w0 : World) (kb : Nat) (kn : List (Int × Wd)) (hkn : ∀ (q : Nat) a w, kn[q]? = some (a, w) → lookW kn a = some w ∧ w.ref = 0) :
    Vc.Fn PP w0 [] 29 [.map (some kb)] [pt kb (mapI (knM kn))]
      (fun v Γ => ∃ p kn', v = spP p ∧ Γ = [SpaceA p ⟨kn', [], [], 0, false⟩] ∧ ∀ a, lookW kn' a = lookW kn a) := by
  refine fn_of_run en29 fn29 rfl rfl rfl ?_
  repeat (first | refine zck ?_ | refine zcl ?_ | refine zcm ?_ | refine zcn ?_)
  first | refine zcp (by kernel_rfl) ?_ | refine zcq PP_mixed (by kernel_rfl) (by kernel_rfl) ?_
  repeat' (refine zap rfl ?_; first | refine zan rfl ?_)
  all_goals refine zch ?_
  all_goals repeat (first | refine zck ?_ | refine zcl ?_ | refine zcm ?_ | refine zcn ?_)
  repeat (first | refine zck ?_ | refine zcl ?_ | refine zcm ?_ | refine zcn ?_)
  first | refine zcp (by kernel_rfl) ?_ | refine zcq PP_mixed (by kernel_rfl) (by kernel_rfl) ?_
  repeat' (refine zap rfl ?_; first | refine zan rfl ?_ | refine zaq (cs := [_, _, _, _, _]) rfl (fun nb => ?_) | refine zcc (fun nb => ?_) | refine zcb rfl ?_)
  all_goals refine zch ?_
  all_goals repeat (first | refine zck ?_ | refine zcl ?_ | refine zcm ?_ | refine zcn ?_)
  rename_i m1 m2
  revert nb; intro p
  refine run_share_keep [3] rfl ?_
  repeat (first | refine zck ?_ | refine zcl ?_ | refine zcm ?_ | refine zcn ?_)
  first | refine zcp (by kernel_rfl) ?_ | refine zcq PP_mixed (by kernel_rfl) (by kernel_rfl) ?_
  repeat' (refine zap rfl ?_; first | refine reg_range 0 rfl rfl (fun nb => ?_) | refine zan rfl ?_)
  all_goals refine zch ?_
  all_goals repeat (first | refine zck ?_ | refine zcl ?_ | refine zcm ?_ | refine zcn ?_)
  revert nb; intro it
  refine run_loop (S := List (Int × Wd) × List Nat) (fun _ => [(3, spP p), (11, .pointer (some ⟨it, 0, none⟩))])
    (fun st Γ => Γ = [pt kb (mapI (knM kn)), pt m1 (mapI (knM st.1)), pt m2 (mapI []), pt it (iterI kb (knM kn).length st.2 (knM kn).length)] ∧ (∀ q ∈ st.2, ∀ a w, kn[q]? = some (a, w) → lookW st.1 a = some w) ∧ (∀ a w, lookW st.1 a = some w → lookW kn a = some w))
    (fun st => cnt kn.length st.2) ([], []) ⟨rfl, rfl, trivial⟩ ⟨rfl, by simp, by simp [lookW]⟩ ?_
  rintro ⟨kn', seen⟩ Γ junk ⟨rfl, h1, h2⟩
  dsimp only at h1 h2 ⊢
  repeat (first | refine zck ?_ | refine zcl ?_ | refine zcm ?_ | refine zcn ?_ | refine zco ?_)
  refine zcp (by kernel_rfl) ?_
  refine zap rfl ?_
  refine reg_next 3 0 rfl rfl (pt_know 0 rfl) rfl (fun _ => rfl) (fun hall => ?_) (fun q e hq hns => ?_)
  · repeat' (first | refine zck ?_ | (refine zap rfl ?_; first | refine zan rfl ?_) | refine zch ?_ | refine zcj rfl ?_)
    refine cut_exit rfl rfl ?_
    repeat' (first | refine zck ?_ | refine zcp (by kernel_rfl) ?_ | (refine zap rfl ?_; first | refine zan rfl ?_ | refine zan rfl ?_) | refine zch ?_)
    refine run_nilslice 247 2 ?_
    refine run_ret (leaves_nil (ends_close1 (A := SpaceA p ⟨kn', [], [], 0, false⟩) [5, 1, 1, 2] rfl (fun _ h => ⟨(m1, m2, none, 0), h⟩) (ends_one rfl rfl ⟨rfl, p, kn', rfl, rfl, fun a => ?_⟩)))
    cases hk : lookW kn a with
    | none =>
      cases hk' : lookW kn' a with
      | none => rfl
      | some w => have := h2 a w hk'; rw [hk] at this; cases this
    | some w =>
      obtain ⟨q, hq⟩ := lookW_mem kn a w hk
      have hql := (List.getElem?_eq_some_iff.1 hq).1
      exact h1 q (hall q (by rw [knM_length]; exact hql)) a w hq
  · rw [knM_get] at hq
    obtain ⟨⟨a, w⟩, hq2, rfl⟩ : ∃ aw, kn[q]? = some aw ∧ e = (aw.1, wordV aw.2) := by
      cases h : kn[q]? with
      | none => rw [h] at hq; cases hq
      | some aw => rw [h] at hq; exact ⟨aw, rfl, (Option.some.inj hq).symm⟩
    obtain ⟨hk1, hk2⟩ := hkn q a w hq2
    have hql := (List.getElem?_eq_some_iff.1 hq2).1
    have hq3 : (knM kn)[q]? = some (a, wordV w) := by rw [knM_get, hq2]; rfl
    repeat' (refine zap rfl ?_; first | refine zan rfl ?_)
    refine zch ?_
    repeat (first | refine zck ?_ | refine zcl ?_ | refine zcm ?_ | refine zcn ?_ | refine zco ?_)
    refine zci rfl ?_
    repeat (first | refine zck ?_ | refine zcl ?_ | refine zcm ?_ | refine zcn ?_ | refine zco ?_)
    repeat (first | refine zck ?_ | refine zcl ?_ | refine zcm ?_ | refine zcn ?_)
    first | refine zcp (by kernel_rfl) ?_ | refine zcq PP_mixed (by kernel_rfl) (by kernel_rfl) ?_
    repeat' (refine zap rfl ?_; first | refine reg_entry 3 rfl rfl (pt_know 0 rfl) hq3 ?_ | refine zan rfl ?_ | refine zan rfl ?_ | refine zae 4 rfl rfl rfl rfl rfl rfl rfl ?_ | refine zar (fun nb => ?_))
    all_goals refine zch ?_
    all_goals repeat (first | refine zck ?_ | refine zcl ?_ | refine zcm ?_ | refine zcn ?_)
    refine run_share [4] rfl ?_
    repeat (first | refine zck ?_ | refine zcl ?_ | refine zcm ?_ | refine zcn ?_)
    first | refine zcp (by kernel_rfl) ?_ | refine zcq PP_mixed (by kernel_rfl) (by kernel_rfl) ?_
    repeat' (refine zap rfl ?_; first | refine zaa 0 rfl rfl rfl ?_ | refine zao rfl ?_ | refine zbo rfl rfl ?_)
    all_goals refine zch ?_
    all_goals repeat (first | refine zck ?_ | refine zcl ?_ | refine zcm ?_ | refine zcn ?_)
    refine zci (bool_eq (decide_eq_true hk2)) ?_
    repeat' (first | refine zcq PP_mixed (by kernel_rfl) (by kernel_rfl) ?_ | refine zcn ?_ | (refine zap rfl ?_; first | refine reg_mapUpdate 1 rfl rfl rfl rfl rfl ?_ | refine zan rfl ?_ | refine zaa 0 rfl rfl rfl ?_ | refine zaa 1 rfl rfl rfl ?_ | refine zao rfl ?_ | refine zan rfl ?_) | refine zch ?_)
    refine cut_end ⟨rfl, (insW kn' a w, seen ++ [q]), ⟨rfl, rfl, trivial⟩, ⟨?_, ?_, ?_⟩, ?_⟩
    · show _ = [_, pt m1 (mapI (knM (insW kn' a w))), _, _]
      rw [← ins_knM]; rfl
    · intro q' hq' a' w' h
      rw [look_insW]
      rcases List.mem_append.1 hq' with hq' | hq'
      · have := h1 q' hq' a' w' h
        by_cases e : a = a'
        · subst e; rw [if_pos rfl]
          have := (hkn q' a w' h).1
          rw [hk1] at this; exact this
        · rw [if_neg e]; exact this
      · simp at hq'; subst hq'
        rw [hq2] at h; cases h; rw [if_pos rfl]
    · intro a' w' h
      rw [look_insW] at h
      by_cases e : a = a'
      · subst e; rw [if_pos rfl] at h; cases h; exact hk1
      · rw [if_neg e] at h; exact h2 a' w' h
    · have := (cnt_more q seen hns kn.length).2 hql
      dsimp only; omega
end Go.Proofs.YtgdhcgnmffgkiaaGreatDoor

namespace Sim
open Go Go.Vc
theorem wk0_hkn (n : Nat) : ∀ (q : Nat) a w, (wk 0 (List.replicate n 0))[q]? = some (a, w) → lookW (wk 0 (List.replicate n 0)) a = some w ∧ w.ref = 0 := by
  intro q a w h
  rw [wk_get] at h
  by_cases hq : q < n
  · have e : (List.replicate n (0 : Int))[q]? = some 0 := by rw [List.getElem?_replicate, if_pos hq]
    rw [e] at h
    simp only [Option.map_some, Option.some.injEq, Prod.mk.injEq] at h
    obtain ⟨rfl, rfl⟩ := h
    rw [lookW_wk, if_pos (by rw [List.length_replicate]; omega)]
    have e2 : (((0 + q : Nat) : Int) - ((0 : Nat) : Int)).toNat = q := by omega
    rw [e2, e]
    exact ⟨rfl, rfl⟩
  · have e : (List.replicate n (0 : Int))[q]? = none := by rw [List.getElem?_replicate, if_neg hq]
    rw [e] at h
    cases h
def rootA (k : Int) : Bool → Int
  | false => 8 + 8 * k
  | true => 8 + 8 * k + 80
theorem wk_rep0 (i : Nat) : wk 0 (List.replicate (i + 1) 0) = wk 0 (List.replicate i 0) ++ [((i : Int), ⟨0, 0, 0⟩)] := by
  rw [List.replicate_succ', wk_snoc, List.length_replicate, Nat.zero_add]
def awPrev : Nat → Sp
  | 0 => awS
  | n + 1 => (awR n).2
theorem awR_eq : ∀ n, awR n = Pg.run (doP (awG n)) (awPrev n)
  | 0 => rfl
  | _ + 1 => rfl
theorem aw_at {n : Nat} (hn : n < 8) : awV[n]? = some (awR n).1 ∧ (awR n).2.puts.length ≤ 1000 := by
  have h := List.all_eq_true.1 aw_all n (List.mem_range.2 hn)
  rw [Bool.and_eq_true, decide_eq_true_eq, decide_eq_true_eq] at h
  exact h
theorem awPrev_len {n : Nat} (hn : n < 8) : (awPrev n).puts.length ≤ 1000 := by
  cases n with
  | zero => exact Nat.zero_le _
  | succ n => exact (aw_at (by omega)).2
theorem bd_awG : ∀ n, Pg.Bd 65 (awG n)
  | 0 => (bd_mPut _ _ _).mono (by decide)
  | 1 => (bd_mPut _ _ _).mono (by decide)
  | 2 => (Qu.bd_take _ _).mono (by decide)
  | 3 => (bd_mLen _).mono (by decide)
  | 4 => (Qu.bd_first _).mono (by decide)
  | 5 => bd_mtPut _ _ _
  | 6 => (bd_mtHas _ _).mono (by decide)
  | _ + 7 => (bd_mtGet _ _).mono (by decide)
end Sim
namespace Go.Proofs.YtgdhcgnmffgkiaaGreatDoor
open Go.Vc Sim
set_option maxHeartbeats 4000000
theorem aw_step (w0 : World) (sh : Shared) (f : FuncId) (args : List Value) (p n : Nat) (hn : n < 8) (r : Int × Int) (hr : awV[n]? = some r) (spec : FnG w0 sh f args p (doP (awG n)) encI2) (s : Sp) (hs : Eqv s (awPrev n)) :
    Vc.Fn PP w0 sh f args [SpaceA p s] (fun v Γ => v = encI2 r ∧ ∃ s', Γ = [SpaceA p s'] ∧ Eqv s' (awPrev (n + 1))) := by
  have hl : s.puts.length ≤ 1000 := by rw [hs.puts]; exact awPrev_len hn
  have hF := Pg.fits_of (doP (awG n)) 65 s (bd_doP (bd_awG n)) (by omega)
  obtain ⟨h1, h2⟩ := Pg.run_eqv (doP (awG n)) hs
  rw [← awR_eq] at h1 h2
  have h3 := (aw_at hn).1
  rw [hr] at h3
  cases h3
  refine (spec s hF).mono ?_
  rintro v Γ ⟨rfl, rfl⟩
  exact ⟨by rw [h1], _, rfl, h2⟩
theorem empty_spec (w0 : World) : Vc.Fn PP w0 [] 9 [] [] (fun v Γ => ∃ p s, v = spP p ∧ Γ = [SpaceA p s] ∧ Eqv s awS) := by
  have hnew := fun kb => new_spec w0 kb (wk 0 (List.replicate 440 0)) (wk0_hkn 440)
  refine fn_of_run en9 fn9 rfl rfl rfl ?_
  repeat (first | refine zck ?_ | refine zcl ?_ | refine zcm ?_ | refine zcn ?_)
  first | refine zcp (by kernel_rfl) ?_ | refine zcq PP_mixed (by kernel_rfl) (by kernel_rfl) ?_
  repeat' (refine zap rfl ?_; first | refine zan rfl ?_)
  all_goals refine zch ?_
  all_goals repeat (first | refine zck ?_ | refine zcl ?_ | refine zcm ?_ | refine zcn ?_)
  repeat (first | refine zck ?_ | refine zcl ?_ | refine zcm ?_ | refine zcn ?_)
  first | refine zcp (by kernel_rfl) ?_ | refine zcq PP_mixed (by kernel_rfl) (by kernel_rfl) ?_
  repeat' (refine zap rfl ?_; first | refine zan rfl ?_ | refine zcc (fun nb => ?_))
  all_goals refine zch ?_
  all_goals repeat (first | refine zck ?_ | refine zcl ?_ | refine zcm ?_ | refine zcn ?_)
  repeat (first | refine zck ?_ | refine zcl ?_ | refine zcm ?_ | refine zcn ?_)
  first | refine zcp (by kernel_rfl) ?_ | refine zcq PP_mixed (by kernel_rfl) (by kernel_rfl) ?_
  repeat' (refine zap rfl ?_; first | refine zan rfl ?_)
  all_goals refine zch ?_
  all_goals repeat (first | refine zck ?_ | refine zcl ?_ | refine zcm ?_ | refine zcn ?_)
  refine run_loop (S := Nat) (fun i => [(1, .map (some nb)), (2, .int .i64 (i : Int))])
    (fun i Γ => Γ = [pt nb (mapI (knM (wk 0 (List.replicate i 0))))] ∧ i ≤ 440) (fun i => 440 - i) 0 ⟨rfl, rfl, trivial⟩ ⟨rfl, Nat.zero_le _⟩ ?_
  rintro i Γ junk ⟨rfl, hi⟩
  by_cases hlt : i < 440
  · have hnone : lookW (wk 0 (List.replicate i 0)) (i : Int) = none := by rw [lookW_wk, if_neg]; simp
    have hins : ins (knM (wk 0 (List.replicate i 0))) (i : Int) (wordV ⟨0, 0, 0⟩) = knM (wk 0 (List.replicate (i + 1) 0)) := by
      rw [ins_knM, insW_none _ _ _ hnone, wk_rep0]
    repeat' (first | refine zck ?_ | refine zcp (by kernel_rfl) ?_ | refine zcm ?_ | refine zcl ?_ | refine zcn ?_ | (refine zap rfl ?_; first | refine zcb rfl ?_ | refine reg_mapUpdate 0 rfl rfl rfl rfl rfl ?_ | refine zan rfl ?_ | refine zan rfl ?_ | refine zbg rfl rfl (by omega) ?_ | refine zau rfl rfl (by omega) ?_) | refine zch ?_ | refine zci rfl ?_)
    refine cut_end ⟨rfl, i + 1, ⟨rfl, int_eq (by omega), trivial⟩, ⟨?_, hlt⟩, by omega⟩
    rw [← hins]; rfl
  · have e : i = 440 := by omega
    subst e
    repeat (first | refine zck ?_ | refine zcl ?_ | refine zcm ?_ | refine zcn ?_)
    first | refine zcp (by kernel_rfl) ?_ | refine zcq PP_mixed (by kernel_rfl) (by kernel_rfl) ?_
    repeat' (refine zap rfl ?_; first | refine zan rfl ?_ | refine zbh rfl rfl (by omega) ?_)
    all_goals refine zch ?_
    all_goals repeat (first | refine zck ?_ | refine zcl ?_ | refine zcm ?_ | refine zcn ?_)
    refine zcj rfl ?_
    refine cut_exit rfl rfl ?_
    repeat' (first | refine zck ?_ | refine zcp (by kernel_rfl) ?_ | (refine zap rfl ?_; first | refine zan rfl ?_ | refine zan rfl ?_ | (refine zai [0] (hnew _) rfl rfl rfl sub_nil ?_; rintro v Γ ⟨p, kn, rfl, rfl, hkn⟩)) | refine zch ?_)
    exact ret_tmp1 rfl ⟨p, _, rfl, rfl, hkn, rfl, rfl, rfl, rfl⟩
theorem plan_spec (w0 : World) : FnE PP w0 [] 14 [] [] (poolV awP) [] := by
  refine fn_of_run en14 fn14 rfl rfl rfl ?_
  repeat (first | refine zck ?_ | refine zcl ?_ | refine zcm ?_ | refine zcn ?_)
  first | refine zcp (by kernel_rfl) ?_ | refine zcq PP_mixed (by kernel_rfl) (by kernel_rfl) ?_
  repeat' (refine zap rfl ?_; first | refine zar (fun t0 => ?_))
  all_goals refine zch ?_
  all_goals repeat (first | refine zck ?_ | refine zcl ?_ | refine zcm ?_ | refine zcn ?_)
  repeat' (first | refine zcp (by kernel_rfl) ?_ | (refine zap rfl ?_; first | refine zcb rfl ?_ | refine zae 0 rfl rfl rfl rfl rfl rfl rfl ?_) | refine zch ?_)
  exact run_ret (leaves_nil (ends_take [] rfl (ends_one rfl (resOk_pt 0 rfl rfl rfl) ⟨rfl, rfl, rfl⟩)))
theorem root_spec (w0 : World) (k : Int) (b : Bool) (hk : 0 ≤ k ∧ k ≤ 9) : FnE PP w0 [] 11 [.int .i64 k, .bool b] [] (.agg (List.toArray [.int .i64 k, .int .i64 (rootA k b)])) [] := by
  cases b with
  | false =>
    refine fn_of_run en11 fn11 rfl rfl rfl ?_
    repeat (first | refine zck ?_ | refine zcl ?_ | refine zcm ?_ | refine zcn ?_)
    first | refine zcp (by kernel_rfl) ?_ | refine zcq PP_mixed (by kernel_rfl) (by kernel_rfl) ?_
    repeat' (refine zap rfl ?_; first | refine zar (fun t0 => ?_))
    all_goals refine zch ?_
    all_goals repeat (first | refine zck ?_ | refine zcl ?_ | refine zcm ?_ | refine zcn ?_)
    repeat' (first | refine zck ?_ | refine zcp (by kernel_rfl) ?_ | refine zcm ?_ | (refine zap rfl ?_; first | refine zcb rfl ?_ | refine zan rfl ?_ | refine zan rfl ?_ | refine zau rfl rfl (by omega) ?_ | refine zaw rfl rfl (by omega) ?_ | refine zae 0 rfl rfl rfl rfl rfl rfl rfl ?_) | refine zch ?_ | refine zcj rfl ?_)
    exact run_ret (leaves_nil (ends_take [] rfl (ends_one rfl (resOk_pt 0 rfl rfl rfl) ⟨rfl, rfl, rfl⟩)))
  | true =>
    refine fn_of_run en11 fn11 rfl rfl rfl ?_
    repeat (first | refine zck ?_ | refine zcl ?_ | refine zcm ?_ | refine zcn ?_)
    first | refine zcp (by kernel_rfl) ?_ | refine zcq PP_mixed (by kernel_rfl) (by kernel_rfl) ?_
    repeat' (refine zap rfl ?_; first | refine zar (fun t0 => ?_))
    all_goals refine zch ?_
    all_goals repeat (first | refine zck ?_ | refine zcl ?_ | refine zcm ?_ | refine zcn ?_)
    repeat' (first | refine zck ?_ | refine zcp (by kernel_rfl) ?_ | (refine zap rfl ?_; first | refine zcb rfl ?_ | refine zan rfl ?_ | refine zan rfl ?_ | refine zau rfl rfl (by omega) ?_ | refine zaw rfl rfl (by omega) ?_ | refine zae 0 rfl rfl rfl rfl rfl rfl rfl ?_) | refine zch ?_ | refine zci rfl ?_)
    exact run_ret (leaves_nil (ends_take [] rfl (ends_one rfl (resOk_pt 0 rfl rfl rfl) ⟨rfl, rfl, rfl⟩)))
theorem intRd (w0 : World) (nb : Nat) (l : List Int) : RdSl w0 [(nb, .cells (List.toArray (l.flatMap encI)) 2 (0, 0))] encI 1 (.slice (some ⟨nb, 0, none⟩) l.length l.length) l :=
  RdSl.flat (encE := encI) (q := 1) (w0 := w0) (b := nb) (l := l) (fun _ _ => rfl) (.head _)
theorem aw_own (w0 : World) (p nb n : Nat) (k r : Int) (name : ByteArray) (l : List Int) (hn : n < 8) (q : Int × Int) (hr : awV[n]? = some q)
    (spec : FnG w0 [(nb, .cells (List.toArray (l.flatMap encI)) 2 (0, 0))] 13 [spP p, poolV awP, .agg (List.toArray [.int .i64 k, .int .i64 r]), .string name, .slice (some ⟨nb, 0, none⟩) l.length l.length] p (doP (awG n)) encI2) (s : Sp) (hs : Eqv s (awPrev n)) :
    Vc.Fn PP w0 [] 13 [spP p, poolV awP, .agg (List.toArray [.int .i64 k, .int .i64 r]), .string name, .slice (some ⟨nb, 0, none⟩) l.length l.length] [pt nb (.cells (List.toArray (l.flatMap encI)) 2 (0, 0)), SpaceA p s]
      (fun v Γ => v = encI2 q ∧ ∃ s', Γ = [SpaceA p s', pt nb (.cells (List.toArray (l.flatMap encI)) 2 (0, 0))] ∧ Eqv s' (awPrev (n + 1))) := by
  refine (aw_step w0 _ _ _ p n hn q hr spec s hs).owned.mono ?_
  rintro v Γ ⟨_, ⟨rfl, s', rfl, h⟩, rfl⟩
  exact ⟨rfl, s', rfl, h⟩
abbrev AwO (w0 : World) (p nb n : Nat) (k r : Int) (name : ByteArray) (l : List Int) (q : Int × Int) (s : Sp) : Prop :=
  Vc.Fn PP w0 [] 13 [spP p, poolV awP, .agg (List.toArray [.int .i64 k, .int .i64 r]), .string name, .slice (some ⟨nb, 0, none⟩) l.length l.length] [pt nb (.cells (List.toArray (l.flatMap encI)) 2 (0, 0)), SpaceA p s]
      (fun v Γ => v = encI2 q ∧ ∃ s', Γ = [SpaceA p s', pt nb (.cells (List.toArray (l.flatMap encI)) 2 (0, 0))] ∧ Eqv s' (awPrev (n + 1)))
abbrev AwN (w0 : World) (p n : Nat) (k r : Int) (name : ByteArray) (q : Int × Int) (s : Sp) : Prop :=
  Vc.Fn PP w0 [] 13 [spP p, poolV awP, .agg (List.toArray [.int .i64 k, .int .i64 r]), .string name, .slice none 0 0] [SpaceA p s] (fun v Γ => v = encI2 q ∧ ∃ s', Γ = [SpaceA p s'] ∧ Eqv s' (awPrev (n + 1)))
def nmPut : ByteArray := bs [112, 117, 116]
def nmTake : ByteArray := bs [116, 97, 107, 101]
def nmLen : ByteArray := bs [108, 101, 110]
def nmFirst : ByteArray := bs [102, 105, 114, 115, 116]
def nmHas : ByteArray := bs [104, 97, 115]
def nmGet : ByteArray := bs [103, 101, 116]
theorem aw0_spec (w0 : World) (p nb : Nat) (s : Sp) (hs : Eqv s (awPrev 0)) : AwO w0 p nb 0 2 24 nmPut [5] (0, 0) s := aw_own w0 p nb 0 2 24 nmPut [5] (by decide) (0, 0) rfl
  (doG w0 _ p awP 2 24 nmPut (some ⟨nb, 0, none⟩) 1 1 ((nmPut, 1, true), 203) (by kernel_rfl) (by decide +kernel) rfl _ (qPutG w0 _ p awP awP_ok 24 5 [5] _ _ (intRd w0 nb [5]) rfl)) s hs
theorem aw1_spec (w0 : World) (p nb : Nat) (s : Sp) (hs : Eqv s (awPrev 1)) : AwO w0 p nb 1 2 24 nmPut [6] (0, 0) s := aw_own w0 p nb 1 2 24 nmPut [6] (by decide) (0, 0) rfl
  (doG w0 _ p awP 2 24 nmPut (some ⟨nb, 0, none⟩) 1 1 ((nmPut, 1, true), 203) (by kernel_rfl) (by decide +kernel) rfl _ (qPutG w0 _ p awP awP_ok 24 6 [6] _ _ (intRd w0 nb [6]) rfl)) s hs
theorem aw2_spec (w0 : World) (p : Nat) (s : Sp) (hs : Eqv s (awPrev 2)) : AwN w0 p 2 2 24 nmTake (5, 0) s := aw_step w0 [] _ _ p 2 (by decide) (5, 0) rfl
  (doG w0 [] p awP 2 24 nmTake none 0 0 ((nmTake, 0, true), 204) (by kernel_rfl) (by decide +kernel) rfl _ (qTakeG w0 [] p awP awP_ok 24 _)) s hs
theorem aw3_spec (w0 : World) (p : Nat) (s : Sp) (hs : Eqv s (awPrev 3)) : AwN w0 p 3 2 24 nmLen (1, 0) s := aw_step w0 [] _ _ p 3 (by decide) (1, 0) rfl
  (doG w0 [] p awP 2 24 nmLen none 0 0 ((nmLen, 0, false), 206) (by kernel_rfl) (by decide +kernel) rfl _ (qLenG w0 [] p awP 24 _)) s hs
theorem aw4_spec (w0 : World) (p : Nat) (s : Sp) (hs : Eqv s (awPrev 4)) : AwN w0 p 4 2 24 nmFirst (6, 0) s := aw_step w0 [] _ _ p 4 (by decide) (6, 0) rfl
  (doG w0 [] p awP 2 24 nmFirst none 0 0 ((nmFirst, 0, false), 205) (by kernel_rfl) (by decide +kernel) rfl _ (qFirstG w0 [] p awP 24 _)) s hs
theorem aw5_spec (w0 : World) (p nb : Nat) (s : Sp) (hs : Eqv s (awPrev 5)) : AwO w0 p nb 5 4 40 nmPut [1, 7] (0, 0) s := aw_own w0 p nb 5 4 40 nmPut [1, 7] (by decide) (0, 0) rfl
  (doG w0 _ p awP 4 40 nmPut (some ⟨nb, 0, none⟩) 2 2 ((nmPut, 2, true), 221) (by kernel_rfl) (by decide +kernel) rfl _ (tPutG w0 _ p awP 40 awT_ok 1 7 [1, 7] _ _ (intRd w0 nb [1, 7]) rfl rfl)) s hs
theorem aw6_spec (w0 : World) (p nb : Nat) (s : Sp) (hs : Eqv s (awPrev 6)) : AwO w0 p nb 6 4 40 nmHas [1] (1, 0) s := aw_own w0 p nb 6 4 40 nmHas [1] (by decide) (1, 0) rfl
  (doG w0 _ p awP 4 40 nmHas (some ⟨nb, 0, none⟩) 1 1 ((nmHas, 1, false), 225) (by kernel_rfl) (by decide +kernel) rfl _ (tHasG w0 _ p awP 40 awT_ok 1 [1] _ _ (intRd w0 nb [1]) rfl)) s hs
theorem aw7_spec (w0 : World) (p nb : Nat) (s : Sp) (hs : Eqv s (awPrev 7)) : AwO w0 p nb 7 4 40 nmGet [2] (0, 10) s := aw_own w0 p nb 7 4 40 nmGet [2] (by decide) (0, 10) rfl
  (doG w0 _ p awP 4 40 nmGet (some ⟨nb, 0, none⟩) 1 1 ((nmGet, 1, false), 223) (by kernel_rfl) (by decide +kernel) rfl _ (tGetG w0 _ p awP 40 awT_ok 2 [2] _ _ (intRd w0 nb [2]) rfl)) s hs
end Go.Proofs.YtgdhcgnmffgkiaaGreatDoor

namespace Go.Proofs.YtgdhcgnmffgkiaaGreatDoor
open Go.Vc Sim
set_option maxHeartbeats 4000000
end Go.Proofs.YtgdhcgnmffgkiaaGreatDoor

namespace Sim
open Go Go.Vc
open Pg
namespace Tr
variable (T : Tr)
end Tr
end Sim

namespace Go.Proofs.YtgdhcgnmffgkiaaGreatDoor
open Go.Vc Sim
set_option maxHeartbeats 4000000
end Go.Proofs.YtgdhcgnmffgkiaaGreatDoor

namespace Go.Proofs.YtgdhcgnmffgkiaaGreatDoor.SF
open Go.Vc
end Go.Proofs.YtgdhcgnmffgkiaaGreatDoor.SF

namespace Go.Proofs.YtgdhcgnmffgkiaaGreatDoor.SF
open Go.Vc
open Go.Sort (swp insInner insOuter insertionSort)

end Go.Proofs.YtgdhcgnmffgkiaaGreatDoor.SF

namespace Go.Proofs.YtgdhcgnmffgkiaaGreatDoor.SF
open Go.Vc
open Go.Sort (swp reverseLoop reverseRange siftDown heapBuild heapPop heapSort)

end Go.Proofs.YtgdhcgnmffgkiaaGreatDoor.SF

namespace Go.Proofs.YtgdhcgnmffgkiaaGreatDoor.SF
open Go.Vc
open Go.Sort (swp siftDown heapBuild heapPop heapSort)
end Go.Proofs.YtgdhcgnmffgkiaaGreatDoor.SF

namespace Go.Proofs.YtgdhcgnmffgkiaaGreatDoor.SF
open Go.Vc
open Go.Sort (swp scanUp scanDown partLoop partition partEqLoop partitionEqual)
set_option maxHeartbeats 4000000
end Go.Proofs.YtgdhcgnmffgkiaaGreatDoor.SF

namespace Go.Proofs.YtgdhcgnmffgkiaaGreatDoor.SF
open Go.Vc
open Go.Sort (swp scanUp scanDown partEqLoop partitionEqual)
set_option maxHeartbeats 4000000
end Go.Proofs.YtgdhcgnmffgkiaaGreatDoor.SF

namespace Go.Proofs.YtgdhcgnmffgkiaaGreatDoor.SF
open Go.Vc
open Go.Sort (swp scanSorted shiftDown shiftUp partialIns partialInsertionSort)
set_option maxHeartbeats 4000000
end Go.Proofs.YtgdhcgnmffgkiaaGreatDoor.SF

namespace Go.Proofs.YtgdhcgnmffgkiaaGreatDoor.SF
open Go.Vc
open Go.Sort (order2 median medianAdjacent choosePivot Hint)
end Go.Proofs.YtgdhcgnmffgkiaaGreatDoor.SF

namespace Go.Proofs.YtgdhcgnmffgkiaaGreatDoor.SF
open Go.Vc
open Go.Sort (order2 median medianAdjacent choosePivot Hint)
set_option maxHeartbeats 4000000
end Go.Proofs.YtgdhcgnmffgkiaaGreatDoor.SF

namespace Go.Proofs.YtgdhcgnmffgkiaaGreatDoor
open Go.Vc

end Go.Proofs.YtgdhcgnmffgkiaaGreatDoor

namespace Go.Proofs.YtgdhcgnmffgkiaaGreatDoor
open Go.Vc
open Go.Sort (ltInt swp insInner insOuter insertionSort)

end Go.Proofs.YtgdhcgnmffgkiaaGreatDoor

namespace Go.Proofs.YtgdhcgnmffgkiaaGreatDoor
open Go.Vc
open Go.Sort (ltInt swp reverseLoop reverseRange siftDown heapBuild heapPop heapSort)

end Go.Proofs.YtgdhcgnmffgkiaaGreatDoor

namespace Go.Proofs.YtgdhcgnmffgkiaaGreatDoor
open Go.Vc
open Go.Sort (ltInt swp siftDown heapBuild heapPop heapSort)
end Go.Proofs.YtgdhcgnmffgkiaaGreatDoor

namespace Go.Proofs.YtgdhcgnmffgkiaaGreatDoor
open Go.Vc
open Go.Sort (ltInt swp scanUp scanDown partLoop partition partEqLoop partitionEqual)
set_option maxHeartbeats 4000000
end Go.Proofs.YtgdhcgnmffgkiaaGreatDoor

namespace Go.Proofs.YtgdhcgnmffgkiaaGreatDoor
open Go.Vc
open Go.Sort (ltInt swp scanUp scanDown partEqLoop partitionEqual)
set_option maxHeartbeats 4000000
end Go.Proofs.YtgdhcgnmffgkiaaGreatDoor

namespace Go.Proofs.YtgdhcgnmffgkiaaGreatDoor
open Go.Vc
open Go.Sort (ltInt swp scanSorted shiftDown shiftUp partialIns partialInsertionSort)
set_option maxHeartbeats 4000000
end Go.Proofs.YtgdhcgnmffgkiaaGreatDoor

namespace Go.Proofs.YtgdhcgnmffgkiaaGreatDoor
open Go.Vc
open Go.Sort (ltInt order2 median medianAdjacent choosePivot Hint)
end Go.Proofs.YtgdhcgnmffgkiaaGreatDoor

namespace Go.Proofs.YtgdhcgnmffgkiaaGreatDoor
open Go.Vc
open Go.Sort (ltInt order2 median medianAdjacent choosePivot Hint)
set_option maxHeartbeats 4000000
end Go.Proofs.YtgdhcgnmffgkiaaGreatDoor

namespace Go.Proofs.YtgdhcgnmffgkiaaGreatDoor
open Go.Vc
open Go.Sort (bitsLen xorNextN)
section
variable {P : Program} {w0 : World} {n : Nat} {sh : Shared} {Q : Exit → Env → List Deferred → List Asn → Prop} {k : List Item} {ρ : Env} {df : List Deferred} {Γ : List Asn}
variable {ops : Array Oper} {l : List (Fl × Nat × Oper)} {b : Fl} {i d : Nat} {ty : TypeId} {pos : String} {aft : Array Edge}
end
end Go.Proofs.YtgdhcgnmffgkiaaGreatDoor

namespace Go.Proofs.YtgdhcgnmffgkiaaGreatDoor.SF
open Go.Vc
open Go.Sort (swp bitsLen xorNextN xorNext breakStep breakPatterns)
section
variable {P : Program} {w0 : World} {n : Nat} {sh : Shared} {Q : Exit → Env → List Deferred → List Asn → Prop} {k : List Item} {ρ : Env} {df : List Deferred} {Γ : List Asn}
variable {ops : Array Oper} {l : List (Fl × Nat × Oper)} {b : Fl} {i d : Nat} {ty : TypeId} {pos : String} {aft : Array Edge}
end
set_option maxHeartbeats 4000000
end Go.Proofs.YtgdhcgnmffgkiaaGreatDoor.SF

namespace Go.Proofs.YtgdhcgnmffgkiaaGreatDoor.SF
open Go.Vc
open Go.Sort (swp bitsLen Hint insertionSort heapSort breakPatterns choosePivot reverseRange partialInsertionSort partitionEqual partition pdq)
end Go.Proofs.YtgdhcgnmffgkiaaGreatDoor.SF

namespace Go.Proofs.YtgdhcgnmffgkiaaGreatDoor.SF
open Go.Vc
open Go.Sort (swp bitsLen Hint insertionSort heapSort breakPatterns choosePivot reverseRange partialInsertionSort partitionEqual partition pdq)
set_option maxHeartbeats 4000000
end Go.Proofs.YtgdhcgnmffgkiaaGreatDoor.SF

namespace Go.Proofs.YtgdhcgnmffgkiaaGreatDoor.SF
open Go.Vc
open Go.Sort (bitsLen pdq)
end Go.Proofs.YtgdhcgnmffgkiaaGreatDoor.SF

namespace Go.Proofs.YtgdhcgnmffgkiaaGreatDoor.SF
open Go.Vc
end Go.Proofs.YtgdhcgnmffgkiaaGreatDoor.SF

namespace Go.Proofs.YtgdhcgnmffgkiaaGreatDoor
open Go.Vc Sim
set_option maxHeartbeats 4000000
theorem trLen (w0 : World) (p : Nat) (T : Tr) (hT : T.Ok) : FnG w0 [] 64 [trV T, spP p] p T.len (.int .i64) := by
  intro s hS
  have hG := At.start hS
  generalize Pg.run _ s = R at hG ⊢
  unfold Tr.len at hG
  have hr := hT.r1
  have hr0 := hT.r0
  refine fn_of_run en64 fn64 rfl rfl rfl ?_
  replace hG : At R (Pg.gt (T.root + 1) >>= fun u => Pg.ret u) s := hG
  repeat' (first | refine zck ?_ | refine zcp (by kernel_rfl) ?_ | (refine zap rfl ?_; first | refine zan rfl ?_ | refine zan rfl ?_ | refine zab 1 rfl rfl rfl ?_ | refine reg_callG [0] hG (getG w0 p _) rfl rfl rfl sub_nil (fun u s hG => ?_) | refine zao rfl ?_ | refine zau rfl rfl (by omega) ?_ | refine zaq (cs := [_, _, _, _, _]) rfl (fun nb => ?_)) | refine zch ?_)
  rw [hG.done]
  refine run_take [0] rfl ?_
  exact ret_tmp1 rfl ⟨rfl, rfl⟩
end Go.Proofs.YtgdhcgnmffgkiaaGreatDoor

