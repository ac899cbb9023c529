import Derived.Test.YtgdhcgnmffgkiaaGreatDoorPart15
import Derived.Test.YtgdhcgnmffgkiaaGreatDoorPart3
/- Own work: lemmas of this claim. -/
namespace Go.Proofs.YtgdhcgnmffgkiaaGreatDoor
variable (w0 : World)
open Go.Vc Sim
set_option maxHeartbeats 4000000
abbrev cel (b : Nat) (v : Value) (T : TypeId) : Asn := pt b (.cells (List.toArray [v]) T (0, 0))
theorem foMake1 (p : Nat) (s : Sp) (m : Nat) (e x : Int) (eb sb mb xb : Nat) :
    FnD PP w0 [] 187 [.pointer (some ⟨eb, 0, none⟩), .pointer (some ⟨sb, 0, none⟩), .pointer (some ⟨mb, 0, none⟩), .pointer (some ⟨xb, 0, none⟩)]
    [SpaceA p s, cel xb (.int .i64 x) 2, cel eb (.int .i64 e) 39, cel mb (.int .i64 m) 3, cel sb (spP p) 24]
    fun v Γ' => v = .tuple #[] ∧ Γ' = [SpaceA p (if e ≠ 0 then s.back m else s), cel xb (.int .i64 (if e ≠ 0 then 0 else x)) 2, cel eb (.int .i64 e) 39, cel mb (.int .i64 m) 3, cel sb (spP p) 24] := by
  refine fnD_of_run en187 fn187 rfl rfl rfl ?_
 
  repeat' first|refine zck ?_|refine zyq ?_|(refine zap rfl ?_;first|refine zdw rfl rfl (by omega) ?_|refine zau rfl rfl (by omega) ?_|refine zdu rfl rfl ?_|refine zab 2 rfl rfl rfl ?_|refine zbp rfl rfl ?_)|refine zch ?_
  refine zed rfl (fun hE => ?_) (fun hE => ?_)
  · repeat' first|refine zck ?_|refine zyq ?_|(refine zap rfl ?_;first|refine zdw rfl rfl (by omega) ?_|refine zau rfl rfl (by omega) ?_|refine zdu rfl rfl ?_|refine zab 3 rfl rfl rfl ?_|refine zab 4 rfl rfl rfl ?_|refine zah [0] (back_spec w0 p s m) rfl rfl rfl zdj rfl ?_|refine zae 1 rfl rfl rfl rfl rfl rfl rfl ?_)|refine zch ?_
    refine run_nil ⟨rfl, ends_none rfl ?_⟩
    rw [if_pos hE, if_pos hE]; exact ⟨rfl, rfl⟩
  · repeat' first|refine zcm ?_|(refine zap rfl ?_;first|refine zdw rfl rfl (by omega) ?_|refine zau rfl rfl (by omega) ?_|refine zdu rfl rfl ?_|refine zaj rfl ?_|refine zak rfl ?_|refine zal rfl ?_|refine zam rfl rfl (fun _ => ?_) (fun _ => ?_))|refine zch ?_
    refine run_nil ⟨rfl, ends_none rfl ?_⟩
    rw [if_neg hE, if_neg hE]; exact ⟨rfl, rfl⟩
def makeD (eb sb mb xb : Nat) : Deferred := { target := .fn (.func 187) (List.toArray [.pointer (some ⟨eb, 0, none⟩), .pointer (some ⟨sb, 0, none⟩), .pointer (some ⟨mb, 0, none⟩), .pointer (some ⟨xb, 0, none⟩)]), args := List.toArray [] }
theorem make_fin (p eb sb mb xb : Nat) (m : Nat) (R : (Int × Int) × Sp) (x e : Int) (s : Sp) (ρ : Env) (h4 : ρ 4 = .pointer (some ⟨xb, 0, none⟩)) (h5 : ρ 5 = .pointer (some ⟨eb, 0, none⟩)) (hG : At R (Fo.after m (x, e)) s) :
   LeavesS PP w0 [] Tryz.f96 ρ [makeD eb sb mb xb] [SpaceA p s, cel xb (.int .i64 x) 2, cel eb (.int .i64 e) 39, cel mb (.int .i64 m) 3, cel sb (spP p) 24] (fun v Γ => v = encI2 R.1 ∧ Γ = [SpaceA p R.2]) := by
 refine leaves_defer1 [0, 0, 0, 0, 0] (foMake1 w0 p s m e x eb sb mb xb) rfl rfl zdj ?_
 refine zek (zel [0] rfl (zen rfl (zeo 1 h4 rfl rfl) (zeo 2 h5 rfl rfl) ?_))
 refine ⟨rfl, ?_⟩
 unfold Fo.after at hG
 by_cases hE : e ≠ 0
 · dsimp only at hG
   rw [if_pos hE] at hG
   rw [hG.step.2.done, if_pos hE, if_pos hE]
   exact ⟨rfl, rfl⟩
 · dsimp only at hG
   rw [if_neg hE] at hG
   rw [hG.done, if_neg hE, if_neg hE]
   exact ⟨rfl, rfl⟩
theorem foMake (p : Nat) (F : Fo) (hF : F.Ok) : FnG w0 [] 96 [foV F, spP p] p F.make encI2 := by
 obtain ⟨_, h1, h2⟩ := id hF
 intro s hS; have hG := At.start hS; generalize Pg.run _ s = R at hG ⊢
 refine zep en96 fn96 rfl rfl rfl ?_
 refine zyr ?_
 repeat' (refine zap rfl ?_;first|refine zdw rfl rfl (by omega) ?_|refine zau rfl rfl (by omega) ?_|refine zdu rfl rfl ?_|refine zaq (cs := [_]) rfl (fun nb => ?_)|refine zaq (cs := [_, _, _, _]) rfl (fun nb => ?_)|refine zar (fun nb => ?_))
 all_goals refine zyn ?_
 rename_i fb sb xb
 revert nb; intro eb
 refine zeb [1] rfl ?_
 refine run_share_keep [1] rfl ?_
 refine zyr ?_
 repeat' first|(refine zap rfl ?_;first|refine zdw rfl rfl (by omega) ?_|refine zau rfl rfl (by omega) ?_|refine zdu rfl rfl ?_|refine zdl [0] hG F.all_many (foMany w0 p F hF) rfl rfl rfl zdj (fun n s hn hG => ?_))|refine zp ?_|refine zyl 0 rfl ?_|refine zyl 1 rfl ?_|refine zyn ?_
 obtain ⟨n1, n2⟩ := n
 dsimp only at hn hG
 cases n2 with
 | false =>
   rw [if_neg (by decide)] at hG
   rw [hG.done]
   repeat' first|refine zck ?_|refine zyq ?_|(refine zap rfl ?_;first|refine zbx rfl ?_|refine zdw rfl rfl (by omega) ?_|refine zau rfl rfl (by omega) ?_|refine zdu rfl rfl ?_|refine zae 1 rfl rfl rfl rfl rfl rfl rfl ?_|refine zae 2 rfl rfl rfl rfl rfl rfl rfl ?_)|refine zp ?_|refine zch ?_|refine zci rfl ?_
   exact zeg (zek (zel [0] rfl (zen rfl (zeo 1 rfl rfl rfl) (zeo 2 rfl rfl rfl) ⟨rfl, rfl, rfl⟩)))
 | true =>
   rw [if_pos rfl] at hG
   have hn := hn rfl
   by_cases c1 : n1 = 64
   · rw [if_pos c1] at hG
     rw [hG.done]
     repeat' first|refine zck ?_|refine zyq ?_|(refine zap rfl ?_;first|refine zbx rfl ?_|refine zdw rfl rfl (by omega) ?_|refine zau rfl rfl (by omega) ?_|refine zdu rfl rfl ?_|refine zbc rfl rfl (by omega) ?_|refine zae 1 rfl rfl rfl rfl rfl rfl rfl ?_|refine zae 2 rfl rfl rfl rfl rfl rfl rfl ?_)|refine zp ?_|refine zch ?_|refine zci rfl ?_|refine zcj rfl ?_
     exact zeg (zek (zel [0] rfl (zen rfl (zeo 1 rfl rfl rfl) (zeo 2 rfl rfl rfl) ⟨rfl, rfl, rfl⟩)))
   rw [if_neg c1] at hG
   refine zyr ?_
   repeat' first|(refine zap rfl ?_;first|refine zbx rfl ?_|refine zdw rfl rfl (by omega) ?_|refine zau rfl rfl (by omega) ?_|refine zdu rfl rfl ?_)|refine zp ?_|refine zyn ?_
   refine zcj rfl ?_
   refine zyr ?_
   repeat' first|(refine zap rfl ?_;first|refine zdw rfl rfl (by omega) ?_|refine zau rfl rfl (by omega) ?_|refine zdu rfl rfl ?_|refine zbd rfl rfl (by omega) ?_)|refine zp ?_|refine zyn ?_
   refine zcj rfl ?_
   refine zyr ?_
   repeat' first|(refine zap rfl ?_;first|refine zdw rfl rfl (by omega) ?_|refine zau rfl rfl (by omega) ?_|refine zdu rfl rfl ?_|refine zdk [0] hG (markG w0 p) rfl rfl rfl zdj (fun m s hG => ?_)|refine zae 3 rfl rfl rfl rfl rfl rfl rfl ?_|refine zar (fun nb => ?_))|refine zyl 0 rfl ?_|refine zyn ?_
   revert nb; intro mb
   refine run_share_keep [3] rfl ?_
   simp only [Fo.makeIn, Pg.bind_assoc, Pg.ite_bind, Pg.pure_bind] at hG
   refine zyr ?_
   repeat' first|(refine zap rfl ?_;first|refine zdw rfl rfl (by omega) ?_|refine zau rfl rfl (by omega) ?_|refine zdu rfl rfl ?_|refine zcd rfl rfl ?_)|refine zp ?_|refine zyn ?_
   refine zyr ?_
   repeat' first|(refine zap rfl ?_;first|refine zdw rfl rfl (by omega) ?_|refine zau rfl rfl (by omega) ?_|refine zdu rfl rfl ?_|refine zae 1 rfl rfl rfl rfl rfl rfl rfl ?_)|refine zp ?_|refine zyn ?_
   refine zyr ?_
   repeat' first|(refine zap rfl ?_;first|refine zdw rfl rfl (by omega) ?_|refine zau rfl rfl (by omega) ?_|refine zdu rfl rfl ?_|refine zab 1 rfl rfl rfl ?_|refine zdk [0] hG (foRoom w0 p F hF (n1 + 1) (by omega)) rfl rfl rfl zdj (fun e s hG => ?_)|refine zae 2 rfl rfl rfl rfl rfl rfl rfl ?_)|refine zyl 1 rfl ?_|refine zyl 2 rfl ?_|refine zyn ?_
   refine zyr ?_
   repeat' (refine zap rfl ?_;first|refine zdw rfl rfl (by omega) ?_|refine zau rfl rfl (by omega) ?_|refine zdu rfl rfl ?_|refine zab 2 rfl rfl rfl ?_|refine zbp rfl rfl ?_)
   all_goals refine zyn ?_
   refine zed rfl (fun hE => ?_) (fun hE => ?_)
   · rw [if_pos hE] at hG
     refine run_share_keep [2] rfl ?_
     repeat' first|refine zck ?_|refine zyq ?_|(refine zap rfl ?_;first|refine reg_store_same 0 rfl rfl rfl rfl rfl rfl ?_|refine zdw rfl rfl (by omega) ?_|refine zau rfl rfl (by omega) ?_|refine zdu rfl rfl ?_|refine zae 1 rfl rfl rfl rfl rfl rfl rfl ?_)|refine zyl 0 rfl ?_|refine zch ?_
     exact zeg (make_fin w0 p eb sb mb xb m R 0 e s _ rfl rfl hG)
   rw [if_neg hE] at hG
   refine run_slots [(2, .pointer (some ⟨fb, 0, none⟩)), (3, .pointer (some ⟨sb, 0, none⟩)), (4, .pointer (some ⟨xb, 0, none⟩)), (5, .pointer (some ⟨eb, 0, none⟩))] ⟨rfl, rfl, rfl, rfl, trivial⟩ (fun junk => ?_)
   refine zyr ?_
   repeat' first|(refine zap rfl ?_;first|refine zdw rfl rfl (by omega) ?_|refine zau rfl rfl (by omega) ?_|refine zdu rfl rfl ?_|refine zab 1 rfl rfl rfl ?_|refine zdl [0] hG (F.all_place (n1 + 1)) (foPlace w0 p F hF (n1 + 1) ⟨by omega, by omega⟩) rfl rfl rfl zdj (fun c s hb hG => ?_))|refine zp ?_|refine zyl 1 rfl ?_|refine zyl 2 rfl ?_|refine zyn ?_
   refine zyr ?_
   repeat' first|(refine zap rfl ?_;first|refine zdw rfl rfl (by omega) ?_|refine zau rfl rfl (by omega) ?_|refine zdu rfl rfl ?_|refine zbx rfl ?_)|refine zp ?_|refine zyn ?_
   refine zee rfl (fun hE => ?_) (fun hE => ?_)
   · have hE : c.2 = false := by simpa using hE
     simp only [hE, Bool.false_eq_true, if_false] at hG
     repeat' first|refine zck ?_|refine zyq ?_|(refine zap rfl ?_;first|refine zdw rfl rfl (by omega) ?_|refine zau rfl rfl (by omega) ?_|refine zdu rfl rfl ?_|refine zae 1 rfl rfl rfl rfl rfl rfl rfl ?_|refine zae 2 rfl rfl rfl rfl rfl rfl rfl ?_)|refine zch ?_
     exact zeg (make_fin w0 p eb sb mb xb m R 0 24 s _ rfl rfl hG)
   have hE : c.2 = true := by simpa using hE
   simp only [hE, if_true] at hG
   refine zyr ?_
   repeat' first|(refine zap rfl ?_;first|refine zdw rfl rfl (by omega) ?_|refine zau rfl rfl (by omega) ?_|refine zdu rfl rfl ?_|refine zex rfl ?_)|refine zp ?_|refine zyn ?_
   refine zet ?_
   repeat' first|refine zck ?_|refine zcm ?_|refine zcl ?_|refine zcn ?_|refine zyq ?_|refine zco ?_|refine zcs rfl ?_|(refine zap rfl ?_;first|refine zdu (t := 2) rfl rfl ?_|refine zdw rfl rfl (by omega) ?_|refine zau rfl rfl (by omega) ?_|refine zdu rfl rfl ?_|refine zab 1 rfl rfl rfl ?_|refine zdk [0] hG (getG w0 p _) rfl rfl rfl zdj (fun u s hG => ?_)|refine zdk [0] hG (putG w0 p _ _) rfl rfl rfl zdj (fun u s hG => ?_)|refine zbg rfl rfl (by omega) ?_|refine zbh rfl rfl (by omega) ?_|refine zae 1 rfl rfl rfl rfl rfl rfl rfl ?_|refine zae 2 rfl rfl rfl rfl rfl rfl rfl ?_|refine zea rfl rfl (by omega) rfl ?_)|refine zp ?_|refine zyl 1 rfl ?_|refine zyl 2 rfl ?_|refine zyf rfl ?_|refine zch ?_|refine zci rfl ?_|refine zcj rfl ?_
   exact zeg (make_fin w0 p eb sb mb xb m R (n1 + 1) 0 s _ rfl rfl hG)
end Go.Proofs.YtgdhcgnmffgkiaaGreatDoor
namespace Sim
open Go Go.Vc
def Ctr.fits (a n : Int) : Bool := if n > 0 then decide (a ≤ w64 (9223372036854775807 - n)) else decide (a ≥ w64 (-9223372036854775808 - n))
def Ctr.get (r : Int) : Pg Int := Pg.gt r
def Ctr.add (r n : Int) : Pg (Int × Int) := do
 let v ← Pg.gt r
 if Ctr.fits v n = true then do
   let _ ← Pg.pt r (w64 (v + n))
   pure (w64 (v + n), 0)
 else pure (0, 9)
def Ctr.set (r n : Int) : Pg Int := do
 let v ← Pg.gt r
 let _ ← Pg.pt r n
 pure v
def Stk.more (r n : Int) : Pg Unit := do
 let a ← Pg.gt (w64 (r + 1))
 let _ ← Pg.pt (w64 (r + 1)) (w64 (a + n))
 let b ← Pg.gt (w64 (r + 7))
 let _ ← Pg.pt (w64 (r + 7)) (w64 (b + n))
 pure ()
def Stk.pushIn (P : Pl) (r v : Int) : Pg Int := do
 let t ← P.takeP
 if t.2 ≠ 0 then pure t.2 else do
   let x ← Pg.gt (w64 (r + 0))
   let _ ← Pg.pt (w64 (t.1 + 0)) x
   let _ ← Pg.pt (w64 (t.1 + 1)) v
   let _ ← Pg.pt (w64 (r + 0)) t.1
   let _ ← Stk.more r 1
   pure 0
def Stk.push (P : Pl) (r v : Int) : Pg Int := do
 let m ← Pg.mk
 let e ← Stk.pushIn P r v
 Qu.after m e
def Stk.popIn (P : Pl) (r : Int) : Pg (Int × Int) := do
 let a ← Pg.gt (w64 (r + 0))
 if a = 0 then pure (0, 8) else
 if P.node a = true then do
   let n ← Pg.gt (w64 (a + 0))
   let v ← Pg.gt (w64 (a + 1))
   let e ← P.giveP a
   if e ≠ 0 then pure (0, e) else do
     let _ ← Pg.pt (w64 (r + 0)) n
     let _ ← Stk.more r (-1)
     pure (v, 0)
 else pure (0, 24)
def Stk.pop (P : Pl) (r : Int) : Pg (Int × Int) := do
 let m ← Pg.mk
 let e ← Stk.popIn P r
 Qu.after2 m e
def Stk.top (r : Int) : Pg (Int × Int) := do
 let a ← Pg.gt (w64 (r + 0))
 if a = 0 then pure (0, 8) else do
   let v ← Pg.gt (w64 (a + 1))
   pure (v, 0)
def Stk.len (r : Int) : Pg Int := Pg.gt (w64 (r + 1))
def Dq.side (b : Bool) : Int := if b = true then 1 else 0
def Dq.more (x n : Int) : Pg Unit := do
 let a ← Pg.gt x
 let _ ← Pg.pt x (w64 (a + n))
 pure ()
def Dq.tail (r n : Int) (b : Bool) : Pg Int := do
 let _ ← Pg.pt (w64 (r + Dq.side b)) n
 let _ ← Dq.more (w64 (r + 2)) 1
 let _ ← Dq.more (w64 (r + 7)) 1
 pure 0
def Dq.pushIn (P : Pl) (r v : Int) (b : Bool) : Pg Int := do
 let t ← P.takeP
 if t.2 ≠ 0 then pure t.2 else do
   let e ← Pg.gt (w64 (r + Dq.side b))
   let _ ← Pg.pt (w64 (t.1 + Dq.side b)) 0
   let _ ← Pg.pt (w64 (t.1 + Dq.side (!b))) e
   let _ ← Pg.pt (w64 (t.1 + 2)) v
   if e = 0 then do
     let _ ← Pg.pt (w64 (r + Dq.side (!b))) t.1
     Dq.tail r t.1 b
   else if P.node e = true then do
     let _ ← Pg.pt (w64 (e + Dq.side b)) t.1
     Dq.tail r t.1 b
   else pure 24
def Dq.push (P : Pl) (r v : Int) (b : Bool) : Pg Int := do
 let m ← Pg.mk
 let e ← Dq.pushIn P r v b
 Qu.after m e
def Dq.fin (P : Pl) (r a n : Int) (b : Bool) : Pg (Int × Int) := do
 let _ ← Pg.pt (w64 (r + Dq.side b)) n
 let _ ← Dq.more (w64 (r + 2)) (-1)
 let _ ← Dq.more (w64 (r + 7)) (-1)
 let x ← Pg.gt (w64 (a + 2))
 let e ← P.giveP a
 if e ≠ 0 then pure (0, e) else pure (x, 0)
def Dq.popIn (P : Pl) (r : Int) (b : Bool) : Pg (Int × Int) := do
 let a ← Pg.gt (w64 (r + Dq.side b))
 if a = 0 then pure (0, 8) else
 if P.node a = true then do
   let n ← Pg.gt (w64 (a + Dq.side (!b)))
   if n = 0 then do
     let _ ← Pg.pt (w64 (r + Dq.side (!b))) 0
     Dq.fin P r a n b
   else if P.node n = true then do
     let _ ← Pg.pt (w64 (n + Dq.side b)) 0
     Dq.fin P r a n b
   else pure (0, 24)
 else pure (0, 24)
def Dq.pop (P : Pl) (r : Int) (b : Bool) : Pg (Int × Int) := do
 let m ← Pg.mk
 let e ← Dq.popIn P r b
 Qu.after2 m e
def Dq.peek (r : Int) (b : Bool) : Pg (Int × Int) := do
 let a ← Pg.gt (w64 (r + Dq.side b))
 if a = 0 then pure (0, 8) else do
   let v ← Pg.gt (w64 (a + 2))
   pure (v, 0)
def Dq.len (r : Int) : Pg Int := Pg.gt (w64 (r + 2))
open Pg
theorem Ctr.bd_add (r n : Int) : Bd 1 (Ctr.add r n) := by unfold Ctr.add; repeat' first|exact bd_pure _|with_reducible refine bd_ite ?_ ?_|with_reducible refine bd_then (bd_gt0 _) ?_ (by decide)|with_reducible refine bd_then (bd_pt _ _) ?_ (by decide) | intro _
theorem Ctr.bd_set (r n : Int) : Bd 1 (Ctr.set r n) := by unfold Ctr.set; repeat' first|exact bd_pure _|with_reducible refine bd_then (bd_gt0 _) ?_ (by decide)|with_reducible refine bd_then (bd_pt _ _) ?_ (by decide) | intro _
theorem Stk.bd_more (r n : Int) : Bd 2 (Stk.more r n) := by unfold Stk.more; repeat' first|exact bd_pure _|with_reducible refine bd_then (bd_gt0 _) ?_ (by decide)|with_reducible refine bd_then (bd_pt _ _) ?_ (by decide) | intro _
theorem Stk.bd_pushIn (P : Pl) (r v : Int) : Bd 7 (Stk.pushIn P r v) := by unfold Stk.pushIn; repeat' first|with_reducible refine bd_then (bd_takeP _) ?_ (by decide)|with_reducible refine bd_then (Stk.bd_more _ _) ?_ (by decide)|exact bd_pure _|with_reducible refine bd_ite ?_ ?_|with_reducible refine bd_then (bd_gt0 _) ?_ (by decide)|with_reducible refine bd_then (bd_pt _ _) ?_ (by decide) | intro _
theorem Stk.bd_push (P : Pl) (r v : Int) : Bd 7 (Stk.push P r v) := by unfold Stk.push; repeat' first|with_reducible refine bd_then (Stk.bd_pushIn _ _ _) ?_ (by decide)|exact (Qu.bd_after _ _).mono (by decide)|with_reducible refine bd_then bd_mk0 ?_ (by decide) | intro _
theorem Stk.bd_popIn (P : Pl) (r : Int) : Bd 6 (Stk.popIn P r) := by unfold Stk.popIn; repeat' first|with_reducible refine bd_then (bd_giveP _ _) ?_ (by decide)|with_reducible refine bd_then (Stk.bd_more _ _) ?_ (by decide)|exact bd_pure _|with_reducible refine bd_ite ?_ ?_|with_reducible refine bd_then (bd_gt0 _) ?_ (by decide)|with_reducible refine bd_then (bd_pt _ _) ?_ (by decide) | intro _
theorem Stk.bd_pop (P : Pl) (r : Int) : Bd 6 (Stk.pop P r) := by unfold Stk.pop; repeat' first|with_reducible refine bd_then (Stk.bd_popIn _ _) ?_ (by decide)|exact (Qu.bd_after2 _ _).mono (by decide)|with_reducible refine bd_then bd_mk0 ?_ (by decide) | intro _
theorem Stk.bd_top (r : Int) : Bd 0 (Stk.top r) := by unfold Stk.top; repeat' first|exact bd_pure _|with_reducible refine bd_ite ?_ ?_|with_reducible refine bd_then (bd_gt0 _) ?_ (by decide) | intro _
theorem Dq.bd_more (x n : Int) : Bd 1 (Dq.more x n) := by unfold Dq.more; repeat' first|exact bd_pure _|with_reducible refine bd_then (bd_gt0 _) ?_ (by decide)|with_reducible refine bd_then (bd_pt _ _) ?_ (by decide) | intro _
theorem Dq.bd_tail (r n : Int) (b : Bool) : Bd 3 (Dq.tail r n b) := by unfold Dq.tail; repeat' first|with_reducible refine bd_then (Dq.bd_more _ _) ?_ (by decide)|exact bd_pure _|with_reducible refine bd_then (bd_pt _ _) ?_ (by decide) | intro _
theorem Dq.bd_pushIn (P : Pl) (r v : Int) (b : Bool) : Bd 9 (Dq.pushIn P r v b) := by unfold Dq.pushIn; repeat' first|with_reducible refine bd_then (bd_takeP _) ?_ (by decide)|exact (Dq.bd_tail _ _ _).mono (by decide)|exact bd_pure _|with_reducible refine bd_ite ?_ ?_|with_reducible refine bd_then (bd_gt0 _) ?_ (by decide)|with_reducible refine bd_then (bd_pt _ _) ?_ (by decide) | intro _
theorem Dq.bd_push (P : Pl) (r v : Int) (b : Bool) : Bd 9 (Dq.push P r v b) := by unfold Dq.push; repeat' first|with_reducible refine bd_then (Dq.bd_pushIn _ _ _ _) ?_ (by decide)|exact (Qu.bd_after _ _).mono (by decide)|with_reducible refine bd_then bd_mk0 ?_ (by decide) | intro _
theorem Dq.bd_fin (P : Pl) (r a n : Int) (b : Bool) : Bd 6 (Dq.fin P r a n b) := by unfold Dq.fin; repeat' first|with_reducible refine bd_then (Dq.bd_more _ _) ?_ (by decide)|with_reducible refine bd_then (bd_giveP _ _) ?_ (by decide)|exact bd_pure _|with_reducible refine bd_ite ?_ ?_|with_reducible refine bd_then (bd_gt0 _) ?_ (by decide)|with_reducible refine bd_then (bd_pt _ _) ?_ (by decide) | intro _
theorem Dq.bd_popIn (P : Pl) (r : Int) (b : Bool) : Bd 7 (Dq.popIn P r b) := by unfold Dq.popIn; repeat' first|exact (Dq.bd_fin _ _ _ _ _).mono (by decide)|exact bd_pure _|with_reducible refine bd_ite ?_ ?_|with_reducible refine bd_then (bd_gt0 _) ?_ (by decide)|with_reducible refine bd_then (bd_pt _ _) ?_ (by decide) | intro _
theorem Dq.bd_pop (P : Pl) (r : Int) (b : Bool) : Bd 7 (Dq.pop P r b) := by unfold Dq.pop; repeat' first|with_reducible refine bd_then (Dq.bd_popIn _ _ _) ?_ (by decide)|exact (Qu.bd_after2 _ _).mono (by decide)|with_reducible refine bd_then bd_mk0 ?_ (by decide) | intro _
theorem Dq.bd_peek (r : Int) (b : Bool) : Bd 0 (Dq.peek r b) := by unfold Dq.peek; repeat' first|exact bd_pure _|with_reducible refine bd_ite ?_ ?_|with_reducible refine bd_then (bd_gt0 _) ?_ (by decide) | intro _
end Sim
namespace Go.Proofs.YtgdhcgnmffgkiaaGreatDoor
variable (w0 : World)
open Go.Vc Sim
set_option maxHeartbeats 4000000
theorem ctrGet (p : Nat) (r : Int) : FnG w0 [] 43 [spP p, .int .i64 r] p (Ctr.get r) (.int .i64) := by
 intro s hS
 have hG := (At.start hS).to (Pg.bind_pure _).symm
 generalize Pg.run _ s = R at hG ⊢
 unfold Ctr.get at hG
 refine zep en43 fn43 rfl rfl rfl ?_
 repeat' first|refine zck ?_|refine zyq ?_|(refine zap rfl ?_;refine zdk [0] hG (getG w0 p _) rfl rfl rfl zdj (fun x s hG => ?_))|refine zp ?_|refine zch ?_
 rw [hG.done]
 exact zej rfl ⟨rfl, rfl⟩
theorem ctrSet (p : Nat) (r n : Int) : FnG w0 [] 45 [spP p, .int .i64 r, .int .i64 n] p (Ctr.set r n) (.int .i64) := by
 intro s hS
 have hG := At.start hS
 generalize Pg.run _ s = R at hG ⊢
 unfold Ctr.set at hG
 refine zep en45 fn45 rfl rfl rfl ?_
 repeat' first|refine zck ?_|refine zyq ?_|(refine zap rfl ?_;first|refine zdk [0] hG (ctrGet w0 p r) rfl rfl rfl zdj (fun x s hG => ?_)|refine zdk [0] hG (putG w0 p _ _) rfl rfl rfl zdj (fun u s hG => ?_))|refine zp ?_|refine zch ?_
 rw [hG.done]
 exact zej rfl ⟨rfl, rfl⟩
theorem stUndo (p : Nat) (s : Sp) (m : Nat) (eb : Nat) (e : Int) : FnD PP w0 [] 110 [spP p, .int .i64 m, .pointer (some ⟨eb, 0, none⟩)] [SpaceA p s, erV eb e]
    fun v Γ' => v = .tuple #[] ∧ Γ' = [SpaceA p (if e ≠ 0 then s.back m else s), erV eb e] := by
  refine fnD_of_run en110 fn110 rfl rfl rfl ?_
 
  repeat' first|refine zck ?_|refine zyq ?_|(refine zap rfl ?_;first|refine zab 1 rfl rfl rfl ?_|refine zbp rfl rfl ?_)|refine zp ?_|refine zch ?_
  refine zed rfl (fun hE => ?_) (fun hE => ?_)
  · repeat' first|refine zyq ?_|(refine zap rfl ?_;refine zah [0] (back_spec w0 p s m) rfl rfl rfl zdj rfl ?_)|refine zp ?_|refine zch ?_
    refine run_nil ⟨rfl, ends_none rfl ?_⟩
    rw [if_pos hE]; exact ⟨rfl, rfl⟩
  · repeat' first|refine zcm ?_|(refine zap rfl ?_;first|refine zaj rfl ?_|refine zak rfl ?_|refine zal rfl ?_|refine zam rfl rfl (fun _ => ?_) (fun _ => ?_))|refine zch ?_
    refine run_nil ⟨rfl, ends_none rfl ?_⟩
    rw [if_neg hE]; exact ⟨rfl, rfl⟩
def stD (p eb : Nat) (m : Nat) : Deferred := { target := .fn (.func 110) #[], args := List.toArray [spP p, .int .i64 m, .pointer (some ⟨eb, 0, none⟩)] }
theorem stMore (p : Nat) (r n : Int) : FnG w0 [] 112 [spP p, .int .i64 r, .int .i64 n] p (Stk.more r n) encU := by
 intro s hS
 have hG := At.start hS
 generalize Pg.run _ s = R at hG ⊢
 unfold Stk.more at hG
 refine zep en112 fn112 rfl rfl rfl ?_
 repeat' first|refine zck ?_|refine zyq ?_|(refine zap rfl ?_;first|refine zdu rfl rfl ?_|refine zdk [0] hG (getG w0 p _) rfl rfl rfl zdj (fun x s hG => ?_)|refine zdk [0] hG (putG w0 p _ _) rfl rfl rfl zdj (fun u s hG => ?_))|refine zp ?_|refine zch ?_
 rw [hG.done]
 refine end_tmp0 rfl ⟨rfl, rfl⟩
theorem stTop (p : Nat) (r : Int) : FnG w0 [] 48 [spP p, .int .i64 r] p (Stk.top r) encI2 := by
 intro s hS
 have hG := At.start hS
 generalize Pg.run _ s = R at hG ⊢
 unfold Stk.top at hG
 refine zep en48 fn48 rfl rfl rfl ?_
 repeat' first|refine zck ?_|refine zyq ?_|(refine zap rfl ?_;first|refine zdu rfl rfl ?_|refine zdk [0] hG (getG w0 p _) rfl rfl rfl zdj (fun x s hG => ?_)|refine zbo rfl rfl ?_)|refine zp ?_|refine zch ?_
 refine zed rfl (fun hE => ?_) (fun hE => ?_)
 · rw [if_pos hE] at hG
   rw [hG.done]
   repeat' first|refine zck ?_|refine zyq ?_|refine zp ?_|refine zch ?_
   exact zei rfl ⟨rfl, rfl⟩
 · rw [if_neg hE] at hG
   repeat' first|refine zck ?_|refine zcm ?_|refine zyq ?_|(refine zap rfl ?_;first|refine zdu rfl rfl ?_|refine zdk [0] hG (getG w0 p _) rfl rfl rfl zdj (fun x s hG => ?_))|refine zp ?_|refine zch ?_
   rw [hG.done]
   exact zei rfl ⟨rfl, rfl⟩
theorem stLen (p : Nat) (r : Int) : FnG w0 [] 49 [spP p, .int .i64 r] p (Stk.len r) (.int .i64) := by
 intro s hS
 have hG := (At.start hS).to (Pg.bind_pure _).symm
 generalize Pg.run _ s = R at hG ⊢
 unfold Stk.len at hG
 refine zep en49 fn49 rfl rfl rfl ?_
 repeat' first|refine zck ?_|refine zyq ?_|(refine zap rfl ?_;first|refine zdu rfl rfl ?_|refine zdk [0] hG (getG w0 p _) rfl rfl rfl zdj (fun x s hG => ?_))|refine zp ?_|refine zch ?_
 rw [hG.done]
 exact zej rfl ⟨rfl, rfl⟩
theorem stPush_fin (p eb m : Nat) (R : Int × Sp) (e : Int) (s : Sp) (ρ : Env) (h8 : ρ 8 = .pointer (some ⟨eb, 0, none⟩)) (hG : At R (Qu.after m e) s) :
   LeavesS PP w0 [] Tryz.f46 ρ [stD p eb m] [SpaceA p s, erV eb e] (fun v Γ => v = .int .i64 R.1 ∧ Γ = [SpaceA p R.2]) := by
 refine leaves_defer1 [0, 0] (stUndo w0 p s m eb e) rfl rfl zdj ?_
 refine zek (zel [0] rfl (zem rfl (zeo 1 h8 rfl rfl) ?_))
 refine ⟨rfl, ?_⟩
 unfold Qu.after at hG
 by_cases hE : e ≠ 0
 · rw [if_pos hE] at hG
   rw [hG.step.2.done, if_pos hE]
   exact ⟨rfl, rfl⟩
 · rw [if_neg hE] at hG
   rw [hG.done, if_neg hE]
   exact ⟨rfl, rfl⟩
theorem stPush (p : Nat) (P : Pl) (hP : P.Ok) (r v : Int) : FnG w0 [] 46 [spP p, poolV P, .int .i64 r, .int .i64 v] p (Stk.push P r v) (.int .i64) := by
 intro s hS
 have hG := At.start hS
 generalize Pg.run _ s = R at hG ⊢
 simp only [Stk.push, Stk.pushIn, Pg.bind_assoc, Pg.ite_bind, Pg.pure_bind] at hG
 refine zep en46 fn46 rfl rfl rfl ?_
 refine zyr ?_
 repeat' (refine zap rfl ?_;first|refine zar (fun eb => ?_)|refine zaq (cs := [_, _, _]) rfl (fun nb => ?_))
 all_goals refine zyn ?_
 refine zeb [1] rfl ?_
 refine zyr ?_
 repeat' first|(refine zap rfl ?_;first|refine zcd rfl rfl ?_|refine zdk [0] hG (markG w0 p) rfl rfl rfl zdj (fun m s hG => ?_))|refine zp ?_|refine zyn ?_
 refine zyr ?_
 repeat' first|(refine zap rfl ?_;first|refine zdk [0] hG (takeG w0 p P hP) rfl rfl rfl zdj (fun t s hG => ?_)|refine zae 1 rfl rfl rfl rfl rfl rfl rfl ?_)|refine zp ?_|refine zyl 0 rfl ?_|refine zyn ?_
 obtain ⟨a, e⟩ := t
 dsimp only at hG
 refine zyr ?_
 repeat' (refine zap rfl ?_;first|refine zab 1 rfl rfl rfl ?_|refine zbp rfl rfl ?_)
 all_goals refine zyn ?_
 refine zed rfl (fun hE => ?_) (fun hE => ?_)
 · rw [if_pos hE] at hG
   refine zyr ?_
   repeat' (refine zap rfl ?_;first|refine zab 1 rfl rfl rfl ?_|refine zae 1 rfl rfl rfl rfl rfl rfl rfl ?_)
   all_goals refine zyn ?_
   exact zeg (stPush_fin w0 p eb m R e s _ rfl hG)
 rw [if_neg hE] at hG
 have hE : e = 0 := by simpa using hE
 subst hE
 repeat' first|refine zck ?_|refine zcm ?_|refine zyq ?_|(refine zap rfl ?_;first|refine zdu rfl rfl ?_|refine zdk [0] hG (getG w0 p _) rfl rfl rfl zdj (fun x s hG => ?_)|refine zdk [0] hG (putG w0 p _ _) rfl rfl rfl zdj (fun u s hG => ?_)|refine zdk [0] hG (stMore w0 p _ _) rfl rfl rfl zdj (fun u s hG => ?_)|refine zae 1 rfl rfl rfl rfl rfl rfl rfl ?_)|refine zp ?_|refine zch ?_
 exact zeg (stPush_fin w0 p eb m R 0 s _ rfl hG)
theorem stPop_fin (p eb m : Nat) (R : (Int × Int) × Sp) (q : Int × Int) (s : Sp) (ρ : Env) (h6 : ρ 6 = .int .i64 q.1) (h7 : ρ 7 = .pointer (some ⟨eb, 0, none⟩)) (hG : At R (Qu.after2 m q) s) :
   LeavesS PP w0 [] Tryz.f47 ρ [stD p eb m] [SpaceA p s, erV eb q.2] (fun v Γ => v = encI2 R.1 ∧ Γ = [SpaceA p R.2]) := by
 refine leaves_defer1 [0, 0] (stUndo w0 p s m eb q.2) rfl rfl zdj ?_
 refine zek (zel [0] rfl (zen rfl h6 (zeo 1 h7 rfl rfl) ?_))
 refine ⟨rfl, ?_⟩
 unfold Qu.after2 at hG
 by_cases hE : q.2 ≠ 0
 · rw [if_pos hE] at hG
   rw [hG.step.2.done, if_pos hE]
   exact ⟨rfl, rfl⟩
 · rw [if_neg hE] at hG
   rw [hG.done, if_neg hE]
   exact ⟨rfl, rfl⟩
theorem stPop (p : Nat) (P : Pl) (hP : P.Ok) (r : Int) : FnG w0 [] 47 [spP p, poolV P, .int .i64 r] p (Stk.pop P r) encI2 := by
 intro s hS
 have hG := At.start hS
 generalize Pg.run _ s = R at hG ⊢
 simp only [Stk.pop, Stk.popIn, Pg.bind_assoc, Pg.ite_bind, Pg.pure_bind] at hG
 refine zep en47 fn47 rfl rfl rfl ?_
 refine zyr ?_
 repeat' first|(refine zap rfl ?_;first|refine zar (fun eb => ?_)|refine zaq (cs := [_, _, _]) rfl (fun nb => ?_))|refine zp ?_|refine zyn ?_
 refine zeb [1] rfl ?_
 refine zyr ?_
 repeat' first|(refine zap rfl ?_;first|refine zcd rfl rfl ?_|refine zdk [0] hG (markG w0 p) rfl rfl rfl zdj (fun m s hG => ?_))|refine zp ?_|refine zyn ?_
 refine zyr ?_
 repeat' first|(refine zap rfl ?_;first|refine zdu rfl rfl ?_|refine zdk [0] hG (getG w0 p _) rfl rfl rfl zdj (fun a s hG => ?_))|refine zp ?_|refine zyn ?_
 by_cases ha : a = 0
 · subst ha
   rw [if_pos rfl] at hG
   refine zyr ?_
   repeat' first|(refine zap rfl ?_;refine zbc rfl rfl (by omega) ?_)|refine zp ?_|refine zyn ?_
   refine zci rfl ?_
   refine zyr ?_
   repeat' first|(refine zap rfl ?_;refine zae 1 rfl rfl rfl rfl rfl rfl rfl ?_)|refine zp ?_|refine zyn ?_
   exact zeg (stPop_fin w0 p eb m R (0, 8) s _ rfl rfl hG)
 rw [if_neg ha] at hG
 have kn := node_spec w0 P hP a
 cases hN : P.node a with
 | false =>
   rw [hN, if_neg (by decide)] at hG
   rw [hN] at kn
   refine zyr ?_
   repeat' first|(refine zap rfl ?_;refine zbd rfl rfl (by omega) ?_)|refine zp ?_|refine zyn ?_
   refine zcj rfl ?_
   refine zyr ?_
   repeat' first|(refine zap rfl ?_;refine zah [] kn rfl rfl rfl zdj rfl ?_)|refine zp ?_|refine zyl 0 rfl ?_|refine zyn ?_
   refine zyr ?_
   repeat' first|(refine zap rfl ?_;refine zbx rfl ?_)|refine zp ?_|refine zyn ?_
   refine zci rfl ?_
   refine zyr ?_
   repeat' first|(refine zap rfl ?_;refine zae 1 rfl rfl rfl rfl rfl rfl rfl ?_)|refine zp ?_|refine zyn ?_
   exact zeg (stPop_fin w0 p eb m R (0, 24) s _ rfl rfl hG)
 | true =>
   rw [hN, if_pos rfl] at hG
   rw [hN] at kn
   refine zyr ?_
   repeat' first|(refine zap rfl ?_;refine zbd rfl rfl (by omega) ?_)|refine zp ?_|refine zyn ?_
   refine zcj rfl ?_
   refine zyr ?_
   repeat' first|(refine zap rfl ?_;refine zah [] kn rfl rfl rfl zdj rfl ?_)|refine zp ?_|refine zyl 0 rfl ?_|refine zyn ?_
   refine zyr ?_
   repeat' first|(refine zap rfl ?_;refine zbx rfl ?_)|refine zp ?_|refine zyn ?_
   refine zcj rfl ?_
   refine zyr ?_
   repeat' first|(refine zap rfl ?_;first|refine zdu rfl rfl ?_|refine zdk [0] hG (getG w0 p _) rfl rfl rfl zdj (fun x s hG => ?_))|refine zp ?_|refine zyn ?_
   refine zyr ?_
   repeat' first|(refine zap rfl ?_;refine zdk [0] hG (giveG w0 p P hP a) rfl rfl rfl zdj (fun e s hG => ?_))|refine zp ?_|refine zyl 0 rfl ?_|refine zyn ?_
   by_cases hE : e = 0
   rotate_left
   · rw [if_pos hE] at hG
     refine zyr ?_
     repeat' first|(refine zap rfl ?_;refine zbe rfl rfl (by omega) ?_)|refine zp ?_|refine zyn ?_
     refine zci rfl ?_
     refine zyr ?_
     repeat' first|(refine zap rfl ?_;refine zae 1 rfl rfl rfl rfl rfl rfl rfl ?_)|refine zp ?_|refine zyn ?_
     exact zeg (stPop_fin w0 p eb m R (0, e) s _ rfl rfl hG)
   subst hE
   rw [if_neg (fun q => q rfl)] at hG
   refine zyr ?_
   repeat' first|(refine zap rfl ?_;refine zbf rfl rfl (by omega) ?_)|refine zp ?_|refine zyn ?_
   refine zcj rfl ?_
   refine zyr ?_
   repeat' first|(refine zap rfl ?_;first|refine zdu rfl rfl ?_|refine zdk [0] hG (putG w0 p _ _) rfl rfl rfl zdj (fun u s hG => ?_))|refine zp ?_|refine zyn ?_
   refine zyr ?_
   repeat' first|(refine zap rfl ?_;refine zdk [0] hG (stMore w0 p _ _) rfl rfl rfl zdj (fun u s hG => ?_))|refine zp ?_|refine zyn ?_
   refine zyr ?_
   repeat' first|(refine zap rfl ?_;refine zae 1 rfl rfl rfl rfl rfl rfl rfl ?_)|refine zp ?_|refine zyn ?_
   exact zeg (stPop_fin w0 p eb m R (_, 0) s _ rfl rfl hG)
theorem dqUndo (p : Nat) (s : Sp) (m : Nat) (eb : Nat) (e : Int) : FnD PP w0 [] 117 [spP p, .int .i64 m, .pointer (some ⟨eb, 0, none⟩)] [SpaceA p s, erV eb e]
    fun v Γ' => v = .tuple #[] ∧ Γ' = [SpaceA p (if e ≠ 0 then s.back m else s), erV eb e] := by
  refine fnD_of_run en117 fn117 rfl rfl rfl ?_
 
  repeat' first|refine zck ?_|refine zyq ?_|(refine zap rfl ?_;first|refine zab 1 rfl rfl rfl ?_|refine zbp rfl rfl ?_)|refine zp ?_|refine zch ?_
  refine zed rfl (fun hE => ?_) (fun hE => ?_)
  · repeat' first|refine zyq ?_|(refine zap rfl ?_;refine zah [0] (back_spec w0 p s m) rfl rfl rfl zdj rfl ?_)|refine zp ?_|refine zch ?_
    refine run_nil ⟨rfl, ends_none rfl ?_⟩
    rw [if_pos hE]; exact ⟨rfl, rfl⟩
  · repeat' first|refine zcm ?_|(refine zap rfl ?_;first|refine zaj rfl ?_|refine zak rfl ?_|refine zal rfl ?_|refine zam rfl rfl (fun _ => ?_) (fun _ => ?_))|refine zch ?_
    refine run_nil ⟨rfl, ends_none rfl ?_⟩
    rw [if_neg hE]; exact ⟨rfl, rfl⟩
def dqD (p eb : Nat) (m : Nat) : Deferred := { target := .fn (.func 117) #[], args := List.toArray [spP p, .int .i64 m, .pointer (some ⟨eb, 0, none⟩)] }
theorem dqSide (b : Bool) : FnE PP w0 [] 118 [.bool b] [] (.int .i64 (Dq.side b)) [] := by
 cases b <;>
 · refine zep en118 fn118 rfl rfl rfl ?_
   repeat' first|refine zck ?_|refine zcm ?_|refine zyq ?_|refine zp ?_|refine zch ?_|refine zci rfl ?_|refine zcj rfl ?_
   exact zej rfl ⟨rfl, rfl⟩
theorem dqIs (P : Pl) (hP : P.Ok) (n : Int) : FnE PP w0 [] 119 [poolV P, .int .i64 n] [] (.bool (P.node n)) [] := by
 refine zep en119 fn119 rfl rfl rfl ?_
 refine zyr ?_
 repeat' first|(refine zap rfl ?_;refine zaq (cs := [_, _, _]) rfl (fun nb => ?_))|refine zp ?_|refine zyn ?_
 refine zeb [0] rfl ?_
 repeat' first|refine zck ?_|refine zyq ?_|(refine zap rfl ?_;refine zah [] (node_spec w0 P hP _) rfl rfl rfl zdj rfl ?_)|refine zp ?_|refine zyl 0 rfl ?_|refine zch ?_
 exact zej rfl ⟨rfl, rfl⟩
theorem dqMore (p : Nat) (x n : Int) : FnG w0 [] 120 [spP p, .int .i64 x, .int .i64 n] p (Dq.more x n) encU := by
 intro s hS
 have hG := At.start hS
 generalize Pg.run _ s = R at hG ⊢
 unfold Dq.more at hG
 refine zep en120 fn120 rfl rfl rfl ?_
 repeat' first|refine zyq ?_|(refine zap rfl ?_;first|refine zdu rfl rfl ?_|refine zdk [0] hG (getG w0 p _) rfl rfl rfl zdj (fun x s hG => ?_)|refine zdk [0] hG (putG w0 p _ _) rfl rfl rfl zdj (fun u s hG => ?_))|refine zp ?_|refine zch ?_
 rw [hG.done]
 refine end_tmp0 rfl ⟨rfl, rfl⟩
theorem dqLen (p : Nat) (r : Int) : FnG w0 [] 57 [spP p, .int .i64 r] p (Dq.len r) (.int .i64) := by
 intro s hS
 have hG := (At.start hS).to (Pg.bind_pure _).symm
 generalize Pg.run _ s = R at hG ⊢
 unfold Dq.len at hG
 refine zep en57 fn57 rfl rfl rfl ?_
 repeat' first|refine zck ?_|refine zyq ?_|(refine zap rfl ?_;first|refine zdu rfl rfl ?_|refine zdk [0] hG (getG w0 p _) rfl rfl rfl zdj (fun x s hG => ?_))|refine zp ?_|refine zch ?_
 rw [hG.done]
 exact zej rfl ⟨rfl, rfl⟩
theorem dqPeek (p : Nat) (r : Int) (b : Bool) : FnG w0 [] 56 [spP p, .int .i64 r, .bool b] p (Dq.peek r b) encI2 := by
 intro s hS
 have hG := At.start hS
 generalize Pg.run _ s = R at hG ⊢
 unfold Dq.peek at hG
 refine zep en56 fn56 rfl rfl rfl ?_
 repeat' first|refine zck ?_|refine zyq ?_|(refine zap rfl ?_;first|refine zdu rfl rfl ?_|refine zah [] (dqSide w0 _) rfl rfl rfl zdj rfl ?_|refine zdk [0] hG (getG w0 p _) rfl rfl rfl zdj (fun x s hG => ?_)|refine zbo rfl rfl ?_)|refine zp ?_|refine zch ?_
 refine zed rfl (fun hE => ?_) (fun hE => ?_)
 · rw [if_pos hE] at hG
   rw [hG.done]
   repeat' first|refine zck ?_|refine zyq ?_|refine zp ?_|refine zch ?_
   exact zei rfl ⟨rfl, rfl⟩
 · rw [if_neg hE] at hG
   repeat' first|refine zck ?_|refine zcm ?_|refine zyq ?_|(refine zap rfl ?_;first|refine zdu rfl rfl ?_|refine zdk [0] hG (getG w0 p _) rfl rfl rfl zdj (fun x s hG => ?_))|refine zp ?_|refine zch ?_
   rw [hG.done]
   exact zei rfl ⟨rfl, rfl⟩
theorem dqPush_fin (p eb m : Nat) (R : Int × Sp) (e : Int) (s : Sp) (ρ : Env) (h8 : ρ 10 = .pointer (some ⟨eb, 0, none⟩)) (hG : At R (Qu.after m e) s) :
   LeavesS PP w0 [] Tryz.f54 ρ [dqD p eb m] [SpaceA p s, erV eb e] (fun v Γ => v = .int .i64 R.1 ∧ Γ = [SpaceA p R.2]) := by
 refine leaves_defer1 [0, 0] (dqUndo w0 p s m eb e) rfl rfl zdj ?_
 refine zek (zel [0] rfl (zem rfl (zeo 1 h8 rfl rfl) ?_))
 refine ⟨rfl, ?_⟩
 unfold Qu.after at hG
 by_cases hE : e ≠ 0
 · rw [if_pos hE] at hG
   rw [hG.step.2.done, if_pos hE]
   exact ⟨rfl, rfl⟩
 · rw [if_neg hE] at hG
   rw [hG.done, if_neg hE]
   exact ⟨rfl, rfl⟩
theorem dqPop_fin (p eb m : Nat) (R : (Int × Int) × Sp) (q : Int × Int) (s : Sp) (ρ : Env) (h6 : ρ 8 = .int .i64 q.1) (h7 : ρ 9 = .pointer (some ⟨eb, 0, none⟩)) (hG : At R (Qu.after2 m q) s) :
   LeavesS PP w0 [] Tryz.f55 ρ [dqD p eb m] [SpaceA p s, erV eb q.2] (fun v Γ => v = encI2 R.1 ∧ Γ = [SpaceA p R.2]) := by
 refine leaves_defer1 [0, 0] (dqUndo w0 p s m eb q.2) rfl rfl zdj ?_
 refine zek (zel [0] rfl (zen rfl h6 (zeo 1 h7 rfl rfl) ?_))
 refine ⟨rfl, ?_⟩
 unfold Qu.after2 at hG
 by_cases hE : q.2 ≠ 0
 · rw [if_pos hE] at hG
   rw [hG.step.2.done, if_pos hE]
   exact ⟨rfl, rfl⟩
 · rw [if_neg hE] at hG
   rw [hG.done, if_neg hE]
   exact ⟨rfl, rfl⟩
theorem dqPop (p : Nat) (P : Pl) (hP : P.Ok) (r : Int) (b : Bool) : FnG w0 [] 55 [spP p, poolV P, .int .i64 r, .bool b] p (Dq.pop P r b) encI2 := by
 intro s hS
 have hG := At.start hS
 generalize Pg.run _ s = R at hG ⊢
 simp only [Dq.pop, Dq.popIn, Pg.bind_assoc, Pg.ite_bind, Pg.pure_bind] at hG
 refine zep en55 fn55 rfl rfl rfl ?_
 refine zyr ?_
 repeat' first|(refine zap rfl ?_;first|refine zar (fun eb => ?_)|refine zaq (cs := [_, _, _]) rfl (fun nb => ?_))|refine zp ?_|refine zyn ?_
 refine zeb [1] rfl ?_
 refine zyr ?_
 repeat' first|(refine zap rfl ?_;first|refine zcd rfl rfl ?_|refine zdk [0] hG (markG w0 p) rfl rfl rfl zdj (fun m s hG => ?_))|refine zp ?_|refine zyn ?_
 refine zyr ?_
 repeat' first|(refine zap rfl ?_;first|refine zbx rfl ?_|refine zah [] (dqSide w0 _) rfl rfl rfl zdj rfl ?_)|refine zp ?_|refine zyn ?_
 refine zyr ?_
 repeat' first|(refine zap rfl ?_;first|refine zdu rfl rfl ?_|refine zdk [0] hG (getG w0 p _) rfl rfl rfl zdj (fun a s hG => ?_))|refine zp ?_|refine zyn ?_
 by_cases ha : a = 0
 · subst ha
   rw [if_pos rfl] at hG
   refine zyr ?_
   repeat' first|(refine zap rfl ?_;refine zbc rfl rfl (by omega) ?_)|refine zp ?_|refine zyn ?_
   refine zci rfl ?_
   refine zyr ?_
   repeat' first|(refine zap rfl ?_;refine zae 1 rfl rfl rfl rfl rfl rfl rfl ?_)|refine zp ?_|refine zyn ?_
   exact zeg (dqPop_fin w0 p eb m R (0, 8) s _ rfl rfl hG)
 rw [if_neg ha] at hG
 have kn := dqIs w0 P hP a
 cases hN : P.node a with
 | false =>
   rw [hN, if_neg (by decide)] at hG
   rw [hN] at kn
   refine zyr ?_
   repeat' first|(refine zap rfl ?_;refine zbd rfl rfl (by omega) ?_)|refine zp ?_|refine zyn ?_
   refine zcj rfl ?_
   refine zyr ?_
   repeat' first|(refine zap rfl ?_;first|refine zbx rfl ?_|refine zah [] kn rfl rfl rfl zdj rfl ?_)|refine zp ?_|refine zyl 0 rfl ?_|refine zyn ?_
   refine zci rfl ?_
   refine zyr ?_
   repeat' first|(refine zap rfl ?_;refine zae 1 rfl rfl rfl rfl rfl rfl rfl ?_)|refine zp ?_|refine zyn ?_
   exact zeg (dqPop_fin w0 p eb m R (0, 24) s _ rfl rfl hG)
 | true =>
   rw [hN, if_pos rfl] at hG
   rw [hN] at kn
   refine zyr ?_
   repeat' first|(refine zap rfl ?_;refine zbd rfl rfl (by omega) ?_)|refine zp ?_|refine zyn ?_
   refine zcj rfl ?_
   refine zyr ?_
   repeat' first|(refine zap rfl ?_;first|refine zbx rfl ?_|refine zah [] kn rfl rfl rfl zdj rfl ?_)|refine zp ?_|refine zyl 0 rfl ?_|refine zyn ?_
   refine zcj rfl ?_
   refine zyr ?_
   repeat' refine zp ?_
   all_goals refine zyn ?_
   refine zyr ?_
   repeat' first|(refine zap rfl ?_;first|refine zdu rfl rfl ?_|refine zdk [0] hG (getG w0 p _) rfl rfl rfl zdj (fun n s hG => ?_))|refine zp ?_|refine zyn ?_
   by_cases hn : n = 0
   · subst hn
     rw [if_pos rfl] at hG
     simp only [Dq.fin, Pg.bind_assoc, Pg.ite_bind, Pg.pure_bind] at hG
     refine zyr ?_
     repeat' first|(refine zap rfl ?_;refine zbc rfl rfl (by omega) ?_)|refine zp ?_|refine zyn ?_
     refine zci rfl ?_
     refine zyr ?_
     repeat' first|(refine zap rfl ?_;first|refine zdu rfl rfl ?_|refine zdk [0] hG (putG w0 p _ _) rfl rfl rfl zdj (fun u s hG => ?_))|refine zp ?_|refine zyn ?_
     refine zyr ?_
     repeat' first|(refine zap rfl ?_;first|refine zdu rfl rfl ?_|refine zdk [0] hG (putG w0 p _ _) rfl rfl rfl zdj (fun u s hG => ?_))|refine zp ?_|refine zyn ?_
     refine zyr ?_
     repeat' first|(refine zap rfl ?_;first|refine zdu rfl rfl ?_|refine zdk [0] hG (dqMore w0 p _ _) rfl rfl rfl zdj (fun u s hG => ?_))|refine zp ?_|refine zyn ?_
     refine zyr ?_
     repeat' first|(refine zap rfl ?_;first|refine zdu rfl rfl ?_|refine zdk [0] hG (dqMore w0 p _ _) rfl rfl rfl zdj (fun u s hG => ?_))|refine zp ?_|refine zyn ?_
     refine zyr ?_
     repeat' first|(refine zap rfl ?_;first|refine zdu rfl rfl ?_|refine zdk [0] hG (getG w0 p _) rfl rfl rfl zdj (fun x s hG => ?_))|refine zp ?_|refine zyn ?_
     refine zyr ?_
     repeat' first|(refine zap rfl ?_;refine zdk [0] hG (giveG w0 p P hP a) rfl rfl rfl zdj (fun e s hG => ?_))|refine zp ?_|refine zyl 0 rfl ?_|refine zyn ?_
     by_cases hE : e = 0
     · subst hE
       rw [if_neg (fun q => q rfl)] at hG
       refine zyr ?_
       repeat' first|(refine zap rfl ?_;refine zbf rfl rfl (by omega) ?_)|refine zp ?_|refine zyn ?_
       refine zcj rfl ?_
       refine zyr ?_
       repeat' first|(refine zap rfl ?_;refine zae 1 rfl rfl rfl rfl rfl rfl rfl ?_)|refine zp ?_|refine zyn ?_
       exact zeg (dqPop_fin w0 p eb m R (x, 0) s _ rfl rfl hG)
     · rw [if_pos hE] at hG
       refine zyr ?_
       repeat' first|(refine zap rfl ?_;refine zbe rfl rfl (by omega) ?_)|refine zp ?_|refine zyn ?_
       refine zci rfl ?_
       refine zyr ?_
       repeat' first|(refine zap rfl ?_;refine zae 1 rfl rfl rfl rfl rfl rfl rfl ?_)|refine zp ?_|refine zyn ?_
       exact zeg (dqPop_fin w0 p eb m R (0, e) s _ rfl rfl hG)
   rw [if_neg hn] at hG
   have kn2 := dqIs w0 P hP n
   cases hN2 : P.node n with
   | false =>
     rw [hN2, if_neg (by decide)] at hG
     rw [hN2] at kn2
     refine zyr ?_
     repeat' first|(refine zap rfl ?_;refine zbd rfl rfl (by omega) ?_)|refine zp ?_|refine zyn ?_
     refine zcj rfl ?_
     refine zyr ?_
     repeat' first|(refine zap rfl ?_;first|refine zbx rfl ?_|refine zah [] kn2 rfl rfl rfl zdj rfl ?_)|refine zp ?_|refine zyl 0 rfl ?_|refine zyn ?_
     refine zci rfl ?_
     refine zyr ?_
     repeat' first|(refine zap rfl ?_;refine zae 1 rfl rfl rfl rfl rfl rfl rfl ?_)|refine zp ?_|refine zyn ?_
     exact zeg (dqPop_fin w0 p eb m R (0, 24) s _ rfl rfl hG)
   | true =>
     rw [hN2, if_pos rfl] at hG
     rw [hN2] at kn2
     simp only [Dq.fin, Pg.bind_assoc, Pg.ite_bind, Pg.pure_bind] at hG
     refine zyr ?_
     repeat' first|(refine zap rfl ?_;refine zbd rfl rfl (by omega) ?_)|refine zp ?_|refine zyn ?_
     refine zcj rfl ?_
     refine zyr ?_
     repeat' first|(refine zap rfl ?_;first|refine zbx rfl ?_|refine zah [] kn2 rfl rfl rfl zdj rfl ?_)|refine zp ?_|refine zyl 0 rfl ?_|refine zyn ?_
     refine zcj rfl ?_
     refine zyr ?_
     repeat' first|(refine zap rfl ?_;first|refine zdu rfl rfl ?_|refine zdk [0] hG (putG w0 p _ _) rfl rfl rfl zdj (fun u s hG => ?_))|refine zp ?_|refine zyn ?_
     refine zyr ?_
     repeat' first|(refine zap rfl ?_;first|refine zdu rfl rfl ?_|refine zdk [0] hG (putG w0 p _ _) rfl rfl rfl zdj (fun u s hG => ?_))|refine zp ?_|refine zyn ?_
     refine zyr ?_
     repeat' first|(refine zap rfl ?_;first|refine zdu rfl rfl ?_|refine zdk [0] hG (dqMore w0 p _ _) rfl rfl rfl zdj (fun u s hG => ?_))|refine zp ?_|refine zyn ?_
     refine zyr ?_
     repeat' first|(refine zap rfl ?_;first|refine zdu rfl rfl ?_|refine zdk [0] hG (dqMore w0 p _ _) rfl rfl rfl zdj (fun u s hG => ?_))|refine zp ?_|refine zyn ?_
     refine zyr ?_
     repeat' first|(refine zap rfl ?_;first|refine zdu rfl rfl ?_|refine zdk [0] hG (getG w0 p _) rfl rfl rfl zdj (fun x s hG => ?_))|refine zp ?_|refine zyn ?_
     refine zyr ?_
     repeat' first|(refine zap rfl ?_;refine zdk [0] hG (giveG w0 p P hP a) rfl rfl rfl zdj (fun e s hG => ?_))|refine zp ?_|refine zyl 0 rfl ?_|refine zyn ?_
     by_cases hE : e = 0
     · subst hE
       rw [if_neg (fun q => q rfl)] at hG
       refine zyr ?_
       repeat' first|(refine zap rfl ?_;refine zbf rfl rfl (by omega) ?_)|refine zp ?_|refine zyn ?_
       refine zcj rfl ?_
       refine zyr ?_
       repeat' first|(refine zap rfl ?_;refine zae 1 rfl rfl rfl rfl rfl rfl rfl ?_)|refine zp ?_|refine zyn ?_
       exact zeg (dqPop_fin w0 p eb m R (x, 0) s _ rfl rfl hG)
     · rw [if_pos hE] at hG
       refine zyr ?_
       repeat' first|(refine zap rfl ?_;refine zbe rfl rfl (by omega) ?_)|refine zp ?_|refine zyn ?_
       refine zci rfl ?_
       refine zyr ?_
       repeat' first|(refine zap rfl ?_;refine zae 1 rfl rfl rfl rfl rfl rfl rfl ?_)|refine zp ?_|refine zyn ?_
       exact zeg (dqPop_fin w0 p eb m R (0, e) s _ rfl rfl hG)
end Go.Proofs.YtgdhcgnmffgkiaaGreatDoor
