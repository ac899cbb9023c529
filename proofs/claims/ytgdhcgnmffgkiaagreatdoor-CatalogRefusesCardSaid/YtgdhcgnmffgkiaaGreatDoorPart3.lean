import Derived.Test.YtgdhcgnmffgkiaaGreatDoorPart2
/- Own work: lemmas of this claim. -/
namespace Go.Proofs.YtgdhcgnmffgkiaaGreatDoor
variable (w0 : World)
open Go.Vc Sim
theorem takeG (p : Nat) (P : Pl) (hP : P.Ok) : FnG w0 [] 111 [poolV P, spP p] p P.takeP encI2 := by
 obtain ⟨_, h1, h2, h3, h4, h5, h6⟩ := id hP
 intro s hF; have hG := At.start hF; generalize Pg.run _ s = R at hG ⊢
 refine zep en111 fn111 rfl rfl rfl ?_
 refine zyr ?_
 repeat' first|(refine zap rfl ?_;refine zaq (cs := [_, _, _]) rfl (fun nb => ?_))|refine zp ?_|refine zyn ?_
 refine zeb [1] rfl ?_
 repeat' first|refine zck ?_|refine zcm ?_|refine zyq ?_|(refine zap rfl ?_;first|refine zah [] (check_spec w0 P hP) rfl rfl rfl zdj rfl ?_|refine zdk [0] hG (getG w0 p _) rfl rfl rfl zdj (fun x s hG => ?_)|refine zbp rfl rfl ?_)|refine zp ?_|refine zyl 0 rfl ?_|refine zyf rfl ?_|refine zch ?_|refine zcj rfl ?_
 refine zed rfl (fun hE => ?_) (fun hE => ?_)
 · simp only [if_pos hE] at hG
   repeat' first|refine zck ?_|refine zyq ?_|(refine zap rfl ?_;first|refine zah [] (node_spec w0 P hP _) rfl rfl rfl zdj rfl ?_|refine zbx rfl ?_)|refine zp ?_|refine zyl 0 rfl ?_|refine zch ?_
   refine zee rfl (fun hN => ?_) (fun hN => ?_)
   · have hN : P.node x = false := by simpa using hN
     simp only [hN, Bool.false_eq_true, if_false] at hG
     repeat' first|refine zck ?_|refine zyq ?_|refine zp ?_|refine zch ?_
     rw [hG.done]
     exact zei rfl ⟨rfl, rfl⟩
   · have hN : P.node x = true := by simpa using hN
     simp only [hN, if_true] at hG
     repeat' first|refine zck ?_|refine zcm ?_|refine zyq ?_|(refine zap rfl ?_;first|refine zdk [0] hG (getG w0 p _) rfl rfl rfl zdj (fun x s hG => ?_)|refine zdk [0] hG (putG w0 p _ _) rfl rfl rfl zdj (fun x s hG => ?_)|refine zdk [0] hG (addG w0 p P hP _ _ (by decide)) rfl rfl rfl zdj (fun x s hG => ?_))|refine zp ?_|refine zyl 0 rfl ?_|refine zyf rfl ?_|refine zch ?_
     rw [hG.done]
     exact zei rfl ⟨rfl, rfl⟩
 · simp only [if_neg hE] at hG
   repeat' first|refine zck ?_|refine zcm ?_|refine zyq ?_|(refine zap rfl ?_;first|refine zaj rfl ?_|refine zak rfl ?_|refine zam rfl rfl (fun _ => ?_) (fun _ => ?_)|refine zdk [0] hG (getG w0 p _) rfl rfl rfl zdj (fun x s hG => ?_)|refine zau rfl rfl (by omega) ?_|refine zbq rfl rfl ?_|refine zbt rfl rfl ?_|refine zbu rfl ?_|refine zbv rfl ?_)|refine zp ?_|refine zyl 0 rfl ?_|refine zyf rfl ?_|refine zch ?_|refine zci rfl ?_|refine zed rfl (fun _ => ?_) (fun _ => ?_)
   all_goals first|rw [if_pos (by omega)] at hG|rw [if_neg (by omega)] at hG
   · rw [hG.done]
     exact zei rfl ⟨rfl, rfl⟩
   · rw [hG.done]
     exact zei rfl ⟨rfl, rfl⟩
   · repeat' first|refine zck ?_|refine zyq ?_|(refine zap rfl ?_;first|refine zdk [0] hG (putG w0 p _ _) rfl rfl rfl zdj (fun x s hG => ?_)|refine zau rfl rfl (by omega) ?_|refine zaw rfl rfl (by omega) ?_)|refine zp ?_|refine zyl 0 rfl ?_|refine zyf rfl ?_|refine zch ?_
     rw [hG.done]
     exact zei rfl ⟨rfl, rfl⟩
theorem giveG (p : Nat) (P : Pl) (hP : P.Ok) (a : Int) : FnG w0 [] 114 [poolV P, spP p, .int .i64 a] p (P.giveP a) (.int .i64) := by
 obtain ⟨_, h1, h2, h3, h4, h5, h6⟩ := id hP
 intro s hF; have hG := At.start hF; generalize Pg.run _ s = R at hG ⊢
 refine zep en114 fn114 rfl rfl rfl ?_
 refine zyr ?_
 repeat' first|(refine zap rfl ?_;refine zaq (cs := [_, _, _]) rfl (fun nb => ?_))|refine zp ?_|refine zyn ?_
 refine zeb [1] rfl ?_
 repeat' first|refine zck ?_|refine zyq ?_|(refine zap rfl ?_;first|refine zah [] (node_spec w0 P hP _) rfl rfl rfl zdj rfl ?_|refine zbx rfl ?_)|refine zp ?_|refine zyl 0 rfl ?_|refine zch ?_
 refine zee rfl (fun hE => ?_) (fun hE => ?_)
 · have hE : P.node a = false := by simpa using hE
   simp only [Pl.giveP, hE, Bool.false_eq_true, if_false] at hG
   repeat' first|refine zck ?_|refine zyq ?_|refine zp ?_|refine zch ?_
   rw [hG.done]
   exact zej rfl ⟨rfl, rfl⟩
 · have hE : P.node a = true := by simpa using hE
   simp only [Pl.giveP, hE, if_true] at hG
   repeat' first|refine zck ?_|refine zcm ?_|refine zyq ?_|(refine zap rfl ?_;first|refine zdk [0] hG (getG w0 p _) rfl rfl rfl zdj (fun x s hG => ?_)|refine zdk [0] hG (putG w0 p _ _) rfl rfl rfl zdj (fun x s hG => ?_)|refine zdk [0] hG (addG w0 p P hP _ _ (by decide)) rfl rfl rfl zdj (fun x s hG => ?_))|refine zp ?_|refine zyl 0 rfl ?_|refine zyf rfl ?_|refine zch ?_
   rw [hG.done]
   exact zej rfl ⟨rfl, rfl⟩
end Go.Proofs.YtgdhcgnmffgkiaaGreatDoor
namespace Sim
open Go Go.Vc
def Qu.after (m : Nat) (e : Int) : Pg Int := if e ≠ 0 then do
   let _ ← Pg.bk m
   pure e
 else pure e
def Qu.tail (r v a : Int) : Pg Int := do
 let _ ← Pg.pt (w64 (a + 0)) v
 let _ ← Pg.pt (w64 (a + 1)) 0
 let _ ← Pg.pt (w64 (r + 1)) a
 let h ← Pg.gt (w64 (r + 7))
 let _ ← Pg.pt (w64 (r + 7)) (w64 (h + 1))
 pure 0
def Qu.putIn (P : Pl) (r v : Int) : Pg Int := do
 let t ← P.takeP
 if t.2 ≠ 0 then pure t.2 else do
   let e ← Pg.gt (w64 (r + 1))
   if e = 0 then do
     let _ ← Pg.pt (w64 (r + 0)) t.1
     Qu.tail r v t.1
   else if P.node e = true then do
     let _ ← Pg.pt (w64 (e + 1)) t.1
     Qu.tail r v t.1
   else pure 24
def Qu.put (P : Pl) (r v : Int) : Pg Int := do
 let m ← Pg.mk
 let e ← Qu.putIn P r v
 Qu.after m e
def Qu.takeIn (P : Pl) (r : Int) : Pg (Int × Int) := do
 let a ← Pg.gt (w64 (r + 0))
 if a = 0 then pure (0, 8) else
 if P.node a = true then do
   let v ← Pg.gt (w64 (a + 0))
   let b ← Pg.gt (w64 (a + 1))
   let e ← P.giveP a
   if e ≠ 0 then pure (0, e) else do
     let _ ← Pg.pt (w64 (r + 0)) b
     if b = 0 then do
       let _ ← Pg.pt (w64 (r + 1)) 0
       let h ← Pg.gt (w64 (r + 7))
       let _ ← Pg.pt (w64 (r + 7)) (w64 (h - 1))
       pure (v, 0)
     else do
       let h ← Pg.gt (w64 (r + 7))
       let _ ← Pg.pt (w64 (r + 7)) (w64 (h - 1))
       pure (v, 0)
 else pure (0, 24)
def Qu.after2 (m : Nat) (q : Int × Int) : Pg (Int × Int) := if q.2 ≠ 0 then do
   let _ ← Pg.bk m
   pure q
 else pure q
def Qu.take (P : Pl) (r : Int) : Pg (Int × Int) := do
 let m ← Pg.mk
 let e ← Qu.takeIn P r
 Qu.after2 m e
def Qu.first (r : Int) : Pg (Int × Int) := do
 let a ← Pg.gt (w64 (r + 0))
 if a = 0 then pure (0, 8) else do
   let v ← Pg.gt (w64 (a + 0))
   pure (v, 0)
def Qu.len (r : Int) : Pg Int := Pg.gt (w64 (r + 7))
namespace Qu
open Pg
theorem bd_after (m : Nat) (e : Int) : Bd 0 (after m e) := by unfold after; repeat' first|exact bd_pure _|with_reducible refine bd_ite ?_ ?_|with_reducible refine bd_then (bd_bk0 _) ?_ (by decide) | intro _
theorem bd_after2 (m : Nat) (e : Int × Int) : Bd 0 (after2 m e) := by unfold after2; repeat' first|exact bd_pure _|with_reducible refine bd_ite ?_ ?_|with_reducible refine bd_then (bd_bk0 _) ?_ (by decide) | intro _
theorem bd_tail (r v a : Int) : Bd 4 (tail r v a) := by unfold tail; repeat' first|exact bd_pure _|with_reducible refine bd_then (bd_gt0 _) ?_ (by decide)|with_reducible refine bd_then (bd_pt _ _) ?_ (by decide) | intro _
theorem bd_putIn (P : Pl) (r v : Int) : Bd 7 (putIn P r v) := by unfold putIn; repeat' first|with_reducible refine bd_then (bd_takeP _) ?_ (by decide)|exact (bd_tail _ _ _).mono (by decide)|exact bd_pure _|with_reducible refine bd_ite ?_ ?_|with_reducible refine bd_then (bd_gt0 _) ?_ (by decide)|with_reducible refine bd_then (bd_pt _ _) ?_ (by decide) | intro _
theorem bd_put (P : Pl) (r v : Int) : Bd 7 (put P r v) := by unfold put; repeat' first|with_reducible refine bd_then (bd_putIn _ _ _) ?_ (by decide)|exact (bd_after _ _).mono (by decide)|with_reducible refine bd_then bd_mk0 ?_ (by decide) | intro _
theorem bd_takeIn (P : Pl) (r : Int) : Bd 6 (takeIn P r) := by unfold takeIn; repeat' first|with_reducible refine bd_then (bd_giveP _ _) ?_ (by decide)|exact bd_pure _|with_reducible refine bd_ite ?_ ?_|with_reducible refine bd_then (bd_gt0 _) ?_ (by decide)|with_reducible refine bd_then (bd_pt _ _) ?_ (by decide) | intro _
theorem bd_take (P : Pl) (r : Int) : Bd 6 (take P r) := by unfold take; repeat' first|with_reducible refine bd_then (bd_takeIn _ _) ?_ (by decide)|exact (bd_after2 _ _).mono (by decide)|with_reducible refine bd_then bd_mk0 ?_ (by decide) | intro _
theorem bd_first (r : Int) : Bd 0 (first r) := by unfold first; repeat' first|exact bd_pure _|with_reducible refine bd_ite ?_ ?_|with_reducible refine bd_then (bd_gt0 _) ?_ (by decide) | intro _
theorem bd_len (r : Int) : Bd 0 (len r) := bd_gt0 _
end Qu
end Sim
namespace Go.Proofs.YtgdhcgnmffgkiaaGreatDoor
variable (w0 : World)
open Go.Vc Sim
set_option maxHeartbeats 4000000
abbrev erV (eb : Nat) (e : Int) : Asn := pt eb (.cells (List.toArray [.int .i64 e]) 39 (0, 0))
theorem quUndo (p : Nat) (s : Sp) (m : Nat) (eb : Nat) (e : Int) : FnD PP w0 [] 115 [spP p, .int .i64 m, .pointer (some ⟨eb, 0, none⟩)] [SpaceA p s, erV eb e]
    fun v Γ' => v = .tuple #[] ∧ Γ' = [SpaceA p (if e ≠ 0 then s.back m else s), erV eb e] := by
  refine fnD_of_run en115 fn115 rfl rfl rfl ?_
 
  repeat' first|refine zck ?_|refine zyq ?_|(refine zap rfl ?_;first|refine zab 1 rfl rfl rfl ?_|refine zbp rfl rfl ?_)|refine zp ?_|refine zch ?_
  refine zed rfl (fun hE => ?_) (fun hE => ?_)
  · repeat' first|refine zyq ?_|(refine zap rfl ?_;refine zah [0] (back_spec w0 p s m) rfl rfl rfl zdj rfl ?_)|refine zp ?_|refine zch ?_
    refine run_nil ⟨rfl, ends_none rfl ?_⟩
    rw [if_pos hE]; exact ⟨rfl, rfl⟩
  · repeat' first|refine zcm ?_|(refine zap rfl ?_;first|refine zaj rfl ?_|refine zak rfl ?_|refine zal rfl ?_|refine zam rfl rfl (fun _ => ?_) (fun _ => ?_))|refine zch ?_
    refine run_nil ⟨rfl, ends_none rfl ?_⟩
    rw [if_neg hE]; exact ⟨rfl, rfl⟩
theorem quNode (P : Pl) (hP : P.Ok) (n : Int) : FnE PP w0 [] 116 [poolV P, .int .i64 n] [] (.bool (P.node n)) [] := by
 refine zep en116 fn116 rfl rfl rfl ?_
 refine zyr ?_
 repeat' first|(refine zap rfl ?_;refine zaq (cs := [_, _, _]) rfl (fun nb => ?_))|refine zp ?_|refine zyn ?_
 refine zeb [0] rfl ?_
 repeat' first|refine zck ?_|refine zyq ?_|(refine zap rfl ?_;refine zah [] (node_spec w0 P hP _) rfl rfl rfl zdj rfl ?_)|refine zp ?_|refine zyl 0 rfl ?_|refine zch ?_
 exact zej rfl ⟨rfl, rfl⟩
def quD (p eb : Nat) (m : Nat) : Deferred := { target := .fn (.func 115) #[], args := List.toArray [spP p, .int .i64 m, .pointer (some ⟨eb, 0, none⟩)] }
theorem quLen (p : Nat) (r : Int) : FnG w0 [] 53 [spP p, .int .i64 r] p (Qu.len r) (.int .i64) := by
 intro s hS; have hG := At.start hS; generalize Pg.run _ s = R at hG ⊢
 refine zep en53 fn53 rfl rfl rfl ?_
 unfold Qu.len at hG
 repeat' first|refine zck ?_|refine zyq ?_|(refine zap rfl ?_;first|refine zdu rfl rfl ?_|refine zdk [0] hG (getG w0 p _) rfl rfl rfl zdj (fun x s hG => ?_))|refine zp ?_|refine zch ?_
 rw [hG.done]
 exact zej rfl ⟨rfl, rfl⟩
theorem quFirst (p : Nat) (r : Int) : FnG w0 [] 52 [spP p, .int .i64 r] p (Qu.first r) encI2 := by
 intro s hS; have hG := At.start hS; generalize Pg.run _ s = R at hG ⊢
 refine zep en52 fn52 rfl rfl rfl ?_
 unfold Qu.first at hG
 repeat' first|refine zck ?_|refine zyq ?_|(refine zap rfl ?_;first|refine zdu rfl rfl ?_|refine zdk [0] hG (getG w0 p _) rfl rfl rfl zdj (fun x s hG => ?_)|refine zbo rfl rfl ?_)|refine zp ?_|refine zch ?_
 refine zed rfl (fun hE => ?_) (fun hE => ?_)
 · rw [if_pos hE] at hG
   rw [hG.done]
   repeat' first|refine zck ?_|refine zyq ?_|refine zp ?_|refine zch ?_
   exact zei rfl ⟨rfl, rfl⟩
 · rw [if_neg hE] at hG
   repeat' first|refine zck ?_|refine zcm ?_|refine zyq ?_|(refine zap rfl ?_;first|refine zdu rfl rfl ?_|refine zdk [0] hG (getG w0 p _) rfl rfl rfl zdj (fun x s hG => ?_))|refine zp ?_|refine zch ?_
   rw [hG.done]
   exact zei rfl ⟨rfl, rfl⟩
theorem quPut_fin (p eb m : Nat) (R : Int × Sp) (e : Int) (s : Sp) (ρ : Env) (h8 : ρ 8 = .int .i64 e) (hG : At R (Qu.after m e) s) :
   LeavesS PP w0 [] Tryz.f50 ρ [quD p eb m] [SpaceA p s, erV eb e] (fun v Γ => v = .int .i64 R.1 ∧ Γ = [SpaceA p R.2]) := by
 refine leaves_defer1 [0, 0] (quUndo w0 p s m eb e) rfl rfl zdj ?_
 refine zek (zel [0] rfl (zem rfl h8 ?_))
 refine ⟨rfl, ?_⟩
 unfold Qu.after at hG
 by_cases hE : e ≠ 0
 · rw [if_pos hE] at hG
   rw [hG.step.2.done, if_pos hE]
   exact ⟨rfl, rfl⟩
 · rw [if_neg hE] at hG
   rw [hG.done, if_neg hE]
   exact ⟨rfl, rfl⟩
theorem quPut (p : Nat) (P : Pl) (hP : P.Ok) (r v : Int) : FnG w0 [] 50 [spP p, poolV P, .int .i64 r, .int .i64 v] p (Qu.put P r v) (.int .i64) := by
 intro s hS
 have hG := At.start hS
 generalize Pg.run _ s = R at hG ⊢
 simp only [Qu.put, Qu.putIn, Pg.bind_assoc, Pg.ite_bind, Pg.pure_bind] at hG
 refine zep en50 fn50 rfl rfl rfl ?_
 refine zyr ?_
 repeat' first|(refine zap rfl ?_;refine zaq (cs := [_, _, _]) rfl (fun nb => ?_))|refine zp ?_|refine zyn ?_
 refine zeb [1] rfl ?_
 refine zyr ?_
 repeat' (refine zap rfl ?_;refine zar (fun eb => ?_))
 all_goals refine zyn ?_
 refine zyr ?_
 repeat' first|(refine zap rfl ?_;first|refine zcd rfl rfl ?_|refine zdk [0] hG (markG w0 p) rfl rfl rfl zdj (fun m s hG => ?_))|refine zp ?_|refine zyn ?_
 refine zyr ?_
 repeat' refine zp ?_
 all_goals refine zyn ?_
 refine zyr ?_
 repeat' first|(refine zap rfl ?_;first|refine zdk [0] hG (takeG w0 p P hP) rfl rfl rfl zdj (fun t s hG => ?_)|refine zae 1 rfl rfl rfl rfl rfl rfl rfl ?_)|refine zp ?_|refine zyl 0 rfl ?_|refine zyn ?_
 obtain ⟨a, e⟩ := t
 dsimp only at hG
 refine zyr ?_
 repeat' (refine zap rfl ?_;first|refine zab 1 rfl rfl rfl ?_|refine zbp rfl rfl ?_)
 all_goals refine zyn ?_
 refine zed rfl (fun hE => ?_) (fun hE => ?_)
 · rw [if_pos hE] at hG
   refine zyr ?_
   repeat' first|(refine zap rfl ?_;refine zab 1 rfl rfl rfl ?_)|refine zp ?_|refine zyn ?_
   exact zeg (quPut_fin w0 p eb m R e s _ rfl hG)
 rw [if_neg hE] at hG
 have hE : e = 0 := by simpa using hE
 subst hE
 refine zyr ?_
 repeat' first|(refine zap rfl ?_;first|refine zdu rfl rfl ?_|refine zdk [0] hG (getG w0 p _) rfl rfl rfl zdj (fun en s hG => ?_))|refine zp ?_|refine zyn ?_
 by_cases hn : en = 0
 · subst hn
   rw [if_pos rfl] at hG
   simp only [Qu.tail, Pg.bind_assoc, Pg.pure_bind] at hG
   repeat' first|refine zck ?_|refine zcn ?_|refine zyq ?_|(refine zap rfl ?_;first|refine zdu rfl rfl ?_|refine zab 1 rfl rfl rfl ?_|refine zdk [0] hG (getG w0 p _) rfl rfl rfl zdj (fun x s hG => ?_)|refine zdk [0] hG (putG w0 p _ _) rfl rfl rfl zdj (fun u s hG => ?_)|refine zbc rfl rfl (by omega) ?_)|refine zp ?_|refine zch ?_|refine zci rfl ?_
   exact zeg (quPut_fin w0 p eb m R 0 s _ rfl hG)
 rw [if_neg hn] at hG
 cases hN : P.node en with
 | true =>
   rw [hN, if_pos rfl] at hG
   have kn := quNode w0 P hP en
   rw [hN] at kn
   simp only [Qu.tail, Pg.bind_assoc, Pg.pure_bind] at hG
   repeat' first|refine zck ?_|refine zcn ?_|refine zyq ?_|(refine zap rfl ?_;first|refine zdu rfl rfl ?_|refine zab 1 rfl rfl rfl ?_|refine zah [] kn rfl rfl rfl zdj rfl ?_|refine zdk [0] hG (getG w0 p _) rfl rfl rfl zdj (fun x s hG => ?_)|refine zdk [0] hG (putG w0 p _ _) rfl rfl rfl zdj (fun u s hG => ?_)|refine zbd rfl rfl (by omega) ?_|refine zbx rfl ?_)|refine zp ?_|refine zyl 0 rfl ?_|refine zch ?_|refine zcj rfl ?_
   exact zeg (quPut_fin w0 p eb m R 0 s _ rfl hG)
 | false =>
   rw [hN, if_neg (by decide)] at hG
   have kn := quNode w0 P hP en
   rw [hN] at kn
   try simp only [Pg.pure_bind] at hG
   repeat' first|refine zck ?_|refine zyq ?_|(refine zap rfl ?_;first|refine zab 1 rfl rfl rfl ?_|refine zah [] kn rfl rfl rfl zdj rfl ?_|refine zbd rfl rfl (by omega) ?_|refine zbx rfl ?_|refine zae 1 rfl rfl rfl rfl rfl rfl rfl ?_)|refine zp ?_|refine zyl 0 rfl ?_|refine zch ?_|refine zci rfl ?_|refine zcj rfl ?_
   exact zeg (quPut_fin w0 p eb m R 24 s _ rfl hG)
theorem quTake_fin (p eb m : Nat) (R : (Int × Int) × Sp) (q : Int × Int) (s : Sp) (ρ : Env) (h6 : ρ 6 = .int .i64 q.1) (h7 : ρ 7 = .int .i64 q.2) (hG : At R (Qu.after2 m q) s) :
   LeavesS PP w0 [] Tryz.f51 ρ [quD p eb m] [SpaceA p s, erV eb q.2] (fun v Γ => v = encI2 R.1 ∧ Γ = [SpaceA p R.2]) := by
 refine leaves_defer1 [0, 0] (quUndo w0 p s m eb q.2) rfl rfl zdj ?_
 refine zek (zel [0] rfl (zen rfl h6 h7 ?_))
 refine ⟨rfl, ?_⟩
 unfold Qu.after2 at hG
 by_cases hE : q.2 ≠ 0
 · rw [if_pos hE] at hG
   rw [hG.step.2.done, if_pos hE]
   exact ⟨rfl, rfl⟩
 · rw [if_neg hE] at hG
   rw [hG.done, if_neg hE]
   exact ⟨rfl, rfl⟩
theorem quTake (p : Nat) (P : Pl) (hP : P.Ok) (r : Int) : FnG w0 [] 51 [spP p, poolV P, .int .i64 r] p (Qu.take P r) encI2 := by
 intro s hS
 have hG := At.start hS
 generalize Pg.run _ s = R at hG ⊢
 simp only [Qu.take, Qu.takeIn, Pg.bind_assoc, Pg.ite_bind, Pg.pure_bind] at hG
 refine zep en51 fn51 rfl rfl rfl ?_
 refine zyr ?_
 repeat' first|(refine zap rfl ?_;refine zaq (cs := [_, _, _]) rfl (fun nb => ?_))|refine zp ?_|refine zyn ?_
 refine zeb [1] rfl ?_
 refine zyr ?_
 repeat' (refine zap rfl ?_;refine zar (fun eb => ?_))
 all_goals refine zyn ?_
 refine zyr ?_
 repeat' first|(refine zap rfl ?_;first|refine zcd rfl rfl ?_|refine zdk [0] hG (markG w0 p) rfl rfl rfl zdj (fun m s hG => ?_))|refine zp ?_|refine zyn ?_
 refine zyr ?_
 repeat' first|(refine zap rfl ?_;first|refine zdu rfl rfl ?_|refine zdk [0] hG (getG w0 p _) rfl rfl rfl zdj (fun a s hG => ?_))|refine zp ?_|refine zyn ?_
 by_cases ha : a = 0
 · subst ha
   rw [if_pos rfl] at hG
   refine zyr ?_
   repeat' first|(refine zap rfl ?_;refine zbc rfl rfl (by omega) ?_)|refine zp ?_|refine zyn ?_
   refine zci rfl ?_
   refine zyr ?_
   repeat' (refine zap rfl ?_;refine zae 1 rfl rfl rfl rfl rfl rfl rfl ?_)
   all_goals refine zyn ?_
   refine run_share_keep [1] rfl ?_
   repeat (first|refine zck ?_|refine zcl ?_|refine zcm ?_|refine zcn ?_|refine zco ?_)
   refine zyr ?_
   repeat' first|refine zp ?_|refine zyl 0 rfl ?_|refine zyn ?_
   exact zeg (quTake_fin w0 p eb m R (0, 8) s _ rfl rfl hG)
 rw [if_neg ha] at hG
 have kn := quNode w0 P hP a
 cases hN : P.node a with
 | false =>
   rw [hN, if_neg (by decide)] at hG
   rw [hN] at kn
   refine zyr ?_
   repeat' first|(refine zap rfl ?_;refine zbd rfl rfl (by omega) ?_)|refine zp ?_|refine zyn ?_
   refine zcj rfl ?_
   refine zyr ?_
   repeat' first|(refine zap rfl ?_;first|refine zah [] kn rfl rfl rfl zdj rfl ?_|refine zbx rfl ?_)|refine zp ?_|refine zyl 0 rfl ?_|refine zyn ?_
   refine zci rfl ?_
   refine zyr ?_
   repeat' (refine zap rfl ?_;refine zae 1 rfl rfl rfl rfl rfl rfl rfl ?_)
   all_goals refine zyn ?_
   refine run_share_keep [1] rfl ?_
   repeat (first|refine zck ?_|refine zcl ?_|refine zcm ?_|refine zcn ?_|refine zco ?_)
   refine zyr ?_
   repeat' first|refine zp ?_|refine zyl 0 rfl ?_|refine zyn ?_
   exact zeg (quTake_fin w0 p eb m R (0, 24) s _ rfl rfl hG)
 | true =>
   rw [hN, if_pos rfl] at hG
   rw [hN] at kn
   refine zyr ?_
   repeat' first|(refine zap rfl ?_;refine zbd rfl rfl (by omega) ?_)|refine zp ?_|refine zyn ?_
   refine zcj rfl ?_
   refine zyr ?_
   repeat' first|(refine zap rfl ?_;first|refine zah [] kn rfl rfl rfl zdj rfl ?_|refine zbx rfl ?_)|refine zp ?_|refine zyl 0 rfl ?_|refine zyn ?_
   refine zcj rfl ?_
   refine zyr ?_
   repeat' first|(refine zap rfl ?_;first|refine zdu rfl rfl ?_|refine zdk [0] hG (getG w0 p _) rfl rfl rfl zdj (fun x s hG => ?_))|refine zp ?_|refine zyn ?_
   refine zyr ?_
   repeat' first|(refine zap rfl ?_;first|refine zdk [0] hG (giveG w0 p P hP a) rfl rfl rfl zdj (fun e s hG => ?_)|refine zae 1 rfl rfl rfl rfl rfl rfl rfl ?_)|refine zp ?_|refine zyl 0 rfl ?_|refine zyn ?_
   by_cases hE : e = 0
   rotate_left
   · rw [if_pos hE] at hG
     refine zyr ?_
     repeat' (refine zap rfl ?_;first|refine zab 1 rfl rfl rfl ?_|refine zbe rfl rfl (by omega) ?_)
     all_goals refine zyn ?_
     refine zci rfl ?_
     refine run_share_keep [1] rfl ?_
     repeat (first|refine zck ?_|refine zcl ?_|refine zcm ?_|refine zcn ?_|refine zco ?_)
     refine zyr ?_
     repeat' first|refine zp ?_|refine zyl 0 rfl ?_|refine zyn ?_
     exact zeg (quTake_fin w0 p eb m R (0, e) s _ rfl rfl hG)
   subst hE
   rw [if_neg (fun q => q rfl)] at hG
   refine zyr ?_
   repeat' (refine zap rfl ?_;first|refine zab 1 rfl rfl rfl ?_|refine zbf rfl rfl (by omega) ?_)
   all_goals refine zyn ?_
   refine zcj rfl ?_
   refine zyr ?_
   repeat' first|(refine zap rfl ?_;first|refine zdu rfl rfl ?_|refine zdk [0] hG (putG w0 p _ _) rfl rfl rfl zdj (fun u s hG => ?_))|refine zp ?_|refine zyn ?_
   by_cases hb : x = 0
   · subst hb
     rw [if_pos rfl] at hG
     refine zyr ?_
     repeat' first|(refine zap rfl ?_;refine zbc rfl rfl (by omega) ?_)|refine zp ?_|refine zyn ?_
     refine zci rfl ?_
     refine zyr ?_
     repeat' first|(refine zap rfl ?_;first|refine zdu rfl rfl ?_|refine zdk [0] hG (putG w0 p _ _) rfl rfl rfl zdj (fun u s hG => ?_))|refine zp ?_|refine zyn ?_
     refine zyr ?_
     repeat' first|(refine zap rfl ?_;first|refine zdu rfl rfl ?_|refine zev rfl rfl ?_|refine zdk [0] hG (getG w0 p _) rfl rfl rfl zdj (fun h s hG => ?_)|refine zdk [0] hG (putG w0 p _ _) rfl rfl rfl zdj (fun u s hG => ?_))|refine zp ?_|refine zyn ?_
     refine run_share_keep [1] rfl ?_
     repeat (first|refine zck ?_|refine zcl ?_|refine zcm ?_|refine zcn ?_|refine zco ?_)
     refine zyr ?_
     repeat' first|refine zp ?_|refine zyl 0 rfl ?_|refine zyn ?_
     exact zeg (quTake_fin w0 p eb m R (_, 0) s _ rfl rfl hG)
   · rw [if_neg hb] at hG
     refine zyr ?_
     repeat' first|(refine zap rfl ?_;refine zbd rfl rfl (by omega) ?_)|refine zp ?_|refine zyn ?_
     refine zcj rfl ?_
     refine zyr ?_
     repeat' first|(refine zap rfl ?_;first|refine zdu rfl rfl ?_|refine zev rfl rfl ?_|refine zdk [0] hG (getG w0 p _) rfl rfl rfl zdj (fun h s hG => ?_)|refine zdk [0] hG (putG w0 p _ _) rfl rfl rfl zdj (fun u s hG => ?_))|refine zp ?_|refine zyn ?_
     refine run_share_keep [1] rfl ?_
     repeat (first|refine zck ?_|refine zcl ?_|refine zcm ?_|refine zcn ?_|refine zco ?_)
     refine zyr ?_
     repeat' first|refine zp ?_|refine zyl 0 rfl ?_|refine zyn ?_
     exact zeg (quTake_fin w0 p eb m R (_, 0) s _ rfl rfl hG)
end Go.Proofs.YtgdhcgnmffgkiaaGreatDoor
namespace Sim
open Go Go.Vc
structure Tr where
 pool : Pl
 root : Int
 hash : Int → Int
 has : Int → Bool
structure Tr.Ok (T : Tr) : Prop where
 pool : T.pool.Ok
 r0 : -9223372036854775808 ≤ T.root
 r1 : T.root ≤ 9223372036854775807
 nodes : T.pool.nodes ≤ 100
 h0 : ∀ n, 0 ≤ T.hash n
 h1 : ∀ n, T.hash n ≤ 18446744073709551615
structure TWay where
 bs : List Int
 cs : List Int
 cell : Int
 depth : Nat
def dig (h : Int) (d : Nat) : Int := h / 8 ^ d % 8
namespace Tr
variable (T : Tr)
def nodeN (n : Int) : Int := if n ≤ 0 ∨ 4096 < n then 0 else n
def nodeB (n : Int) : Bool := if n ≤ 0 ∨ 4096 < n then false else T.pool.node n
def add (c n : Int) : Pg Unit := do
 let v ← Pg.gt (w64 (T.root + c))
 let _ ← Pg.pt (w64 (T.root + c)) (w64 (v + n))
 pure ()
def downK (h : Int) : Nat → TWay → Pg (TWay × Bool)
 | 0, w => pure (w, false)
 | k + 1, w => do
   let x ← Pg.gt w.cell
   if x < 0 then do
     let y ← Pg.gt w.cell
     if T.nodeB (w64 (0 - y)) = true then
       if w.depth = 4 then pure (w, false) else
       downK h k ⟨w.bs ++ [nodeN (w64 (0 - y))], w.cs ++ [w.cell], nodeN (w64 (0 - y)) + dig h w.depth, w.depth + 1⟩
     else pure (w, false)
   else pure (w, true)
def down (h : Int) : Pg (TWay × Bool) := T.downK h 5 ⟨[], [], T.root, 0⟩
def leafK (n : Int) (d : Nat) : Nat → Int → Pg ((Int × Int) × Bool)
 | 0, cell => do
   let x ← Pg.gt cell
   if x = 0 then pure ((cell, 0), true) else do
     let _ ← Pg.gt cell
     pure ((0, 0), false)
 | k + 1, cell => do
   let x ← Pg.gt cell
   if x = 0 then pure ((cell, 0), true) else do
     let y ← Pg.gt cell
     if T.nodeB y = true then do
       let z ← Pg.gt (nodeN y)
       if z = n then pure ((cell, nodeN y), true) else
       if d < 4 then pure ((cell, 0), true) else leafK n d k (nodeN y + 2)
     else pure ((0, 0), false)
def leaf (w : TWay) (n : Int) : Pg ((Int × Int) × Bool) := T.leafK n w.depth T.pool.nodes.toNat w.cell
def get (n h : Int) : Pg (Int × Bool) := do
 let w ← T.down h
 if w.2 = true then do
   let l ← T.leaf w.1 n
   if l.2 = true then
     if l.1.2 = 0 then pure (0, false) else do
       let v ← Pg.gt (l.1.2 + 1)
       pure (v, true)
   else pure (0, false)
 else pure (0, false)
def putsL (a : Int) : Int → List Int → Pg Unit
 | _, [] => pure ()
 | i, v :: l => do
   let _ ← Pg.pt (w64 (a + i)) v
   putsL a (i + 1) l
def take (l : List Int) : Pg (Int × Int) := do
 let t ← T.pool.takeP
 if t.2 ≠ 0 then pure (0, t.2) else do
   let _ ← putsL t.1 0 l
   let _ ← T.add 7 1
   pure (t.1, 0)
def splitK (h : Int) : Nat → TWay → Pg (TWay × Int)
 | 0, w => pure (w, 0)
 | k + 1, w => do
   let x ← Pg.gt w.cell
   if x = 0 then pure (w, 0) else do
     let old ← Pg.gt w.cell
     if T.nodeB old = true then do
       let o ← Pg.gt (nodeN old)
       if T.has o = true then do
         let b ← T.take (List.replicate 8 0)
         if b.2 ≠ 0 then pure (w, b.2) else do
           let _ ← Pg.pt (w64 (b.1 + dig (T.hash o) w.depth)) old
           let _ ← Pg.pt w.cell (w64 (0 - b.1))
           splitK h k { w with cell := w64 (b.1 + dig h w.depth), depth := w.depth + 1 }
       else pure (w, 24)
     else pure (w, 24)
def split (w : TWay) (h : Int) : Pg (TWay × Int) := T.splitK h (4 - w.depth) w
def afterP (m : Nat) (r : (Int × Bool) × Int) : Pg ((Int × Bool) × Int) := if r.2 ≠ 0 then do let _ ← Pg.bk m; pure r else pure r
def newIn (n v : Int) (w : TWay) : Pg ((Int × Bool) × Int) := do
 let x ← Pg.gt w.cell
 let a ← T.take [n, v, x]
 if a.2 ≠ 0 then pure ((0, false), a.2) else do
   let _ ← Pg.pt w.cell a.1
   let _ ← T.add 1 1
   pure ((0, false), 0)
def putIn (n h v : Int) : Pg ((Int × Bool) × Int) := do
 let w ← T.down h
 if w.2 = true then do
   let l ← T.leaf w.1 n
   if l.2 = true then
     if l.1.2 = 0 then do
       let w ← T.split w.1 h
       if w.2 ≠ 0 then pure ((0, false), w.2) else T.newIn n v w.1
     else do
       let was ← Pg.gt (l.1.2 + 1)
       let _ ← Pg.pt (l.1.2 + 1) v
       pure ((was, true), 0)
   else pure ((0, false), 24)
 else pure ((0, false), 24)
def put (n h v : Int) : Pg ((Int × Bool) × Int) := do
 let m ← Pg.mk
 let r ← T.putIn n h v
 afterP m r
def give (a : Int) : Pg Int := do
 let e ← T.pool.giveP a
 if e ≠ 0 then pure e else do
   let _ ← T.add 7 (-1)
   pure 0
def aloneK (b : Int) : Nat → Int → Int → Pg (Int × Bool)
 | 0, _, one =>
   if one = 0 then pure (0, true) else
   if T.nodeB one = true then do
     let x ← Pg.gt (nodeN one + 2)
     pure (one, decide (x = 0))
   else pure (one, false)
 | k + 1, i, one => do
   let x ← Pg.gt (b + i)
   if x < 0 then pure (0, false) else
   if x = 0 then aloneK b k (i + 1) one else
   if one = 0 then aloneK b k (i + 1) x else pure (0, false)
def alone (b : Int) : Pg (Int × Bool) := T.aloneK b 8 0 0
def fold (was : Int) : List (Int × Int) → Pg ((Int × Bool) × Int)
 | [] => pure ((was, true), 0)
 | (b, c) :: l => do
   let o ← T.alone b
   if o.2 = true then do
     let _ ← Pg.pt c o.1
     let e ← T.give b
     if e ≠ 0 then pure ((0, false), e) else fold was l
   else pure ((was, true), 0)
def afterD (m : Nat) (r : (Int × Bool) × Int) : Pg ((Int × Bool) × Int) := if r.2 ≠ 0 then do let _ ← Pg.bk m; pure ((0, false), r.2) else pure r
def dropAt (w : TWay) (cell at_ : Int) : Pg ((Int × Bool) × Int) := do
 let was ← Pg.gt (at_ + 1)
 let x ← Pg.gt (at_ + 2)
 let _ ← Pg.pt cell x
 let e ← T.give at_
 if e ≠ 0 then pure ((0, false), e) else do
   let _ ← T.add 1 (-1)
   T.fold was (w.bs.zip w.cs).reverse
def dropIn (n h : Int) : Pg ((Int × Bool) × Int) := do
 let w ← T.down h
 if w.2 = true then do
   let l ← T.leaf w.1 n
   if l.2 = true then
     if l.1.2 = 0 then pure ((0, false), 0) else T.dropAt w.1 l.1.1 l.1.2
   else pure ((0, false), 24)
 else pure ((0, false), 24)
def drop (n h : Int) : Pg ((Int × Bool) × Int) := do
 let m ← Pg.mk
 let r ← T.dropIn n h
 afterD m r
def len : Pg Int := Pg.gt (w64 (T.root + 1))
end Tr
end Sim
