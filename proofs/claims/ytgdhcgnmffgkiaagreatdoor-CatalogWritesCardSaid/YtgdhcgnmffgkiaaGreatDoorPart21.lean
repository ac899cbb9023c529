import Derived.Test.YtgdhcgnmffgkiaaGreatDoorPart20
import Derived.Test.YtgdhcgnmffgkiaaGreatDoorPart7
/- Own work: lemmas of this claim. -/
namespace Go.Proofs.YtgdhcgnmffgkiaaGreatDoor
variable (w0 : World)
open Go.Vc Sim
set_option maxHeartbeats 4000000
theorem dqUndo (p : Nat) (s : Sp) (m : Nat) (eb : Nat) (e : Int) : FnD PP w0 [] 117 [spP p, .int .i64 m, .pointer (some ⟨eb, 0, none⟩)] [SpaceA p s, erV eb e]
    fun v Γ' => v = .tuple #[] ∧ Γ' = [SpaceA p (if e ≠ 0 then s.back m else s), erV eb e] := by
  refine fnD_of_run en117 fn117 rfl rfl rfl ?_
 
  repeat' first|refine zck ?_|refine zyq ?_|(refine zap rfl ?_;first|refine zab 1 rfl rfl rfl ?_|refine zbp rfl rfl ?_)|refine zp ?_|refine zch ?_
  refine zed rfl (fun hE => ?_) (fun hE => ?_)
  · repeat' first|refine zyq ?_|(refine zap rfl ?_;refine zah [0] (back_spec w0 p s m) rfl rfl rfl zdj rfl ?_)|refine zp ?_|refine zch ?_
    refine run_nil ⟨rfl, ends_none rfl ?_⟩
    rw [if_pos hE]; exact ⟨rfl, rfl⟩
  · repeat' first|refine zcm ?_|(refine zap rfl ?_;first|refine zaj rfl ?_|refine zak rfl ?_|refine zal rfl ?_|refine zam rfl rfl (fun _ => ?_) (fun _ => ?_))|refine zch ?_
    refine run_nil ⟨rfl, ends_none rfl ?_⟩
    rw [if_neg hE]; exact ⟨rfl, rfl⟩
def dqD (p eb : Nat) (m : Nat) : Deferred := { target := .fn (.func 117) #[], args := List.toArray [spP p, .int .i64 m, .pointer (some ⟨eb, 0, none⟩)] }
theorem dqSide (b : Bool) : FnE PP w0 [] 118 [.bool b] [] (.int .i64 (Dq.side b)) [] := by
 cases b <;>
 · refine zep en118 fn118 rfl rfl rfl ?_
   repeat' first|refine zck ?_|refine zcm ?_|refine zyq ?_|refine zp ?_|refine zch ?_|refine zci rfl ?_|refine zcj rfl ?_
   exact zej rfl ⟨rfl, rfl⟩
theorem dqIs (P : Pl) (hP : P.Ok) (n : Int) : FnE PP w0 [] 119 [poolV P, .int .i64 n] [] (.bool (P.node n)) [] := by
 refine zep en119 fn119 rfl rfl rfl ?_
 refine zyr ?_
 repeat' first|(refine zap rfl ?_;refine zaq (cs := [_, _, _]) rfl (fun nb => ?_))|refine zp ?_|refine zyn ?_
 refine zeb [0] rfl ?_
 repeat' first|refine zck ?_|refine zyq ?_|(refine zap rfl ?_;refine zah [] (node_spec w0 P hP _) rfl rfl rfl zdj rfl ?_)|refine zp ?_|refine zyl 0 rfl ?_|refine zch ?_
 exact zej rfl ⟨rfl, rfl⟩
theorem dqMore (p : Nat) (x n : Int) : FnG w0 [] 120 [spP p, .int .i64 x, .int .i64 n] p (Dq.more x n) encU := by
 intro s hS
 have hG := At.start hS
 generalize Pg.run _ s = R at hG ⊢
 unfold Dq.more at hG
 refine zep en120 fn120 rfl rfl rfl ?_
 repeat' first|refine zyq ?_|(refine zap rfl ?_;first|refine zdu rfl rfl ?_|refine zdk [0] hG (getG w0 p _) rfl rfl rfl zdj (fun x s hG => ?_)|refine zdk [0] hG (putG w0 p _ _) rfl rfl rfl zdj (fun u s hG => ?_))|refine zp ?_|refine zch ?_
 rw [hG.done]
 refine end_tmp0 rfl ⟨rfl, rfl⟩
theorem dqLen (p : Nat) (r : Int) : FnG w0 [] 57 [spP p, .int .i64 r] p (Dq.len r) (.int .i64) := by
 intro s hS
 have hG := (At.start hS).to (Pg.bind_pure _).symm
 generalize Pg.run _ s = R at hG ⊢
 unfold Dq.len at hG
 refine zep en57 fn57 rfl rfl rfl ?_
 repeat' first|refine zck ?_|refine zyq ?_|(refine zap rfl ?_;first|refine zdu rfl rfl ?_|refine zdk [0] hG (getG w0 p _) rfl rfl rfl zdj (fun x s hG => ?_))|refine zp ?_|refine zch ?_
 rw [hG.done]
 exact zej rfl ⟨rfl, rfl⟩
theorem dqPeek (p : Nat) (r : Int) (b : Bool) : FnG w0 [] 56 [spP p, .int .i64 r, .bool b] p (Dq.peek r b) encI2 := by
 intro s hS
 have hG := At.start hS
 generalize Pg.run _ s = R at hG ⊢
 unfold Dq.peek at hG
 refine zep en56 fn56 rfl rfl rfl ?_
 repeat' first|refine zck ?_|refine zyq ?_|(refine zap rfl ?_;first|refine zdu rfl rfl ?_|refine zah [] (dqSide w0 _) rfl rfl rfl zdj rfl ?_|refine zdk [0] hG (getG w0 p _) rfl rfl rfl zdj (fun x s hG => ?_)|refine zbo rfl rfl ?_)|refine zp ?_|refine zch ?_
 refine zed rfl (fun hE => ?_) (fun hE => ?_)
 · rw [if_pos hE] at hG
   rw [hG.done]
   repeat' first|refine zck ?_|refine zyq ?_|refine zp ?_|refine zch ?_
   exact zei rfl ⟨rfl, rfl⟩
 · rw [if_neg hE] at hG
   repeat' first|refine zck ?_|refine zcm ?_|refine zyq ?_|(refine zap rfl ?_;first|refine zdu rfl rfl ?_|refine zdk [0] hG (getG w0 p _) rfl rfl rfl zdj (fun x s hG => ?_))|refine zp ?_|refine zch ?_
   rw [hG.done]
   exact zei rfl ⟨rfl, rfl⟩
theorem dqPush_fin (p eb m : Nat) (R : Int × Sp) (e : Int) (s : Sp) (ρ : Env) (h8 : ρ 10 = .pointer (some ⟨eb, 0, none⟩)) (hG : At R (Qu.after m e) s) :
   LeavesS PP w0 [] Tryz.f54 ρ [dqD p eb m] [SpaceA p s, erV eb e] (fun v Γ => v = .int .i64 R.1 ∧ Γ = [SpaceA p R.2]) := by
 refine leaves_defer1 [0, 0] (dqUndo w0 p s m eb e) rfl rfl zdj ?_
 refine zek (zel [0] rfl (zem rfl (zeo 1 h8 rfl rfl) ?_))
 refine ⟨rfl, ?_⟩
 unfold Qu.after at hG
 by_cases hE : e ≠ 0
 · rw [if_pos hE] at hG
   rw [hG.step.2.done, if_pos hE]
   exact ⟨rfl, rfl⟩
 · rw [if_neg hE] at hG
   rw [hG.done, if_neg hE]
   exact ⟨rfl, rfl⟩
theorem dqPop_fin (p eb m : Nat) (R : (Int × Int) × Sp) (q : Int × Int) (s : Sp) (ρ : Env) (h6 : ρ 8 = .int .i64 q.1) (h7 : ρ 9 = .pointer (some ⟨eb, 0, none⟩)) (hG : At R (Qu.after2 m q) s) :
   LeavesS PP w0 [] Tryz.f55 ρ [dqD p eb m] [SpaceA p s, erV eb q.2] (fun v Γ => v = encI2 R.1 ∧ Γ = [SpaceA p R.2]) := by
 refine leaves_defer1 [0, 0] (dqUndo w0 p s m eb q.2) rfl rfl zdj ?_
 refine zek (zel [0] rfl (zen rfl h6 (zeo 1 h7 rfl rfl) ?_))
 refine ⟨rfl, ?_⟩
 unfold Qu.after2 at hG
 by_cases hE : q.2 ≠ 0
 · rw [if_pos hE] at hG
   rw [hG.step.2.done, if_pos hE]
   exact ⟨rfl, rfl⟩
 · rw [if_neg hE] at hG
   rw [hG.done, if_neg hE]
   exact ⟨rfl, rfl⟩
theorem dqPop (p : Nat) (P : Pl) (hP : P.Ok) (r : Int) (b : Bool) : FnG w0 [] 55 [spP p, poolV P, .int .i64 r, .bool b] p (Dq.pop P r b) encI2 := by
 intro s hS
 have hG := At.start hS
 generalize Pg.run _ s = R at hG ⊢
 simp only [Dq.pop, Dq.popIn, Pg.bind_assoc, Pg.ite_bind, Pg.pure_bind] at hG
 refine zep en55 fn55 rfl rfl rfl ?_
 refine zyr ?_
 repeat' first|(refine zap rfl ?_;first|refine zar (fun eb => ?_)|refine zaq (cs := [_, _, _]) rfl (fun nb => ?_))|refine zp ?_|refine zyn ?_
 refine zeb [1] rfl ?_
 refine zyr ?_
 repeat' first|(refine zap rfl ?_;first|refine zcd rfl rfl ?_|refine zdk [0] hG (markG w0 p) rfl rfl rfl zdj (fun m s hG => ?_))|refine zp ?_|refine zyn ?_
 refine zyr ?_
 repeat' first|(refine zap rfl ?_;first|refine zbx rfl ?_|refine zah [] (dqSide w0 _) rfl rfl rfl zdj rfl ?_)|refine zp ?_|refine zyn ?_
 refine zyr ?_
 repeat' first|(refine zap rfl ?_;first|refine zdu rfl rfl ?_|refine zdk [0] hG (getG w0 p _) rfl rfl rfl zdj (fun a s hG => ?_))|refine zp ?_|refine zyn ?_
 by_cases ha : a = 0
 · subst ha
   rw [if_pos rfl] at hG
   refine zyr ?_
   repeat' first|(refine zap rfl ?_;refine zbc rfl rfl (by omega) ?_)|refine zp ?_|refine zyn ?_
   refine zci rfl ?_
   refine zyr ?_
   repeat' first|(refine zap rfl ?_;refine zae 1 rfl rfl rfl rfl rfl rfl rfl ?_)|refine zp ?_|refine zyn ?_
   exact zeg (dqPop_fin w0 p eb m R (0, 8) s _ rfl rfl hG)
 rw [if_neg ha] at hG
 have kn := dqIs w0 P hP a
 cases hN : P.node a with
 | false =>
   rw [hN, if_neg (by decide)] at hG
   rw [hN] at kn
   refine zyr ?_
   repeat' first|(refine zap rfl ?_;refine zbd rfl rfl (by omega) ?_)|refine zp ?_|refine zyn ?_
   refine zcj rfl ?_
   refine zyr ?_
   repeat' first|(refine zap rfl ?_;first|refine zbx rfl ?_|refine zah [] kn rfl rfl rfl zdj rfl ?_)|refine zp ?_|refine zyl 0 rfl ?_|refine zyn ?_
   refine zci rfl ?_
   refine zyr ?_
   repeat' first|(refine zap rfl ?_;refine zae 1 rfl rfl rfl rfl rfl rfl rfl ?_)|refine zp ?_|refine zyn ?_
   exact zeg (dqPop_fin w0 p eb m R (0, 24) s _ rfl rfl hG)
 | true =>
   rw [hN, if_pos rfl] at hG
   rw [hN] at kn
   refine zyr ?_
   repeat' first|(refine zap rfl ?_;refine zbd rfl rfl (by omega) ?_)|refine zp ?_|refine zyn ?_
   refine zcj rfl ?_
   refine zyr ?_
   repeat' first|(refine zap rfl ?_;first|refine zbx rfl ?_|refine zah [] kn rfl rfl rfl zdj rfl ?_)|refine zp ?_|refine zyl 0 rfl ?_|refine zyn ?_
   refine zcj rfl ?_
   refine zyr ?_
   repeat' refine zp ?_
   all_goals refine zyn ?_
   refine zyr ?_
   repeat' first|(refine zap rfl ?_;first|refine zdu rfl rfl ?_|refine zdk [0] hG (getG w0 p _) rfl rfl rfl zdj (fun n s hG => ?_))|refine zp ?_|refine zyn ?_
   by_cases hn : n = 0
   · subst hn
     rw [if_pos rfl] at hG
     simp only [Dq.fin, Pg.bind_assoc, Pg.ite_bind, Pg.pure_bind] at hG
     refine zyr ?_
     repeat' first|(refine zap rfl ?_;refine zbc rfl rfl (by omega) ?_)|refine zp ?_|refine zyn ?_
     refine zci rfl ?_
     refine zyr ?_
     repeat' first|(refine zap rfl ?_;first|refine zdu rfl rfl ?_|refine zdk [0] hG (putG w0 p _ _) rfl rfl rfl zdj (fun u s hG => ?_))|refine zp ?_|refine zyn ?_
     refine zyr ?_
     repeat' first|(refine zap rfl ?_;first|refine zdu rfl rfl ?_|refine zdk [0] hG (putG w0 p _ _) rfl rfl rfl zdj (fun u s hG => ?_))|refine zp ?_|refine zyn ?_
     refine zyr ?_
     repeat' first|(refine zap rfl ?_;first|refine zdu rfl rfl ?_|refine zdk [0] hG (dqMore w0 p _ _) rfl rfl rfl zdj (fun u s hG => ?_))|refine zp ?_|refine zyn ?_
     refine zyr ?_
     repeat' first|(refine zap rfl ?_;first|refine zdu rfl rfl ?_|refine zdk [0] hG (dqMore w0 p _ _) rfl rfl rfl zdj (fun u s hG => ?_))|refine zp ?_|refine zyn ?_
     refine zyr ?_
     repeat' first|(refine zap rfl ?_;first|refine zdu rfl rfl ?_|refine zdk [0] hG (getG w0 p _) rfl rfl rfl zdj (fun x s hG => ?_))|refine zp ?_|refine zyn ?_
     refine zyr ?_
     repeat' first|(refine zap rfl ?_;refine zdk [0] hG (giveG w0 p P hP a) rfl rfl rfl zdj (fun e s hG => ?_))|refine zp ?_|refine zyl 0 rfl ?_|refine zyn ?_
     by_cases hE : e = 0
     · subst hE
       rw [if_neg (fun q => q rfl)] at hG
       refine zyr ?_
       repeat' first|(refine zap rfl ?_;refine zbf rfl rfl (by omega) ?_)|refine zp ?_|refine zyn ?_
       refine zcj rfl ?_
       refine zyr ?_
       repeat' first|(refine zap rfl ?_;refine zae 1 rfl rfl rfl rfl rfl rfl rfl ?_)|refine zp ?_|refine zyn ?_
       exact zeg (dqPop_fin w0 p eb m R (x, 0) s _ rfl rfl hG)
     · rw [if_pos hE] at hG
       refine zyr ?_
       repeat' first|(refine zap rfl ?_;refine zbe rfl rfl (by omega) ?_)|refine zp ?_|refine zyn ?_
       refine zci rfl ?_
       refine zyr ?_
       repeat' first|(refine zap rfl ?_;refine zae 1 rfl rfl rfl rfl rfl rfl rfl ?_)|refine zp ?_|refine zyn ?_
       exact zeg (dqPop_fin w0 p eb m R (0, e) s _ rfl rfl hG)
   rw [if_neg hn] at hG
   have kn2 := dqIs w0 P hP n
   cases hN2 : P.node n with
   | false =>
     rw [hN2, if_neg (by decide)] at hG
     rw [hN2] at kn2
     refine zyr ?_
     repeat' first|(refine zap rfl ?_;refine zbd rfl rfl (by omega) ?_)|refine zp ?_|refine zyn ?_
     refine zcj rfl ?_
     refine zyr ?_
     repeat' first|(refine zap rfl ?_;first|refine zbx rfl ?_|refine zah [] kn2 rfl rfl rfl zdj rfl ?_)|refine zp ?_|refine zyl 0 rfl ?_|refine zyn ?_
     refine zci rfl ?_
     refine zyr ?_
     repeat' first|(refine zap rfl ?_;refine zae 1 rfl rfl rfl rfl rfl rfl rfl ?_)|refine zp ?_|refine zyn ?_
     exact zeg (dqPop_fin w0 p eb m R (0, 24) s _ rfl rfl hG)
   | true =>
     rw [hN2, if_pos rfl] at hG
     rw [hN2] at kn2
     simp only [Dq.fin, Pg.bind_assoc, Pg.ite_bind, Pg.pure_bind] at hG
     refine zyr ?_
     repeat' first|(refine zap rfl ?_;refine zbd rfl rfl (by omega) ?_)|refine zp ?_|refine zyn ?_
     refine zcj rfl ?_
     refine zyr ?_
     repeat' first|(refine zap rfl ?_;first|refine zbx rfl ?_|refine zah [] kn2 rfl rfl rfl zdj rfl ?_)|refine zp ?_|refine zyl 0 rfl ?_|refine zyn ?_
     refine zcj rfl ?_
     refine zyr ?_
     repeat' first|(refine zap rfl ?_;first|refine zdu rfl rfl ?_|refine zdk [0] hG (putG w0 p _ _) rfl rfl rfl zdj (fun u s hG => ?_))|refine zp ?_|refine zyn ?_
     refine zyr ?_
     repeat' first|(refine zap rfl ?_;first|refine zdu rfl rfl ?_|refine zdk [0] hG (putG w0 p _ _) rfl rfl rfl zdj (fun u s hG => ?_))|refine zp ?_|refine zyn ?_
     refine zyr ?_
     repeat' first|(refine zap rfl ?_;first|refine zdu rfl rfl ?_|refine zdk [0] hG (dqMore w0 p _ _) rfl rfl rfl zdj (fun u s hG => ?_))|refine zp ?_|refine zyn ?_
     refine zyr ?_
     repeat' first|(refine zap rfl ?_;first|refine zdu rfl rfl ?_|refine zdk [0] hG (dqMore w0 p _ _) rfl rfl rfl zdj (fun u s hG => ?_))|refine zp ?_|refine zyn ?_
     refine zyr ?_
     repeat' first|(refine zap rfl ?_;first|refine zdu rfl rfl ?_|refine zdk [0] hG (getG w0 p _) rfl rfl rfl zdj (fun x s hG => ?_))|refine zp ?_|refine zyn ?_
     refine zyr ?_
     repeat' first|(refine zap rfl ?_;refine zdk [0] hG (giveG w0 p P hP a) rfl rfl rfl zdj (fun e s hG => ?_))|refine zp ?_|refine zyl 0 rfl ?_|refine zyn ?_
     by_cases hE : e = 0
     · subst hE
       rw [if_neg (fun q => q rfl)] at hG
       refine zyr ?_
       repeat' first|(refine zap rfl ?_;refine zbf rfl rfl (by omega) ?_)|refine zp ?_|refine zyn ?_
       refine zcj rfl ?_
       refine zyr ?_
       repeat' first|(refine zap rfl ?_;refine zae 1 rfl rfl rfl rfl rfl rfl rfl ?_)|refine zp ?_|refine zyn ?_
       exact zeg (dqPop_fin w0 p eb m R (x, 0) s _ rfl rfl hG)
     · rw [if_pos hE] at hG
       refine zyr ?_
       repeat' first|(refine zap rfl ?_;refine zbe rfl rfl (by omega) ?_)|refine zp ?_|refine zyn ?_
       refine zci rfl ?_
       refine zyr ?_
       repeat' first|(refine zap rfl ?_;refine zae 1 rfl rfl rfl rfl rfl rfl rfl ?_)|refine zp ?_|refine zyn ?_
       exact zeg (dqPop_fin w0 p eb m R (0, e) s _ rfl rfl hG)
set_option maxHeartbeats 16000000
theorem dqPush (p : Nat) (P : Pl) (hP : P.Ok) (r v : Int) (b : Bool) : FnG w0 [] 54 [spP p, poolV P, .int .i64 r, .bool b, .int .i64 v] p (Dq.push P r v b) (.int .i64) := by
 intro s hS
 have hG := At.start hS
 generalize Pg.run _ s = R at hG ⊢
 simp only [Dq.push, Dq.pushIn, Pg.bind_assoc, Pg.ite_bind, Pg.pure_bind] at hG
 refine zep en54 fn54 rfl rfl rfl ?_
 refine zyr ?_
 repeat' (refine zap rfl ?_;first|refine zar (fun eb => ?_)|refine zaq (cs := [_, _, _]) rfl (fun nb => ?_))
 all_goals refine zyn ?_
 refine zeb [1] rfl ?_
 refine zyr ?_
 repeat' first|(refine zap rfl ?_;first|refine zcd rfl rfl ?_|refine zdk [0] hG (markG w0 p) rfl rfl rfl zdj (fun m s hG => ?_))|refine zp ?_|refine zyn ?_
 refine zyr ?_
 repeat' first|(refine zap rfl ?_;first|refine zdk [0] hG (takeG w0 p P hP) rfl rfl rfl zdj (fun t s hG => ?_)|refine zae 1 rfl rfl rfl rfl rfl rfl rfl ?_)|refine zp ?_|refine zyl 0 rfl ?_|refine zyn ?_
 obtain ⟨a, e⟩ := t
 dsimp only at hG
 refine zyr ?_
 repeat' (refine zap rfl ?_;first|refine zab 1 rfl rfl rfl ?_|refine zbp rfl rfl ?_)
 all_goals refine zyn ?_
 refine zed rfl (fun hE => ?_) (fun hE => ?_)
 · rw [if_pos hE] at hG
   refine zyr ?_
   repeat' (refine zap rfl ?_;first|refine zab 1 rfl rfl rfl ?_|refine zae 1 rfl rfl rfl rfl rfl rfl rfl ?_)
   all_goals refine zyn ?_
   exact zeg (dqPush_fin w0 p eb m R e s _ rfl hG)
 rw [if_neg hE] at hG
 have hE : e = 0 := by simpa using hE
 subst hE
 refine zyr ?_
 repeat' first|(refine zap rfl ?_;first|refine zbx rfl ?_|refine zah [] (dqSide w0 _) rfl rfl rfl zdj rfl ?_)|refine zp ?_|refine zyn ?_
 refine zyr ?_
 repeat' first|(refine zap rfl ?_;first|refine zdu rfl rfl ?_|refine zdk [0] hG (getG w0 p _) rfl rfl rfl zdj (fun en s hG => ?_))|refine zp ?_|refine zyn ?_
 refine zyr ?_
 repeat' first|(refine zap rfl ?_;first|refine zdu rfl rfl ?_|refine zdk [0] hG (putG w0 p _ _) rfl rfl rfl zdj (fun u s hG => ?_))|refine zp ?_|refine zyn ?_
 refine zyr ?_
 repeat' first|(refine zap rfl ?_;first|refine zdu rfl rfl ?_|refine zdk [0] hG (putG w0 p _ _) rfl rfl rfl zdj (fun u s hG => ?_))|refine zp ?_|refine zyn ?_
 refine zyr ?_
 repeat' first|(refine zap rfl ?_;first|refine zdu rfl rfl ?_|refine zdk [0] hG (putG w0 p _ _) rfl rfl rfl zdj (fun u s hG => ?_))|refine zp ?_|refine zyn ?_
 by_cases hn : en = 0
 · subst hn
   rw [if_pos rfl] at hG
   simp only [Dq.tail, Pg.bind_assoc, Pg.pure_bind] at hG
   refine zyr ?_
   repeat' first|(refine zap rfl ?_;refine zbc rfl rfl (by omega) ?_)|refine zp ?_|refine zyn ?_
   refine zci rfl ?_
   refine zyr ?_
   repeat' first|(refine zap rfl ?_;first|refine zdu rfl rfl ?_|refine zdk [0] hG (putG w0 p _ _) rfl rfl rfl zdj (fun u s hG => ?_))|refine zp ?_|refine zyn ?_
   refine zyr ?_
   repeat' first|(refine zap rfl ?_;first|refine zdu rfl rfl ?_|refine zdk [0] hG (putG w0 p _ _) rfl rfl rfl zdj (fun u s hG => ?_))|refine zp ?_|refine zyn ?_
   refine zyr ?_
   repeat' first|(refine zap rfl ?_;first|refine zdu rfl rfl ?_|refine zdk [0] hG (dqMore w0 p _ _) rfl rfl rfl zdj (fun u s hG => ?_))|refine zp ?_|refine zyn ?_
   refine zyr ?_
   repeat' first|(refine zap rfl ?_;first|refine zdu rfl rfl ?_|refine zdk [0] hG (dqMore w0 p _ _) rfl rfl rfl zdj (fun u s hG => ?_))|refine zp ?_|refine zyn ?_
   refine zyr ?_
   repeat' (refine zap rfl ?_;refine zae 1 rfl rfl rfl rfl rfl rfl rfl ?_)
   all_goals refine zyn ?_
   exact zeg (dqPush_fin w0 p eb m R 0 s _ rfl hG)
 rw [if_neg hn] at hG
 have kn := dqIs w0 P hP en
 cases hN : P.node en with
 | true =>
   rw [hN, if_pos rfl] at hG
   rw [hN] at kn
   simp only [Dq.tail, Pg.bind_assoc, Pg.pure_bind] at hG
   refine zyr ?_
   repeat' first|(refine zap rfl ?_;refine zbd rfl rfl (by omega) ?_)|refine zp ?_|refine zyn ?_
   refine zcj rfl ?_
   refine zyr ?_
   repeat' first|(refine zap rfl ?_;first|refine zbx rfl ?_|refine zah [] kn rfl rfl rfl zdj rfl ?_)|refine zp ?_|refine zyl 0 rfl ?_|refine zyn ?_
   refine zcj rfl ?_
   refine zyr ?_
   repeat' first|(refine zap rfl ?_;first|refine zdu rfl rfl ?_|refine zdk [0] hG (putG w0 p _ _) rfl rfl rfl zdj (fun u s hG => ?_))|refine zp ?_|refine zyn ?_
   refine zyr ?_
   repeat' first|(refine zap rfl ?_;first|refine zdu rfl rfl ?_|refine zdk [0] hG (putG w0 p _ _) rfl rfl rfl zdj (fun u s hG => ?_))|refine zp ?_|refine zyn ?_
   refine zyr ?_
   repeat' first|(refine zap rfl ?_;first|refine zdu rfl rfl ?_|refine zdk [0] hG (dqMore w0 p _ _) rfl rfl rfl zdj (fun u s hG => ?_))|refine zp ?_|refine zyn ?_
   refine zyr ?_
   repeat' first|(refine zap rfl ?_;first|refine zdu rfl rfl ?_|refine zdk [0] hG (dqMore w0 p _ _) rfl rfl rfl zdj (fun u s hG => ?_))|refine zp ?_|refine zyn ?_
   refine zyr ?_
   repeat' (refine zap rfl ?_;refine zae 1 rfl rfl rfl rfl rfl rfl rfl ?_)
   all_goals refine zyn ?_
   exact zeg (dqPush_fin w0 p eb m R 0 s _ rfl hG)
 | false =>
   rw [hN, if_neg (by decide)] at hG
   rw [hN] at kn
   try simp only [Pg.pure_bind] at hG
   refine zyr ?_
   repeat' first|(refine zap rfl ?_;refine zbd rfl rfl (by omega) ?_)|refine zp ?_|refine zyn ?_
   refine zcj rfl ?_
   refine zyr ?_
   repeat' first|(refine zap rfl ?_;first|refine zbx rfl ?_|refine zah [] kn rfl rfl rfl zdj rfl ?_)|refine zp ?_|refine zyl 0 rfl ?_|refine zyn ?_
   refine zci rfl ?_
   refine zyr ?_
   repeat' (refine zap rfl ?_;refine zae 1 rfl rfl rfl rfl rfl rfl rfl ?_)
   all_goals refine zyn ?_
   exact zeg (dqPush_fin w0 p eb m R 24 s _ rfl hG)
theorem ctrFits (a n : Int) : FnE PP w0 [] 108 [.int .i64 a, .int .i64 n] [] (.bool (Ctr.fits a n)) [] := by
 unfold Ctr.fits
 by_cases h : n > 0
 · rw [if_pos h]
   refine zep en108 fn108 rfl rfl rfl ?_
   refine zyr ?_
   repeat' refine zp ?_
   all_goals refine zyn ?_
   refine zyr ?_
   repeat' first|(refine zap rfl ?_;refine zbk rfl rfl (by omega) ?_)|refine zp ?_|refine zyn ?_
   refine zci rfl ?_
   repeat' first|refine zck ?_|refine zyq ?_|(refine zap rfl ?_;first|refine zev (t := 2) rfl rfl ?_|refine zbr rfl rfl ?_)|refine zp ?_|refine zch ?_
   exact zej rfl ⟨rfl, rfl⟩
 · rw [if_neg h]
   refine zep en108 fn108 rfl rfl rfl ?_
   refine zyr ?_
   repeat' refine zp ?_
   all_goals refine zyn ?_
   refine zyr ?_
   repeat' first|(refine zap rfl ?_;refine zbl rfl rfl (by omega) ?_)|refine zp ?_|refine zyn ?_
   refine zcj rfl ?_
   repeat' first|refine zck ?_|refine zcm ?_|refine zyq ?_|(refine zap rfl ?_;first|refine zev (t := 2) rfl rfl ?_|refine zbt rfl rfl ?_)|refine zp ?_|refine zch ?_
   exact zej rfl ⟨rfl, rfl⟩
theorem ctrAdd (p : Nat) (r n : Int) : FnG w0 [] 44 [spP p, .int .i64 r, .int .i64 n] p (Ctr.add r n) encI2 := by
 intro s hS
 have hG := At.start hS
 generalize Pg.run _ s = R at hG ⊢
 unfold Ctr.add at hG
 refine zep en44 fn44 rfl rfl rfl ?_
 refine zyr ?_
 repeat' refine zp ?_
 all_goals refine zyn ?_
 refine zyr ?_
 repeat' first|(refine zap rfl ?_;refine zdk [0] hG (ctrGet w0 p r) rfl rfl rfl zdj (fun x s hG => ?_))|refine zp ?_|refine zyn ?_
 have hft := ctrFits w0 x n
 cases hf : Ctr.fits x n with
 | false =>
   rw [hf] at hft
   rw [hf, if_neg (by decide)] at hG
   rw [hG.done]
   repeat' first|refine zck ?_|refine zyq ?_|(refine zap rfl ?_;first|refine zbx rfl ?_|refine zah [] hft rfl rfl rfl zdj rfl ?_)|refine zp ?_|refine zch ?_|refine zci rfl ?_
   exact zei rfl ⟨rfl, rfl⟩
 | true =>
   rw [hf] at hft
   rw [hf, if_pos rfl] at hG
   repeat' first|refine zck ?_|refine zcm ?_|refine zyq ?_|(refine zap rfl ?_;first|refine zbx rfl ?_|refine zdu (t := 2) rfl rfl ?_|refine zah [] hft rfl rfl rfl zdj rfl ?_|refine zdk [0] hG (putG w0 p _ _) rfl rfl rfl zdj (fun u s hG => ?_))|refine zp ?_|refine zch ?_|refine zcj rfl ?_
   rw [hG.done]
   exact zei rfl ⟨rfl, rfl⟩
theorem heNode (p wb : Nat) (H : He) (hH : H.Ok) (b : Bool) (n : Int) : FnE PP w0 [] 280 [.pointer (some ⟨wb, 0, none⟩), .int .i64 n] [hwA wb p H b] (.int .i64 (H.nd n b).1) [hwA wb p H (H.nd n b).2] := by
 have kn := node_spec w0 H.pool hH.1 n
 unfold He.nd
 cases hN : H.pool.node n with
 | true =>
   rw [hN] at kn
   rw [if_pos rfl]
   refine zep en280 fn280 rfl rfl rfl ?_
   repeat' first|refine zck ?_|refine zcm ?_|refine zyq ?_|(refine zap rfl ?_;first|refine zbx rfl ?_|refine zab 0 rfl rfl rfl ?_|refine zah [] kn rfl rfl rfl zdj rfl ?_)|refine zp ?_|refine zyf rfl ?_|refine zch ?_|refine zcj rfl ?_
   exact zej rfl ⟨rfl, rfl⟩
 | false =>
   rw [hN] at kn
   rw [if_neg (by decide)]
   refine zep en280 fn280 rfl rfl rfl ?_
   repeat' first|refine zck ?_|refine zyq ?_|(refine zap rfl ?_;first|refine zbx rfl ?_|refine zab 0 rfl rfl rfl ?_|refine zah [] kn rfl rfl rfl zdj rfl ?_|refine zae 0 rfl rfl rfl rfl rfl rfl rfl ?_)|refine zp ?_|refine zyf rfl ?_|refine zch ?_|refine zci rfl ?_
   exact zej rfl ⟨rfl, rfl⟩
theorem heRow (p wb : Nat) (H : He) (hH : H.Ok) (b : Bool) (x : Int) (hx : 1 ≤ x ∧ x ≤ 100) : FnW w0 277 [.pointer (some ⟨wb, 0, none⟩), .int .i64 x] p wb H b (H.row x b) (fun a => .tuple #[.int .i64 a, .int .i64 ((x - 1) % 8)]) := by
 intro s hS; have hG := At.start hS; generalize Pg.run _ s = R at hG ⊢
 unfold He.row at hG
 refine zep en277 fn277 rfl rfl rfl ?_
 repeat' first|refine zck ?_|refine zyq ?_|(refine zap rfl ?_;first|refine zdn [0, 0] hG (heRoot w0 p wb H b _) rfl rfl rfl (fun v s hG => ?_)|refine zah [1] (heNode w0 p wb H hH b _) rfl rfl rfl zdj rfl ?_|refine zau rfl rfl (by omega) ?_|refine zav rfl rfl (by omega) ?_|refine zax rfl rfl (by omega) ?_|refine zay rfl rfl (by omega) ?_)|refine zp ?_|refine zch ?_
 rw [hG.done]
 refine zec [1, 0] rfl ?_
 exact zei rfl ⟨rfl, rfl⟩
theorem heItem (p wb : Nat) (H : He) (hH : H.Ok) (b : Bool) (x : Int) (hx : 1 ≤ x ∧ x ≤ 100) : FnW w0 157 [.pointer (some ⟨wb, 0, none⟩), .int .i64 x] p wb H b (H.item x b) (.int .i64) := by
 intro s hS; have hG := At.start hS; generalize Pg.run _ s = R at hG ⊢
 unfold He.item at hG
 refine zep en157 fn157 rfl rfl rfl ?_
 refine zyr ?_
 repeat' refine zp ?_
 all_goals refine zyn ?_
 refine zyr ?_
 repeat' first|(refine zap rfl ?_;refine zdp [0, 0] hG (heRow w0 p wb H hH b x hx) rfl rfl rfl (fun a c s hG => ?_))|refine zp ?_|refine zyn ?_
 dsimp only at hG
 by_cases ha : a = 0
 · rw [if_pos ha] at hG
   rw [hG.done]
   repeat' first|refine zck ?_|refine zyq ?_|(refine zap rfl ?_;refine zbc rfl rfl (by omega) ?_)|refine zp ?_|refine zch ?_|refine zci rfl ?_
   exact zej rfl ⟨rfl, rfl⟩
 · rw [if_neg ha] at hG
   repeat' first|refine zck ?_|refine zcm ?_|refine zyq ?_|(refine zap rfl ?_;first|refine zdn [0, 0] hG (heGet w0 p wb H c a _) rfl rfl rfl (fun v s hG => ?_)|refine zah [1] (heNode w0 p wb H hH c _) rfl rfl rfl zdj rfl ?_|refine zbd rfl rfl (by omega) ?_)|refine zp ?_|refine zch ?_|refine zcj rfl ?_
   rw [hG.done]
   refine zec [1, 0] rfl ?_
   exact zej rfl ⟨rfl, rfl⟩
theorem heLay (p wb : Nat) (H : He) (hH : H.Ok) (b : Bool) (x a : Int) (hx : 1 ≤ x ∧ x ≤ 100) : FnW w0 276 [.pointer (some ⟨wb, 0, none⟩), .int .i64 x, .int .i64 a] p wb H b (H.lay x a b) encU := by
 intro s hS; have hG := At.start hS; generalize Pg.run _ s = R at hG ⊢
 unfold He.lay at hG
 refine zep en276 fn276 rfl rfl rfl ?_
 refine zyr ?_
 repeat' first|(refine zap rfl ?_;refine zdp [0, 0] hG (heRow w0 p wb H hH b x hx) rfl rfl rfl (fun r c s hG => ?_))|refine zp ?_|refine zyn ?_
 dsimp only at hG
 repeat' first|refine zyq ?_|(refine zap rfl ?_;refine zdn [0, 0] hG (hePut w0 p wb H c _ _ _) rfl rfl rfl (fun v s hG => ?_))|refine zp ?_|refine zch ?_
 rw [hG.done]
 exact end_tmp0 rfl ⟨rfl, rfl⟩
theorem heRise (p wb : Nat) (H : He) (hH : H.Ok) (b : Bool) (x a : Int) (hx : 1 ≤ x ∧ x ≤ 100) : FnW w0 155 [.pointer (some ⟨wb, 0, none⟩), .int .i64 x, .int .i64 a] p wb H b (H.rise x a b) (.int .i64) := by
 intro s hS; have hG := At.start hS; generalize Pg.run _ s = R at hG ⊢
 unfold He.rise at hG
 refine zep en155 fn155 rfl rfl rfl ?_
 refine zyr ?_
 repeat' refine zp ?_
 all_goals refine zyn ?_
 refine zyr ?_
 repeat' first|(refine zap rfl ?_;first|refine zar (fun t7 => ?_)|refine zdn [0, 0] hG (heKey w0 p wb H b a) rfl rfl rfl (fun own s hG => ?_)|refine zae 2 rfl rfl rfl rfl rfl rfl rfl ?_)|refine zp ?_|refine zyn ?_
 refine zeb [2] rfl ?_
 repeat (first|refine zck ?_|refine zcl ?_|refine zcm ?_|refine zcn ?_|refine zco ?_)
 refine run_loop (S := Int × Bool × Nat × Sp) (fun v => [(0, .pointer (some ⟨wb, 0, none⟩)), (1, .int .i64 v.1), (2, .int .i64 a), (7, .pointer (some ⟨t7, 0, none⟩))])
   (fun v Γ => Γ = [SpaceA p v.2.2.2, hwA wb p H v.2.1] ∧ At R (H.riseK own a v.2.2.1 v.1 v.2.1) v.2.2.2 ∧ 1 ≤ v.1 ∧ v.1 ≤ 100 ∧ v.1 < 2 ^ v.2.2.1) (fun v => v.2.2.1) (x, b, 7, s) ⟨rfl, rfl, rfl, rfl, trivial⟩ ⟨rfl, hG, hx.1, hx.2, by dsimp only; omega⟩ ?_
 rintro ⟨y, c, k, s⟩ Γ junk ⟨rfl, hG, h1, h2, h3⟩
 dsimp only at hG h1 h2 h3 ⊢
 obtain ⟨j, rfl⟩ : ∃ j, k = j + 1 := by
   cases k with
   | zero => simp at h3; omega
   | succ j => exact ⟨j, rfl⟩
 rw [He.riseK] at hG
 by_cases hc : 1 < y ∧ c = false
 · rw [if_pos hc] at hG
   obtain ⟨hy1, rfl⟩ := hc
   refine zyr ?_
   repeat' first|(refine zap rfl ?_;first|refine zbx rfl ?_|refine zaj rfl ?_|refine zab 1 rfl rfl rfl ?_|refine zbk rfl rfl (by omega) ?_|refine zbu rfl ?_)|refine zp ?_|refine zyf rfl ?_|refine zyn ?_
   refine zci rfl ?_
   refine zyr ?_
   repeat' first|(refine zap rfl ?_;first|refine zdp [0, 0] hG (heItem w0 p wb H hH false (y / 2) (by omega)) rfl rfl rfl (fun u c s hG => ?_)|refine zax rfl rfl (by omega) ?_)|refine zp ?_|refine zyn ?_
   dsimp only at hG
   refine zyr ?_
   repeat' first|(refine zap rfl ?_;first|refine zbx rfl ?_|refine zdn [0, 0] hG (heKey w0 p wb H _ _) rfl rfl rfl (fun q s hG => ?_)|refine zah [] (heAhead w0 own q) rfl rfl rfl zdj rfl ?_)|refine zp ?_|refine zyl 0 rfl ?_|refine zyn ?_
   refine zee rfl (fun hE => ?_) (fun hE => ?_)
   · have hE : ahdB own q = false := by simpa using hE
     simp only [hE, Bool.false_eq_true, if_false] at hG
     refine zer rfl rfl ?_
     repeat' first|refine zck ?_|refine zyq ?_|(refine zap rfl ?_;refine zdp [0, 0] hG (heLay w0 p wb H hH c y a (by omega)) rfl rfl rfl (fun _ d s hG => ?_))|refine zp ?_|refine zch ?_
     rw [hG.done]
     exact zej rfl ⟨rfl, rfl⟩
   · have hE : ahdB own q = true := by simpa using hE
     simp only [hE, if_true] at hG
     repeat' first|refine zck ?_|refine zcm ?_|refine zcn ?_|refine zyq ?_|(refine zap rfl ?_;first|refine zdp [0, 0] hG (heLay w0 p wb H hH c y u (by omega)) rfl rfl rfl (fun _ d s hG => ?_)|refine zax rfl rfl (by omega) ?_)|refine zp ?_|refine zch ?_
     refine zeq ⟨rfl, (y / 2, d, j, s), ⟨rfl, rfl, rfl, rfl, trivial⟩, ⟨rfl, hG, by dsimp only; omega, by dsimp only; omega, ?_⟩, by dsimp only; omega⟩
     dsimp only
     rw [Int.pow_succ] at h3
     omega
 · rw [if_neg hc] at hG
   by_cases hy1 : 1 < y
   · have hct : c = true := by cases c with
       | true => rfl
       | false => exact absurd ⟨hy1, rfl⟩ hc
     subst hct
     refine zyr ?_
     repeat' first|(refine zap rfl ?_;first|refine zbx rfl ?_|refine zaj rfl ?_|refine zab 1 rfl rfl rfl ?_|refine zbk rfl rfl (by omega) ?_|refine zbu rfl ?_)|refine zp ?_|refine zyf rfl ?_|refine zyn ?_
     refine zcj rfl ?_
     refine zer rfl rfl ?_
     repeat' first|refine zck ?_|refine zyq ?_|(refine zap rfl ?_;refine zdp [0, 0] hG (heLay w0 p wb H hH true y a (by omega)) rfl rfl rfl (fun _ d s hG => ?_))|refine zp ?_|refine zch ?_
     rw [hG.done]
     exact zej rfl ⟨rfl, rfl⟩
   · repeat (first|refine zck ?_|refine zcl ?_|refine zcm ?_|refine zcn ?_)
     refine zyr ?_
     repeat' first|(refine zap rfl ?_;first|refine zak rfl ?_|refine zbl rfl rfl (by omega) ?_|refine zbv rfl ?_)|refine zp ?_|refine zyn ?_
     refine zcj rfl ?_
     refine zer rfl rfl ?_
     repeat' first|refine zck ?_|refine zyq ?_|(refine zap rfl ?_;refine zdp [0, 0] hG (heLay w0 p wb H hH c y a (by omega)) rfl rfl rfl (fun _ d s hG => ?_))|refine zp ?_|refine zch ?_
     rw [hG.done]
     exact zej rfl ⟨rfl, rfl⟩
theorem heSink (p wb : Nat) (H : He) (hH : H.Ok) (b : Bool) (x a n : Int) (hx : 1 ≤ x ∧ x ≤ 32) (hn : n ≤ 32) : FnW w0 278 [.pointer (some ⟨wb, 0, none⟩), .int .i64 x, .int .i64 a, .int .i64 n] p wb H b (H.sink x a n b) encU := by
 intro s hS; have hG := At.start hS; generalize Pg.run _ s = R at hG ⊢
 unfold He.sink at hG
 refine zep en278 fn278 rfl rfl rfl ?_
 refine zyr ?_
 repeat' first|(refine zap rfl ?_;first|refine zar (fun t8 => ?_)|refine zdn [0, 0] hG (heKey w0 p wb H b a) rfl rfl rfl (fun own s hG => ?_)|refine zae 2 rfl rfl rfl rfl rfl rfl rfl ?_)|refine zp ?_|refine zyn ?_
 refine zeb [2] rfl ?_
 repeat (first|refine zck ?_|refine zcl ?_|refine zcm ?_|refine zcn ?_|refine zco ?_)
 refine run_loop (S := Int × Bool × Nat × Sp) (fun v => [(0, .pointer (some ⟨wb, 0, none⟩)), (1, .int .i64 v.1), (2, .int .i64 a), (3, .int .i64 n), (8, .pointer (some ⟨t8, 0, none⟩))])
   (fun v Γ => Γ = [SpaceA p v.2.2.2, hwA wb p H v.2.1] ∧ At R (H.sinkK own a n v.2.2.1 v.1 v.2.1) v.2.2.2 ∧ 1 ≤ v.1 ∧ v.1 ≤ 33 ∧ 64 < v.1 * 2 ^ v.2.2.1) (fun v => v.2.2.1) (x, b, 7, s) ⟨rfl, rfl, rfl, rfl, rfl, trivial⟩ ⟨rfl, hG, hx.1, by dsimp only; omega, by dsimp only; omega⟩ ?_
 rintro ⟨y, c, k, s⟩ Γ junk ⟨rfl, hG, h1, h2, h3⟩
 dsimp only at hG h1 h2 h3 ⊢
 obtain ⟨j, rfl⟩ : ∃ j, k = j + 1 := by
   cases k with
   | zero => simp at h3; omega
   | succ j => exact ⟨j, rfl⟩
 rw [He.sinkK] at hG
 by_cases hc : 2 * y ≤ n ∧ c = false
 rotate_left
 · rw [if_neg hc] at hG
   by_cases hy1 : 2 * y ≤ n
   · have hct : c = true := by cases c with
       | true => rfl
       | false => exact absurd ⟨hy1, rfl⟩ hc
     subst hct
     refine zyr ?_
     repeat' first|(refine zap rfl ?_;first|refine zbx rfl ?_|refine zaj rfl ?_|refine zab 1 rfl rfl rfl ?_|refine zbi rfl rfl (by omega) ?_|refine zaw rfl rfl (by omega) ?_|refine zbu rfl ?_)|refine zp ?_|refine zyf rfl ?_|refine zyn ?_
     refine zcj rfl ?_
     refine zer rfl rfl ?_
     have hG := hG.to (Pg.bind_pure _).symm
     repeat' first|refine zyq ?_|(refine zap rfl ?_;refine zdp [0, 0] hG (heLay w0 p wb H hH true y a (by omega)) rfl rfl rfl (fun _ d s hG => ?_))|refine zp ?_|refine zch ?_
     rw [hG.done]
     exact end_tmp0 rfl ⟨rfl, rfl⟩
   · repeat (first|refine zck ?_|refine zcl ?_|refine zcm ?_|refine zcn ?_)
     refine zyr ?_
     repeat' first|(refine zap rfl ?_;first|refine zak rfl ?_|refine zbj rfl rfl (by omega) ?_|refine zaw rfl rfl (by omega) ?_|refine zbv rfl ?_)|refine zp ?_|refine zyn ?_
     refine zcj rfl ?_
     refine zer rfl rfl ?_
     have hG := hG.to (Pg.bind_pure _).symm
     repeat' first|refine zyq ?_|(refine zap rfl ?_;refine zdp [0, 0] hG (heLay w0 p wb H hH c y a (by omega)) rfl rfl rfl (fun _ d s hG => ?_))|refine zp ?_|refine zch ?_
     rw [hG.done]
     exact end_tmp0 rfl ⟨rfl, rfl⟩
 rw [if_pos hc] at hG
 obtain ⟨hy1, rfl⟩ := hc
 simp only [He.kid, Pg.bind_assoc, Pg.ite_bind, Pg.pure_bind] at hG
 refine zyr ?_
 repeat' first|(refine zap rfl ?_;first|refine zbx rfl ?_|refine zaj rfl ?_|refine zab 1 rfl rfl rfl ?_|refine zbi rfl rfl (by omega) ?_|refine zaw rfl rfl (by omega) ?_|refine zbu rfl ?_)|refine zp ?_|refine zyf rfl ?_|refine zyn ?_
 refine zci rfl ?_
 refine zyr ?_
 repeat' first|(refine zap rfl ?_;refine zaw rfl rfl (by omega) ?_)|refine zp ?_|refine zyn ?_
 refine zyr ?_
 repeat' first|(refine zap rfl ?_;refine zdp [0, 0] hG (heItem w0 p wb H hH false (2 * y) (by omega)) rfl rfl rfl (fun u c s hG => ?_))|refine zp ?_|refine zyn ?_
 dsimp only at hG
 refine zyr ?_
 repeat' first|(refine zap rfl ?_;refine zbq rfl rfl ?_)|refine zp ?_|refine zyn ?_
 refine run_join (S := Int × Int × Bool × Sp) (fun v => [(0, .pointer (some ⟨wb, 0, none⟩)), (1, .int .i64 y), (2, .int .i64 a), (3, .int .i64 n), (8, .pointer (some ⟨t8, 0, none⟩)), (9, .int .i64 v.1), (10, .int .i64 v.2.1)])
   (fun v Γ => Γ = [SpaceA p v.2.2.2, hwA wb p H v.2.2.1] ∧ At R (He.key v.2.1 >>= fun q => if ahdB q own = true then H.lay y v.2.1 v.2.2.1 >>= fun b => H.sinkK own a n j v.1 b.2 else H.lay y a v.2.2.1) v.2.2.2 ∧ 2 * y ≤ v.1 ∧ v.1 ≤ 2 * y + 1 ∧ v.1 ≤ 33) ?_ ?_
 · refine zed rfl (fun hk => ?_) (fun hk => ?_)
   · rw [if_pos hk] at hG
     refine zyr ?_
     repeat' first|(refine zap rfl ?_;first|refine zdp [0, 0] hG (heItem w0 p wb H hH c (2 * y + 1) (by omega)) rfl rfl rfl (fun v d s hG => ?_)|refine zau rfl rfl (by omega) ?_)|refine zp ?_|refine zyn ?_
     dsimp only at hG
     refine zyr ?_
     repeat' first|(refine zap rfl ?_;first|refine zdn [0, 0] hG (heKey w0 p wb H d _) rfl rfl rfl (fun q s hG => ?_)|refine zah [] (heAhead w0 _ _) rfl rfl rfl zdj rfl ?_)|refine zp ?_|refine zyn ?_
     refine zee rfl (fun hE => ?_) (fun hE => ?_)
     · simp only [hE, if_true] at hG
       repeat' first|refine zyq ?_|(refine zap rfl ?_;refine zau rfl rfl (by omega) ?_)|refine zp ?_|refine zch ?_
       exact zeq ⟨rfl, (2 * y + 1, v, d, s), ⟨rfl, rfl, rfl, rfl, rfl, rfl, rfl, trivial⟩, ⟨rfl, hG, by dsimp only; omega, by dsimp only; omega, by dsimp only; omega⟩⟩
     · simp only [hE, Bool.false_eq_true, if_false] at hG
       repeat' first|refine zcm ?_|(refine zap rfl ?_;first|refine zaj rfl ?_|refine zak rfl ?_|refine zal rfl ?_|refine zam rfl rfl (fun _ => ?_) (fun _ => ?_))|refine zch ?_
       exact zeq ⟨rfl, (2 * y, u, d, s), ⟨rfl, rfl, rfl, rfl, rfl, rfl, rfl, trivial⟩, ⟨rfl, hG, by dsimp only; omega, by dsimp only; omega, by dsimp only; omega⟩⟩
   · rw [if_neg hk] at hG
     repeat' first|refine zcm ?_|(refine zap rfl ?_;first|refine zaj rfl ?_|refine zak rfl ?_|refine zal rfl ?_|refine zam rfl rfl (fun _ => ?_) (fun _ => ?_))|refine zch ?_
     exact zeq ⟨rfl, (2 * y, u, c, s), ⟨rfl, rfl, rfl, rfl, rfl, rfl, rfl, trivial⟩, ⟨rfl, hG, by dsimp only; omega, by dsimp only; omega, by dsimp only; omega⟩⟩
 rintro ⟨kd, u, c, s⟩ Γ junk2 ⟨rfl, hG, g1, g2, g3⟩
 dsimp only at hG g1 g2 g3 ⊢
 refine zyr ?_
 repeat' first|(refine zap rfl ?_;first|refine zbx rfl ?_|refine zdn [0, 0] hG (heKey w0 p wb H _ _) rfl rfl rfl (fun q s hG => ?_)|refine zah [] (heAhead w0 q own) rfl rfl rfl zdj rfl ?_)|refine zp ?_|refine zyl 0 rfl ?_|refine zyn ?_
 refine zee rfl (fun hE => ?_) (fun hE => ?_)
 · have hE : ahdB q own = false := by simpa using hE
   simp only [hE, Bool.false_eq_true, if_false] at hG
   refine zer rfl rfl ?_
   have hG := hG.to (Pg.bind_pure _).symm
   repeat' first|refine zyq ?_|(refine zap rfl ?_;refine zdp [0, 0] hG (heLay w0 p wb H hH c y a (by omega)) rfl rfl rfl (fun _ d s hG => ?_))|refine zp ?_|refine zch ?_
   rw [hG.done]
   exact end_tmp0 rfl ⟨rfl, rfl⟩
 · have hE : ahdB q own = true := by simpa using hE
   simp only [hE, if_true] at hG
   repeat' first|refine zck ?_|refine zcm ?_|refine zcn ?_|refine zyq ?_|(refine zap rfl ?_;refine zdp [0, 0] hG (heLay w0 p wb H hH c y u (by omega)) rfl rfl rfl (fun _ d s hG => ?_))|refine zp ?_|refine zch ?_
   refine zeq ⟨rfl, (kd, d, j, s), ⟨rfl, rfl, rfl, rfl, rfl, trivial⟩, ⟨rfl, hG, by dsimp only; omega, by dsimp only; omega, ?_⟩, by dsimp only; omega⟩
   dsimp only
   have h4 : y * 2 ^ (j + 1) = (2 * y) * 2 ^ j := by rw [Int.pow_succ]; ac_rfl
   rw [h4] at h3
   exact Int.lt_of_lt_of_le h3 (Int.mul_le_mul_of_nonneg_right g1 (Int.le_of_lt (Int.pow_pos (by decide))))
end Go.Proofs.YtgdhcgnmffgkiaaGreatDoor
