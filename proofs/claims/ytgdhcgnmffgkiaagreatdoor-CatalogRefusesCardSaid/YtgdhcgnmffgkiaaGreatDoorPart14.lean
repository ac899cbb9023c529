import Derived.Test.YtgdhcgnmffgkiaaGreatDoorPart13
/- Own work: lemmas of this claim. -/
namespace Go.Proofs.YtgdhcgnmffgkiaaGreatDoor
variable (w0 : World)
open Go.Vc Sim
set_option maxHeartbeats 4000000
def foV (F : Fo) : Value := .agg #[.int .i64 F.pool.root, .int .i64 F.pool.frm, .int .i64 F.pool.nodes, .int .i64 F.root]
theorem _root_.Sim.Fo.nodeN_bd (v : Int) : 0 ≤ Fo.nodeN v ∧ Fo.nodeN v ≤ 4096 := by unfold Fo.nodeN; split <;> omega
theorem foNode (F : Fo) (hF : F.Ok) (v : Int) : FnE PP w0 [] 285 [foV F, .int .i64 v] [] (.tuple #[.int .i64 (Fo.nodeN v), .bool (F.nodeB v)]) [] := by
 refine zep en285 fn285 rfl rfl rfl ?_
 refine zyr ?_
 repeat' first|(refine zap rfl ?_;first|refine zdw rfl rfl (by omega) ?_|refine zau rfl rfl (by omega) ?_|refine zdu rfl rfl ?_|refine zaq (cs := [_, _, _, _]) rfl (fun nb => ?_))|refine zp ?_|refine zyn ?_
 refine zeb [0] rfl ?_
 repeat' first|refine zck ?_|refine zcm ?_|refine zyq ?_|(refine zap rfl ?_;first|refine zdw rfl rfl (by omega) ?_|refine zau rfl rfl (by omega) ?_|refine zdu rfl rfl ?_|refine zaj rfl ?_|refine zak rfl ?_|refine zam rfl rfl (fun _ => ?_) (fun _ => ?_)|refine zah [] (node_spec w0 F.pool hF.1 _) rfl rfl rfl zdj rfl ?_|refine zbr rfl rfl ?_|refine zbs rfl rfl ?_|refine zbu rfl ?_|refine zbv rfl ?_)|refine zp ?_|refine zyl 0 rfl ?_|refine zyf rfl ?_|refine zch ?_|refine zci rfl ?_|refine zed rfl (fun _ => ?_) (fun _ => ?_)
 all_goals refine zei rfl ⟨?_, rfl⟩
 all_goals unfold Fo.nodeN Fo.nodeB
 all_goals first|rw [if_pos (by omega), if_pos (by omega)]|rw [if_neg (by omega), if_neg (by omega)]
 all_goals rfl
theorem foCell (p : Nat) (F : Fo) (hF : F.Ok) (x : Int) (hx : 1 ≤ x ∧ x ≤ 9223372036854775807) : FnG w0 [] 284 [foV F, spP p, .int .i64 x] p (F.cell x) encIB := by
 obtain ⟨_, h1, h2⟩ := id hF
 intro s hS; have hG := At.start hS; generalize Pg.run _ s = R at hG ⊢
 refine zep en284 fn284 rfl rfl rfl ?_
 refine zyr ?_
 repeat' first|(refine zap rfl ?_;first|refine zdw rfl rfl (by omega) ?_|refine zau rfl rfl (by omega) ?_|refine zdu rfl rfl ?_|refine zaq (cs := [_, _, _, _]) rfl (fun nb => ?_))|refine zp ?_|refine zyn ?_
 refine zeb [1] rfl ?_
 repeat' first|refine zck ?_|refine zyq ?_|(refine zap rfl ?_;first|refine zau rfl rfl (by have := Fo.nodeN_bd u; omega) ?_|refine zdw rfl rfl (by omega) ?_|refine zau rfl rfl (by omega) ?_|refine zdu rfl rfl ?_|refine zdk [0] hG (getG w0 p _) rfl rfl rfl zdj (fun u s hG => ?_)|refine zah [] (foNode w0 F hF _) rfl rfl rfl zdj rfl ?_|refine zav rfl rfl (by omega) ?_|refine zax rfl rfl (by omega) ?_|refine zay rfl rfl (by omega) ?_)|refine zp ?_|refine zyl 0 rfl ?_|refine zyf rfl ?_|refine zch ?_
 rw [hG.done]
 exact zei rfl ⟨rfl, rfl⟩
theorem foMany (p : Nat) (F : Fo) (hF : F.Ok) : FnG w0 [] 186 [foV F, spP p] p F.many encIB := by
 obtain ⟨_, h1, h2⟩ := id hF
 intro s hS; have hG := At.start hS; generalize Pg.run _ s = R at hG ⊢
 refine zep en186 fn186 rfl rfl rfl ?_
 refine zyr ?_
 repeat' first|(refine zap rfl ?_;first|refine zdw rfl rfl (by omega) ?_|refine zau rfl rfl (by omega) ?_|refine zdu rfl rfl ?_|refine zaq (cs := [_, _, _, _]) rfl (fun nb => ?_))|refine zp ?_|refine zyn ?_
 refine zeb [1] rfl ?_
 repeat' first|refine zck ?_|refine zyq ?_|(refine zap rfl ?_;first|refine zdw rfl rfl (by omega) ?_|refine zau rfl rfl (by omega) ?_|refine zdu rfl rfl ?_|refine zaj rfl ?_|refine zak rfl ?_|refine zam rfl rfl (fun _ => ?_) (fun _ => ?_)|refine zdk [0] hG (getG w0 p _) rfl rfl rfl zdj (fun u s hG => ?_)|refine zbr rfl rfl ?_|refine zbt rfl rfl ?_|refine zbu rfl ?_|refine zbv rfl ?_)|refine zp ?_|refine zyl 0 rfl ?_|refine zyf rfl ?_|refine zch ?_
 all_goals rw [hG.done]
 all_goals (refine zei rfl ⟨?_, rfl⟩)
 all_goals refine congrArg Value.tuple (?_ : #[Value.int .i64 _, .bool _] = #[Value.int .i64 _, .bool _])
 all_goals simp_all
 all_goals omega
theorem foCheck (p : Nat) (F : Fo) (hF : F.Ok) (x : Int) : FnG w0 [] 190 [foV F, spP p, .int .i64 x] p (F.check x) (.int .i64) := by
 obtain ⟨_, h1, h2⟩ := id hF
 intro s hS; have hG := At.start hS; generalize Pg.run _ s = R at hG ⊢
 refine zep en190 fn190 rfl rfl rfl ?_
 refine zyr ?_
 repeat' first|(refine zap rfl ?_;first|refine zdw rfl rfl (by omega) ?_|refine zau rfl rfl (by omega) ?_|refine zdu rfl rfl ?_|refine zaq (cs := [_, _, _, _]) rfl (fun nb => ?_))|refine zp ?_|refine zyn ?_
 refine zeb [1] rfl ?_
 by_cases hx : x < 1
 · rw [Fo.check, if_pos hx] at hG
   rw [hG.done]
   repeat' first|refine zck ?_|refine zyq ?_|(refine zap rfl ?_;first|refine zdw rfl rfl (by omega) ?_|refine zau rfl rfl (by omega) ?_|refine zdu rfl rfl ?_|refine zak rfl ?_|refine zbg rfl rfl (by omega) ?_|refine zbu rfl ?_)|refine zp ?_|refine zch ?_|refine zci rfl ?_
   exact zej rfl ⟨rfl, rfl⟩
 · rw [Fo.check, if_neg hx] at hG
   repeat' first|refine zck ?_|refine zcm ?_|refine zyq ?_|(refine zap rfl ?_;first|refine zdw rfl rfl (by omega) ?_|refine zau rfl rfl (by omega) ?_|refine zdu rfl rfl ?_|refine zaj rfl ?_|refine zdk [0] hG (getG w0 p _) rfl rfl rfl zdj (fun u s hG => ?_)|refine zbh rfl rfl (by omega) ?_|refine zbs rfl rfl ?_|refine zbv rfl ?_)|refine zp ?_|refine zyl 0 rfl ?_|refine zyf rfl ?_|refine zch ?_|refine zed rfl (fun _ => ?_) (fun _ => ?_)
   all_goals first|rw [if_pos (by omega)] at hG|rw [if_neg (by omega)] at hG
   all_goals rw [hG.done]
   · repeat' first|refine zck ?_|(refine zap rfl ?_;first|refine zdw rfl rfl (by omega) ?_|refine zau rfl rfl (by omega) ?_|refine zdu rfl rfl ?_|refine zaj rfl ?_|refine zak rfl ?_|refine zal rfl ?_|refine zam rfl rfl (fun _ => ?_) (fun _ => ?_))|refine zch ?_
     exact zej rfl ⟨rfl, rfl⟩
   · repeat' first|refine zck ?_|(refine zap rfl ?_;first|refine zdw rfl rfl (by omega) ?_|refine zau rfl rfl (by omega) ?_|refine zdu rfl rfl ?_|refine zaj rfl ?_|refine zak rfl ?_|refine zal rfl ?_|refine zam rfl rfl (fun _ => ?_) (fun _ => ?_))|refine zch ?_
     exact zej rfl ⟨rfl, rfl⟩
theorem foTake (p : Nat) (F : Fo) (hF : F.Ok) : FnG w0 [] 283 [foV F, spP p] p F.take encI2 := by
 obtain ⟨_, h1, h2⟩ := id hF
 intro s hS; have hG := At.start hS; generalize Pg.run _ s = R at hG ⊢
 refine zep en283 fn283 rfl rfl rfl ?_
 refine zyr ?_
 repeat' first|(refine zap rfl ?_;first|refine zdw rfl rfl (by omega) ?_|refine zau rfl rfl (by omega) ?_|refine zdu rfl rfl ?_|refine zaq (cs := [_, _, _, _]) rfl (fun nb => ?_))|refine zp ?_|refine zyn ?_
 refine zeb [1] rfl ?_
 repeat' first|refine zck ?_|refine zyq ?_|(refine zap rfl ?_;first|refine zdw rfl rfl (by omega) ?_|refine zau rfl rfl (by omega) ?_|refine zdu rfl rfl ?_|refine zdk [0] hG (takeG w0 p F.pool hF.1) rfl rfl rfl zdj (fun u s hG => ?_)|refine zbp rfl rfl ?_)|refine zp ?_|refine zyl 0 rfl ?_|refine zyf rfl ?_|refine zch ?_
 refine zed rfl (fun hE => ?_) (fun hE => ?_)
 · rw [if_pos hE] at hG
   rw [hG.done]
   repeat' first|refine zck ?_|refine zyq ?_|(refine zap rfl ?_;first|refine zdw rfl rfl (by omega) ?_|refine zau rfl rfl (by omega) ?_|refine zdu rfl rfl ?_)|refine zp ?_|refine zch ?_
   exact zei rfl ⟨rfl, rfl⟩
 · rw [if_neg hE] at hG
   repeat' first|refine zck ?_|refine zcm ?_|refine zyq ?_|(refine zap rfl ?_;first|refine zdu (t := 2) rfl rfl ?_|refine zdw rfl rfl (by omega) ?_|refine zau rfl rfl (by omega) ?_|refine zdu rfl rfl ?_|refine zdk [0] hG (getG w0 p _) rfl rfl rfl zdj (fun u s hG => ?_)|refine zdk [0] hG (putG w0 p _ _) rfl rfl rfl zdj (fun u s hG => ?_))|refine zp ?_|refine zyl 0 rfl ?_|refine zyf rfl ?_|refine zch ?_
   rw [hG.done]
   exact zei rfl ⟨rfl, rfl⟩
theorem foAdd (p : Nat) (a m : Int) : FnG w0 [] 192 [spP p, .int .i64 a, .int .i64 m] p (Fo.add a m) encU := by
 intro s hS; have hG := At.start hS; generalize Pg.run _ s = R at hG ⊢
 refine zep en192 fn192 rfl rfl rfl ?_
 repeat' first|refine zyq ?_|(refine zap rfl ?_;first|refine zdu (t := 2) rfl rfl ?_|refine zdw rfl rfl (by omega) ?_|refine zau rfl rfl (by omega) ?_|refine zdu rfl rfl ?_|refine zdk [0] hG (getG w0 p _) rfl rfl rfl zdj (fun u s hG => ?_)|refine zdk [0] hG (putG w0 p _ _) rfl rfl rfl zdj (fun u s hG => ?_))|refine zp ?_|refine zch ?_
 rw [hG.done]
 exact end_tmp0 rfl ⟨rfl, rfl⟩
end Go.Proofs.YtgdhcgnmffgkiaaGreatDoor
namespace Sim.Fo
open Pg
variable (F : Fo)
theorem all_cell (x : Int) : All (fun r => 0 ≤ r.1 ∧ r.1 ≤ 4103) (F.cell x) := fun v => by
 have := nodeN_bd v
 refine all_pure ?_
 dsimp only
 omega
theorem all_place (x : Int) : All (fun r => 0 ≤ r.1 ∧ r.1 ≤ 4100) (F.place x) := by
 refine all_then fun c => all_ite (fun _ => ?_) fun _ => all_pure (by dsimp only; omega)
 refine all_then fun v => all_pure ?_
 have := nodeN_bd v
 dsimp only
 omega
theorem all_many : All (fun r => r.2 = true → 0 ≤ r.1 ∧ r.1 ≤ 64) F.many := fun v => by
 refine all_pure ?_
 dsimp only
 simp
theorem all_check (x : Int) : All (fun e => e = 0 → 1 ≤ x) (F.check x) := by
 refine all_ite (fun _ => ?_) (fun h => all_then fun n => all_ite (fun _ => ?_) fun _ => ?_)
 · exact all_pure (fun h => absurd h (by decide))
 · exact all_pure (fun h => absurd h (by decide))
 · exact all_pure (fun _ => by omega)
def InX (x : Int) : Prop := x ≤ 9223372036854775807
def Good (r : Int × Int) : Prop := r.2 = 0 → 1 ≤ r.1 ∧ InX r.1
theorem good_lost : Good (0, 24) := fun h => absurd h (by decide)
theorem good_err {e : Int} (h : e ≠ 0) : Good (0, e) := fun h2 => absurd h2 h
theorem all_climb (n : Int) (hn : n ≤ 64) : ∀ (k : Nat) (x : Int), 1 ≤ x → InX x → All Good (F.climb n k x)
 | 0, _, _, _ => all_pure good_lost
 | k + 1, x, h1, h2 => by
   refine all_then fun c => all_ite (fun _ => ?_) fun _ => all_pure good_lost
   refine all_then fun up => all_ite (fun _ => all_pure (fun _ => ⟨h1, h2⟩)) fun _ => all_ite (fun _ => all_pure good_lost) fun h => ?_
   exact all_climb n hn k up (by omega) (by unfold InX; omega)
theorem all_find (x : Int) (hx : InX x) : All Good (F.find x) := by
 refine all_bind (ψ := fun e => e = 0 → 1 ≤ x) (fun e he => all_ite (fun h => all_pure (good_err h)) fun h => ?_) (F.all_check x)
 refine all_bind (ψ := fun r => r.2 = true → 0 ≤ r.1 ∧ r.1 ≤ 64) (fun n hn => all_ite (fun h2 => ?_) fun _ => all_pure good_lost) F.all_many
 exact F.all_climb n.1 (hn h2).2 65 x (he (by omega)) hx
end Sim.Fo
namespace Go.Proofs.YtgdhcgnmffgkiaaGreatDoor
variable (w0 : World)
open Go.Vc Sim
set_option maxHeartbeats 4000000
theorem foPlace (p : Nat) (F : Fo) (hF : F.Ok) (x : Int) (hx : 1 ≤ x ∧ x ≤ 9223372036854775807) : FnG w0 [] 189 [foV F, spP p, .int .i64 x] p (F.place x) encIB := by
 obtain ⟨_, h1, h2⟩ := id hF
 intro s hS; have hG := At.start hS; generalize Pg.run _ s = R at hG ⊢
 refine zep en189 fn189 rfl rfl rfl ?_
 refine zyr ?_
 repeat' first|(refine zap rfl ?_;first|refine zdw rfl rfl (by omega) ?_|refine zau rfl rfl (by omega) ?_|refine zdu rfl rfl ?_|refine zaq (cs := [_, _, _, _]) rfl (fun nb => ?_))|refine zp ?_|refine zyn ?_
 refine zeb [1] rfl ?_
 repeat' first|refine zck ?_|refine zyq ?_|(refine zap rfl ?_;first|refine zdw rfl rfl (by omega) ?_|refine zau rfl rfl (by omega) ?_|refine zdu rfl rfl ?_|refine zdk [0] hG (foCell w0 p F hF x hx) rfl rfl rfl zdj (fun u s hG => ?_)|refine zbx rfl ?_)|refine zp ?_|refine zyl 0 rfl ?_|refine zch ?_
 refine zee rfl (fun hE => ?_) (fun hE => ?_)
 · have hE : u.2 = false := by simpa using hE
   simp only [hE, Bool.false_eq_true, if_false] at hG
   rw [hG.done]
   repeat' first|refine zck ?_|refine zyq ?_|(refine zap rfl ?_;first|refine zdw rfl rfl (by omega) ?_|refine zau rfl rfl (by omega) ?_|refine zdu rfl rfl ?_)|refine zp ?_|refine zch ?_
   exact zei rfl ⟨rfl, rfl⟩
 · have hE : u.2 = true := by simpa using hE
   simp only [hE, if_true] at hG
   repeat' first|refine zck ?_|refine zcm ?_|refine zyq ?_|(refine zap rfl ?_;first|refine zau rfl rfl (by have := Fo.nodeN_bd u; omega) ?_|refine zdw rfl rfl (by omega) ?_|refine zau rfl rfl (by omega) ?_|refine zdu rfl rfl ?_|refine zdk [0] hG (getG w0 p _) rfl rfl rfl zdj (fun u s hG => ?_)|refine zah [] (foNode w0 F hF _) rfl rfl rfl zdj rfl ?_|refine zav rfl rfl (by omega) ?_|refine zaw rfl rfl (by omega) ?_|refine zay rfl rfl (by omega) ?_)|refine zp ?_|refine zyl 0 rfl ?_|refine zch ?_
   rw [hG.done]
   exact zei rfl ⟨rfl, rfl⟩
theorem foSets (p : Nat) (F : Fo) (hF : F.Ok) : FnG w0 [] 102 [foV F, spP p] p F.sets (.int .i64) := by
 obtain ⟨_, h1, h2⟩ := id hF
 intro s hS
 have hG := (At.start hS).to (Pg.bind_pure _).symm
 generalize Pg.run _ s = R at hG ⊢
 unfold Fo.sets at hG
 refine zep en102 fn102 rfl rfl rfl ?_
 refine zyr ?_
 repeat' first|(refine zap rfl ?_;first|refine zdw rfl rfl (by omega) ?_|refine zau rfl rfl (by omega) ?_|refine zdu rfl rfl ?_|refine zaq (cs := [_, _, _, _]) rfl (fun nb => ?_))|refine zp ?_|refine zyn ?_
 refine zeb [1] rfl ?_
 repeat' first|refine zyq ?_|(refine zap rfl ?_;first|refine zdw rfl rfl (by omega) ?_|refine zau rfl rfl (by omega) ?_|refine zdu rfl rfl ?_|refine zdk [0] hG (getG w0 p _) rfl rfl rfl zdj (fun u s hG => ?_))|refine zp ?_|refine zyl 0 rfl ?_|refine zyf rfl ?_|refine zch ?_
 rw [hG.done]
 exact zej rfl ⟨rfl, rfl⟩
end Go.Proofs.YtgdhcgnmffgkiaaGreatDoor
