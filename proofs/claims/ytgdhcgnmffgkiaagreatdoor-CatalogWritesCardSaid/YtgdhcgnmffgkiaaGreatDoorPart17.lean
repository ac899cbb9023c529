import Derived.Test.YtgdhcgnmffgkiaaGreatDoorPart3
/- Own work: lemmas of this claim. -/
namespace Sim
open Go Go.Vc
structure Fo where
 pool : Pl
 root : Int
def Fo.Ok (F : Fo) : Prop := F.pool.Ok ∧ 0 ≤ F.root ∧ F.root ≤ 4096
namespace Fo
variable (F : Fo)
def nodeN (n : Int) : Int := if n ≤ 0 ∨ 4096 < n then 0 else n
def nodeB (n : Int) : Bool := if n ≤ 0 ∨ 4096 < n then false else F.pool.node n
def cell (x : Int) : Pg (Int × Bool) := do
 let t ← Pg.gt (F.root + 3 + (x - 1) / 2 / 8)
 pure (nodeN t + (x - 1) / 2 % 8, F.nodeB t)
def place (x : Int) : Pg (Int × Bool) := do
 let c ← F.cell x
 if c.2 = true then do
   let v ← Pg.gt c.1
   pure (nodeN v + (x - 1) % 2 * 4, F.nodeB v)
 else pure (0, false)
def many : Pg (Int × Bool) := do
 let n ← Pg.gt F.root
 pure (n, decide (0 ≤ n) && decide (n ≤ 64))
def check (x : Int) : Pg Int :=
 if x < 1 then pure 10 else do
   let n ← Pg.gt F.root
   if n < x then pure 10 else pure 0
def take : Pg (Int × Int) := do
 let t ← F.pool.takeP
 if t.2 ≠ 0 then pure (0, t.2) else do
   let v ← Pg.gt (F.root + 7)
   let _ ← Pg.pt (F.root + 7) (w64 (v + 1))
   pure (t.1, 0)
def roomN (x : Int) : Pg Int := do
 let c ← F.cell x
 if c.2 = true then do
   let t ← F.take
   if t.2 ≠ 0 then pure t.2 else do
     let _ ← Pg.pt c.1 t.1
     pure 0
 else pure 24
def room (x : Int) : Pg Int :=
 if (x - 1) % 2 ≠ 0 then pure 0 else
 if (x - 1) / 2 % 8 = 0 then do
   let t ← F.take
   if t.2 ≠ 0 then pure t.2 else do
     let _ ← Pg.pt (F.root + 3 + (x - 1) / 2 / 8) t.1
     F.roomN x
 else F.roomN x
def makeIn (x : Int) : Pg (Int × Int) := do
 let e ← F.room x
 if e ≠ 0 then pure (0, e) else do
   let c ← F.place x
   if c.2 = true then do
     let _ ← Pg.pt c.1 0
     let _ ← Pg.pt (c.1 + 1) 1
     let _ ← Pg.pt (c.1 + 2) 0
     let _ ← Pg.pt F.root x
     let v ← Pg.gt (F.root + 1)
     let _ ← Pg.pt (F.root + 1) (w64 (v + 1))
     pure (x, 0)
   else pure (0, 24)
def after (m : Nat) (r : Int × Int) : Pg (Int × Int) := if r.2 ≠ 0 then do let _ ← Pg.bk m; pure (0, r.2) else pure r
def make : Pg (Int × Int) := do
 let n ← F.many
 if n.2 = true then
   if n.1 = 64 then pure (0, 9) else do
     let m ← Pg.mk
     let r ← F.makeIn (n.1 + 1)
     after m r
 else pure (0, 24)
def climb (n : Int) : Nat → Int → Pg (Int × Int)
 | 0, _ => pure (0, 24)
 | k + 1, x => do
   let c ← F.place x
   if c.2 = true then do
     let up ← Pg.gt c.1
     if up = 0 then pure (x, 0) else
     if up < 1 ∨ n < up then pure (0, 24) else climb n k up
   else pure (0, 24)
def find (x : Int) : Pg (Int × Int) := do
 let e ← F.check x
 if e ≠ 0 then pure (0, e) else do
   let n ← F.many
   if n.2 = true then F.climb n.1 65 x else pure (0, 24)
def both (x y : Int) : Pg ((Int × Int) × Int) := do
 let e ← F.check x
 if e ≠ 0 then pure ((0, 0), e) else do
   let e ← F.check y
   if e ≠ 0 then pure ((0, 0), e) else do
     let a ← F.find x
     if a.2 ≠ 0 then pure ((0, 0), a.2) else do
       let b ← F.find y
       if b.2 ≠ 0 then pure ((0, 0), b.2) else pure ((a.1, b.1), 0)
def add (a n : Int) : Pg Unit := do
 let v ← Pg.gt a
 let _ ← Pg.pt a (w64 (v + n))
 pure ()
def hang (x a y b sz : Int) : Pg Unit := do
 let _ ← Pg.pt a y
 let v ← Pg.gt (F.root + 2)
 let _ ← Pg.pt (a + 2) v
 let _ ← Pg.pt (b + 1) sz
 let _ ← Pg.pt (F.root + 2) x
 let _ ← add (F.root + 1) (-1)
 pure ()
def join (x y : Int) : Pg (Bool × Int) := do
 let a ← F.place x
 if a.2 = true then do
   let v ← Pg.gt (a.1 + 1)
   let b ← F.place y
   if b.2 = true then do
     let w ← Pg.gt (b.1 + 1)
     if w < v ∨ (w = v ∧ x < y) then do
       let _ ← F.hang y b.1 x a.1 (w64 (v + w))
       pure (true, 0)
     else do
       let _ ← F.hang x a.1 y b.1 (w64 (v + w))
       pure (true, 0)
   else pure (false, 24)
 else pure (false, 24)
def union (x y : Int) : Pg (Bool × Int) := do
 let r ← F.both x y
 if r.2 ≠ 0 ∨ r.1.1 = r.1.2 then pure (false, r.2) else F.join r.1.1 r.1.2
def undo : Pg (Bool × Int) := do
 let last ← Pg.gt (F.root + 2)
 if last = 0 then pure (false, 0) else do
   let n ← F.many
   if n.2 = true ∧ 1 ≤ last ∧ last ≤ n.1 then do
     let a ← F.place last
     if a.2 = true then do
       let up ← Pg.gt a.1
       if up < 1 ∨ n.1 < up then pure (false, 24) else do
         let b ← F.place up
         if b.2 = true then do
           let v ← Pg.gt (a.1 + 1)
           let _ ← add (b.1 + 1) (w64 (0 - v))
           let _ ← Pg.pt a.1 0
           let u ← Pg.gt (a.1 + 2)
           let _ ← Pg.pt (F.root + 2) u
           let _ ← add (F.root + 1) 1
           pure (true, 0)
         else pure (false, 24)
     else pure (false, 24)
   else pure (false, 24)
def same (x y : Int) : Pg (Bool × Int) := do
 let r ← F.both x y
 pure (decide (r.2 = 0) && decide (r.1.1 = r.1.2), r.2)
def sizeOf (x : Int) : Pg (Int × Int) := do
 let r ← F.find x
 if r.2 ≠ 0 then pure (0, r.2) else do
   let a ← F.place r.1
   if a.2 = true then do
     let v ← Pg.gt (a.1 + 1)
     pure (v, 0)
   else pure (0, 24)
def sets : Pg Int := Pg.gt (F.root + 1)
end Fo
def encIB (r : Int × Bool) : Value := .tuple #[.int .i64 r.1, .bool r.2]
def encBI (r : Bool × Int) : Value := .tuple #[.bool r.1, .int .i64 r.2]
def encPI (r : (Int × Int) × Int) : Value := .tuple #[.agg #[.int .i64 r.1.1, .int .i64 r.1.2], .int .i64 r.2]
namespace Fo
open Pg
variable (F : Fo)
theorem bd_cell (x : Int) : Bd 0 (F.cell x) := by unfold Fo.cell; repeat' first|exact bd_pure _|with_reducible refine bd_then (bd_gt0 _) ?_ (by decide) | intro _
theorem bd_place (x : Int) : Bd 0 (F.place x) := by unfold Fo.place; repeat' first|with_reducible refine bd_then (F.bd_cell _) ?_ (by decide)|exact bd_pure _|with_reducible refine bd_ite ?_ ?_|with_reducible refine bd_then (bd_gt0 _) ?_ (by decide) | intro _
theorem bd_many : Bd 0 F.many := by unfold Fo.many; repeat' first|exact bd_pure _|with_reducible refine bd_then (bd_gt0 _) ?_ (by decide) | intro _
theorem bd_check (x : Int) : Bd 0 (F.check x) := by unfold Fo.check; repeat' first|exact bd_pure _|with_reducible refine bd_ite ?_ ?_|with_reducible refine bd_then (bd_gt0 _) ?_ (by decide) | intro _
theorem bd_take : Bd 3 F.take := by unfold Fo.take; repeat' first|with_reducible refine bd_then (bd_takeP _) ?_ (by decide)|exact bd_pure _|with_reducible refine bd_ite ?_ ?_|with_reducible refine bd_then (bd_gt0 _) ?_ (by decide)|with_reducible refine bd_then (bd_pt _ _) ?_ (by decide) | intro _
theorem bd_roomN (x : Int) : Bd 4 (F.roomN x) := by unfold Fo.roomN; repeat' first|with_reducible refine bd_then (F.bd_cell _) ?_ (by decide)|with_reducible refine bd_then F.bd_take ?_ (by decide)|exact bd_pure _|with_reducible refine bd_ite ?_ ?_|with_reducible refine bd_then (bd_pt _ _) ?_ (by decide) | intro _
theorem bd_room (x : Int) : Bd 8 (F.room x) := by unfold Fo.room; repeat' first|with_reducible refine bd_then F.bd_take ?_ (by decide)|exact (F.bd_roomN x).mono (by decide)|exact bd_pure _|with_reducible refine bd_ite ?_ ?_|with_reducible refine bd_then (bd_pt _ _) ?_ (by decide) | intro _
theorem bd_makeIn (x : Int) : Bd 13 (F.makeIn x) := by unfold Fo.makeIn; repeat' first|with_reducible refine bd_then (F.bd_room _) ?_ (by decide)|with_reducible refine bd_then (F.bd_place _) ?_ (by decide)|exact bd_pure _|with_reducible refine bd_ite ?_ ?_|with_reducible refine bd_then (bd_gt0 _) ?_ (by decide)|with_reducible refine bd_then (bd_pt _ _) ?_ (by decide) | intro _
theorem bd_after (m : Nat) (r : Int × Int) : Bd 0 (after m r) := by unfold Fo.after; repeat' first|exact bd_pure _|with_reducible refine bd_ite ?_ ?_|with_reducible refine bd_then (bd_bk0 _) ?_ (by decide) | intro _
theorem bd_make : Bd 13 F.make := by unfold Fo.make; repeat' first|with_reducible refine bd_then (F.bd_makeIn _) ?_ (by decide)|with_reducible refine bd_then F.bd_many ?_ (by decide)|exact (bd_after _ _).mono (by decide)|exact bd_pure _|with_reducible refine bd_ite ?_ ?_|with_reducible refine bd_then bd_mk0 ?_ (by decide) | intro _
theorem bd_climb (n : Int) : ∀ (k : Nat) (x : Int), Bd 0 (F.climb n k x)
 | 0, _ => trivial
 | k + 1, x => by unfold Fo.climb; repeat' first|with_reducible refine bd_then (F.bd_place _) ?_ (by decide)|exact bd_climb n k _|exact bd_pure _|with_reducible refine bd_ite ?_ ?_|with_reducible refine bd_then (bd_gt0 _) ?_ (by decide) | intro _
theorem bd_find (x : Int) : Bd 0 (F.find x) := by unfold Fo.find; repeat' first|with_reducible refine bd_then (F.bd_check _) ?_ (by decide)|with_reducible refine bd_then F.bd_many ?_ (by decide)|exact F.bd_climb _ _ _|exact bd_pure _|with_reducible refine bd_ite ?_ ?_ | intro _
theorem bd_both (x y : Int) : Bd 0 (F.both x y) := by unfold Fo.both; repeat' first|with_reducible refine bd_then (F.bd_check _) ?_ (by decide)|with_reducible refine bd_then (F.bd_find _) ?_ (by decide)|exact bd_pure _|with_reducible refine bd_ite ?_ ?_ | intro _
theorem bd_add (a n : Int) : Bd 1 (add a n) := by unfold Fo.add; repeat' first|exact bd_pure _|with_reducible refine bd_then (bd_gt0 _) ?_ (by decide)|with_reducible refine bd_then (bd_pt _ _) ?_ (by decide) | intro _
theorem bd_hang (x a y b sz : Int) : Bd 5 (F.hang x a y b sz) := by unfold Fo.hang; repeat' first|with_reducible refine bd_then (bd_add _ _) ?_ (by decide)|exact bd_pure _|with_reducible refine bd_then (bd_gt0 _) ?_ (by decide)|with_reducible refine bd_then (bd_pt _ _) ?_ (by decide) | intro _
theorem bd_join (x y : Int) : Bd 5 (F.join x y) := by unfold Fo.join; repeat' first|with_reducible refine bd_then (F.bd_place _) ?_ (by decide)|with_reducible refine bd_then (F.bd_hang _ _ _ _ _) ?_ (by decide)|exact bd_pure _|with_reducible refine bd_ite ?_ ?_|with_reducible refine bd_then (bd_gt0 _) ?_ (by decide) | intro _
theorem bd_union (x y : Int) : Bd 5 (F.union x y) := by unfold Fo.union; repeat' first|with_reducible refine bd_then (F.bd_both _ _) ?_ (by decide)|exact F.bd_join _ _|exact bd_pure _|with_reducible refine bd_ite ?_ ?_ | intro _
theorem bd_undo : Bd 4 F.undo := by unfold Fo.undo; repeat' first|with_reducible refine bd_then (F.bd_place _) ?_ (by decide)|with_reducible refine bd_then F.bd_many ?_ (by decide)|with_reducible refine bd_then (bd_add _ _) ?_ (by decide)|exact bd_pure _|with_reducible refine bd_ite ?_ ?_|with_reducible refine bd_then (bd_gt0 _) ?_ (by decide)|with_reducible refine bd_then (bd_pt _ _) ?_ (by decide) | intro _
theorem bd_same (x y : Int) : Bd 0 (F.same x y) := by unfold Fo.same; repeat' first|with_reducible refine bd_then (F.bd_both _ _) ?_ (by decide)|exact bd_pure _ | intro _
theorem bd_sizeOf (x : Int) : Bd 0 (F.sizeOf x) := by unfold Fo.sizeOf; repeat' first|with_reducible refine bd_then (F.bd_find _) ?_ (by decide)|with_reducible refine bd_then (F.bd_place _) ?_ (by decide)|exact bd_pure _|with_reducible refine bd_ite ?_ ?_|with_reducible refine bd_then (bd_gt0 _) ?_ (by decide) | intro _
end Fo
end Sim
namespace Go.Proofs.YtgdhcgnmffgkiaaGreatDoor
variable (w0 : World)
open Go.Vc Sim
set_option maxHeartbeats 4000000
def foV (F : Fo) : Value := .agg #[.int .i64 F.pool.root, .int .i64 F.pool.frm, .int .i64 F.pool.nodes, .int .i64 F.root]
theorem _root_.Sim.Fo.nodeN_bd (v : Int) : 0 ≤ Fo.nodeN v ∧ Fo.nodeN v ≤ 4096 := by unfold Fo.nodeN; split <;> omega
theorem foNode (F : Fo) (hF : F.Ok) (v : Int) : FnE PP w0 [] 285 [foV F, .int .i64 v] [] (.tuple #[.int .i64 (Fo.nodeN v), .bool (F.nodeB v)]) [] := by
 refine zep en285 fn285 rfl rfl rfl ?_
 refine zyr ?_
 repeat' first|(refine zap rfl ?_;refine zaq (cs := [_, _, _, _]) rfl (fun nb => ?_))|refine zp ?_|refine zyn ?_
 refine zeb [0] rfl ?_
 repeat' first|refine zck ?_|refine zcm ?_|refine zyq ?_|(refine zap rfl ?_;first|refine zaj rfl ?_|refine zak rfl ?_|refine zam rfl rfl (fun _ => ?_) (fun _ => ?_)|refine zah [] (node_spec w0 F.pool hF.1 _) rfl rfl rfl zdj rfl ?_|refine zbr rfl rfl ?_|refine zbs rfl rfl ?_|refine zbu rfl ?_|refine zbv rfl ?_)|refine zp ?_|refine zyl 0 rfl ?_|refine zyf rfl ?_|refine zch ?_|refine zci rfl ?_|refine zed rfl (fun _ => ?_) (fun _ => ?_)
 all_goals refine zei rfl ⟨?_, rfl⟩
 all_goals unfold Fo.nodeN Fo.nodeB
 all_goals first|rw [if_pos (by omega), if_pos (by omega)]|rw [if_neg (by omega), if_neg (by omega)]
 all_goals rfl
theorem foCell (p : Nat) (F : Fo) (hF : F.Ok) (x : Int) (hx : 1 ≤ x ∧ x ≤ 9223372036854775807) : FnG w0 [] 284 [foV F, spP p, .int .i64 x] p (F.cell x) encIB := by
 obtain ⟨_, h1, h2⟩ := id hF
 intro s hS; have hG := At.start hS; generalize Pg.run _ s = R at hG ⊢
 refine zep en284 fn284 rfl rfl rfl ?_
 refine zyr ?_
 repeat' first|(refine zap rfl ?_;refine zaq (cs := [_, _, _, _]) rfl (fun nb => ?_))|refine zp ?_|refine zyn ?_
 refine zeb [1] rfl ?_
 repeat' first|refine zck ?_|refine zyq ?_|(refine zap rfl ?_;first|refine zau rfl rfl (by have := Fo.nodeN_bd u; omega) ?_|refine zdk [0] hG (getG w0 p _) rfl rfl rfl zdj (fun u s hG => ?_)|refine zah [] (foNode w0 F hF _) rfl rfl rfl zdj rfl ?_|refine zau rfl rfl (by omega) ?_|refine zav rfl rfl (by omega) ?_|refine zax rfl rfl (by omega) ?_|refine zay rfl rfl (by omega) ?_)|refine zp ?_|refine zyl 0 rfl ?_|refine zyf rfl ?_|refine zch ?_
 rw [hG.done]
 exact zei rfl ⟨rfl, rfl⟩
theorem foMany (p : Nat) (F : Fo) (hF : F.Ok) : FnG w0 [] 186 [foV F, spP p] p F.many encIB := by
 obtain ⟨_, h1, h2⟩ := id hF
 intro s hS; have hG := At.start hS; generalize Pg.run _ s = R at hG ⊢
 refine zep en186 fn186 rfl rfl rfl ?_
 refine zyr ?_
 repeat' first|(refine zap rfl ?_;refine zaq (cs := [_, _, _, _]) rfl (fun nb => ?_))|refine zp ?_|refine zyn ?_
 refine zeb [1] rfl ?_
 repeat' first|refine zck ?_|refine zyq ?_|(refine zap rfl ?_;first|refine zaj rfl ?_|refine zak rfl ?_|refine zam rfl rfl (fun _ => ?_) (fun _ => ?_)|refine zdk [0] hG (getG w0 p _) rfl rfl rfl zdj (fun u s hG => ?_)|refine zdw rfl rfl (by omega) ?_|refine zbr rfl rfl ?_|refine zbt rfl rfl ?_|refine zbu rfl ?_|refine zbv rfl ?_)|refine zp ?_|refine zyl 0 rfl ?_|refine zyf rfl ?_|refine zch ?_
 all_goals rw [hG.done]
 all_goals (refine zei rfl ⟨?_, rfl⟩)
 all_goals refine congrArg Value.tuple (?_ : #[Value.int .i64 _, .bool _] = #[Value.int .i64 _, .bool _])
 all_goals simp_all
 all_goals omega
theorem foCheck (p : Nat) (F : Fo) (hF : F.Ok) (x : Int) : FnG w0 [] 190 [foV F, spP p, .int .i64 x] p (F.check x) (.int .i64) := by
 obtain ⟨_, h1, h2⟩ := id hF
 intro s hS; have hG := At.start hS; generalize Pg.run _ s = R at hG ⊢
 refine zep en190 fn190 rfl rfl rfl ?_
 refine zyr ?_
 repeat' first|(refine zap rfl ?_;refine zaq (cs := [_, _, _, _]) rfl (fun nb => ?_))|refine zp ?_|refine zyn ?_
 refine zeb [1] rfl ?_
 by_cases hx : x < 1
 · rw [Fo.check, if_pos hx] at hG
   rw [hG.done]
   repeat' first|refine zck ?_|refine zyq ?_|(refine zap rfl ?_;first|refine zak rfl ?_|refine zbg rfl rfl (by omega) ?_|refine zbu rfl ?_)|refine zp ?_|refine zch ?_|refine zci rfl ?_
   exact zej rfl ⟨rfl, rfl⟩
 · rw [Fo.check, if_neg hx] at hG
   repeat' first|refine zck ?_|refine zcm ?_|refine zyq ?_|(refine zap rfl ?_;first|refine zaj rfl ?_|refine zdk [0] hG (getG w0 p _) rfl rfl rfl zdj (fun u s hG => ?_)|refine zbh rfl rfl (by omega) ?_|refine zdw rfl rfl (by omega) ?_|refine zbs rfl rfl ?_|refine zbv rfl ?_)|refine zp ?_|refine zyl 0 rfl ?_|refine zyf rfl ?_|refine zch ?_|refine zed rfl (fun _ => ?_) (fun _ => ?_)
   all_goals first|rw [if_pos (by omega)] at hG|rw [if_neg (by omega)] at hG
   all_goals rw [hG.done]
   · repeat' first|refine zck ?_|(refine zap rfl ?_;first|refine zaj rfl ?_|refine zak rfl ?_|refine zal rfl ?_|refine zam rfl rfl (fun _ => ?_) (fun _ => ?_))|refine zch ?_
     exact zej rfl ⟨rfl, rfl⟩
   · repeat' first|refine zck ?_|(refine zap rfl ?_;first|refine zaj rfl ?_|refine zak rfl ?_|refine zal rfl ?_|refine zam rfl rfl (fun _ => ?_) (fun _ => ?_))|refine zch ?_
     exact zej rfl ⟨rfl, rfl⟩
theorem foTake (p : Nat) (F : Fo) (hF : F.Ok) : FnG w0 [] 283 [foV F, spP p] p F.take encI2 := by
 obtain ⟨_, h1, h2⟩ := id hF
 intro s hS; have hG := At.start hS; generalize Pg.run _ s = R at hG ⊢
 refine zep en283 fn283 rfl rfl rfl ?_
 refine zyr ?_
 repeat' first|(refine zap rfl ?_;refine zaq (cs := [_, _, _, _]) rfl (fun nb => ?_))|refine zp ?_|refine zyn ?_
 refine zeb [1] rfl ?_
 repeat' first|refine zck ?_|refine zyq ?_|(refine zap rfl ?_;first|refine zdk [0] hG (takeG w0 p F.pool hF.1) rfl rfl rfl zdj (fun u s hG => ?_)|refine zbp rfl rfl ?_)|refine zp ?_|refine zyl 0 rfl ?_|refine zyf rfl ?_|refine zch ?_
 refine zed rfl (fun hE => ?_) (fun hE => ?_)
 · rw [if_pos hE] at hG
   rw [hG.done]
   repeat' first|refine zck ?_|refine zyq ?_|refine zp ?_|refine zch ?_
   exact zei rfl ⟨rfl, rfl⟩
 · rw [if_neg hE] at hG
   repeat' first|refine zck ?_|refine zcm ?_|refine zyq ?_|(refine zap rfl ?_;first|refine zdu (t := 2) rfl rfl ?_|refine zdk [0] hG (getG w0 p _) rfl rfl rfl zdj (fun u s hG => ?_)|refine zdk [0] hG (putG w0 p _ _) rfl rfl rfl zdj (fun u s hG => ?_)|refine zau rfl rfl (by omega) ?_)|refine zp ?_|refine zyl 0 rfl ?_|refine zyf rfl ?_|refine zch ?_
   rw [hG.done]
   exact zei rfl ⟨rfl, rfl⟩
theorem foAdd (p : Nat) (a m : Int) : FnG w0 [] 192 [spP p, .int .i64 a, .int .i64 m] p (Fo.add a m) encU := by
 intro s hS; have hG := At.start hS; generalize Pg.run _ s = R at hG ⊢
 refine zep en192 fn192 rfl rfl rfl ?_
 repeat' first|refine zyq ?_|(refine zap rfl ?_;first|refine zdu (t := 2) rfl rfl ?_|refine zdk [0] hG (getG w0 p _) rfl rfl rfl zdj (fun u s hG => ?_)|refine zdk [0] hG (putG w0 p _ _) rfl rfl rfl zdj (fun u s hG => ?_))|refine zp ?_|refine zch ?_
 rw [hG.done]
 exact end_tmp0 rfl ⟨rfl, rfl⟩
end Go.Proofs.YtgdhcgnmffgkiaaGreatDoor
namespace Sim.Fo
open Pg
variable (F : Fo)
theorem all_cell (x : Int) : All (fun r => 0 ≤ r.1 ∧ r.1 ≤ 4103) (F.cell x) := fun v => by
 have := nodeN_bd v
 refine all_pure ?_
 dsimp only
 omega
theorem all_place (x : Int) : All (fun r => 0 ≤ r.1 ∧ r.1 ≤ 4100) (F.place x) := by
 refine all_then fun c => all_ite (fun _ => ?_) fun _ => all_pure (by dsimp only; omega)
 refine all_then fun v => all_pure ?_
 have := nodeN_bd v
 dsimp only
 omega
theorem all_many : All (fun r => r.2 = true → 0 ≤ r.1 ∧ r.1 ≤ 64) F.many := fun v => by
 refine all_pure ?_
 dsimp only
 simp
theorem all_check (x : Int) : All (fun e => e = 0 → 1 ≤ x) (F.check x) := by
 refine all_ite (fun _ => ?_) (fun h => all_then fun n => all_ite (fun _ => ?_) fun _ => ?_)
 · exact all_pure (fun h => absurd h (by decide))
 · exact all_pure (fun h => absurd h (by decide))
 · exact all_pure (fun _ => by omega)
def InX (x : Int) : Prop := x ≤ 9223372036854775807
def Good (r : Int × Int) : Prop := r.2 = 0 → 1 ≤ r.1 ∧ InX r.1
theorem good_lost : Good (0, 24) := fun h => absurd h (by decide)
theorem good_err {e : Int} (h : e ≠ 0) : Good (0, e) := fun h2 => absurd h2 h
theorem all_climb (n : Int) (hn : n ≤ 64) : ∀ (k : Nat) (x : Int), 1 ≤ x → InX x → All Good (F.climb n k x)
 | 0, _, _, _ => all_pure good_lost
 | k + 1, x, h1, h2 => by
   refine all_then fun c => all_ite (fun _ => ?_) fun _ => all_pure good_lost
   refine all_then fun up => all_ite (fun _ => all_pure (fun _ => ⟨h1, h2⟩)) fun _ => all_ite (fun _ => all_pure good_lost) fun h => ?_
   exact all_climb n hn k up (by omega) (by unfold InX; omega)
theorem all_find (x : Int) (hx : InX x) : All Good (F.find x) := by
 refine all_bind (ψ := fun e => e = 0 → 1 ≤ x) (fun e he => all_ite (fun h => all_pure (good_err h)) fun h => ?_) (F.all_check x)
 refine all_bind (ψ := fun r => r.2 = true → 0 ≤ r.1 ∧ r.1 ≤ 64) (fun n hn => all_ite (fun h2 => ?_) fun _ => all_pure good_lost) F.all_many
 exact F.all_climb n.1 (hn h2).2 65 x (he (by omega)) hx
end Sim.Fo
namespace Go.Proofs.YtgdhcgnmffgkiaaGreatDoor
variable (w0 : World)
open Go.Vc Sim
set_option maxHeartbeats 4000000
theorem foPlace (p : Nat) (F : Fo) (hF : F.Ok) (x : Int) (hx : 1 ≤ x ∧ x ≤ 9223372036854775807) : FnG w0 [] 189 [foV F, spP p, .int .i64 x] p (F.place x) encIB := by
 obtain ⟨_, h1, h2⟩ := id hF
 intro s hS; have hG := At.start hS; generalize Pg.run _ s = R at hG ⊢
 refine zep en189 fn189 rfl rfl rfl ?_
 refine zyr ?_
 repeat' first|(refine zap rfl ?_;refine zaq (cs := [_, _, _, _]) rfl (fun nb => ?_))|refine zp ?_|refine zyn ?_
 refine zeb [1] rfl ?_
 repeat' first|refine zck ?_|refine zyq ?_|(refine zap rfl ?_;first|refine zdk [0] hG (foCell w0 p F hF x hx) rfl rfl rfl zdj (fun u s hG => ?_)|refine zbx rfl ?_)|refine zp ?_|refine zyl 0 rfl ?_|refine zch ?_
 refine zee rfl (fun hE => ?_) (fun hE => ?_)
 · have hE : u.2 = false := by simpa using hE
   simp only [hE, Bool.false_eq_true, if_false] at hG
   rw [hG.done]
   repeat' first|refine zck ?_|refine zyq ?_|refine zp ?_|refine zch ?_
   exact zei rfl ⟨rfl, rfl⟩
 · have hE : u.2 = true := by simpa using hE
   simp only [hE, if_true] at hG
   repeat' first|refine zck ?_|refine zcm ?_|refine zyq ?_|(refine zap rfl ?_;first|refine zau rfl rfl (by have := Fo.nodeN_bd u; omega) ?_|refine zdk [0] hG (getG w0 p _) rfl rfl rfl zdj (fun u s hG => ?_)|refine zah [] (foNode w0 F hF _) rfl rfl rfl zdj rfl ?_|refine zav rfl rfl (by omega) ?_|refine zaw rfl rfl (by omega) ?_|refine zay rfl rfl (by omega) ?_)|refine zp ?_|refine zyl 0 rfl ?_|refine zch ?_
   rw [hG.done]
   exact zei rfl ⟨rfl, rfl⟩
theorem foSets (p : Nat) (F : Fo) (hF : F.Ok) : FnG w0 [] 102 [foV F, spP p] p F.sets (.int .i64) := by
 obtain ⟨_, h1, h2⟩ := id hF
 intro s hS
 have hG := (At.start hS).to (Pg.bind_pure _).symm
 generalize Pg.run _ s = R at hG ⊢
 unfold Fo.sets at hG
 refine zep en102 fn102 rfl rfl rfl ?_
 refine zyr ?_
 repeat' first|(refine zap rfl ?_;refine zaq (cs := [_, _, _, _]) rfl (fun nb => ?_))|refine zp ?_|refine zyn ?_
 refine zeb [1] rfl ?_
 repeat' first|refine zyq ?_|(refine zap rfl ?_;first|refine zdk [0] hG (getG w0 p _) rfl rfl rfl zdj (fun u s hG => ?_)|refine zau rfl rfl (by omega) ?_)|refine zp ?_|refine zyl 0 rfl ?_|refine zyf rfl ?_|refine zch ?_
 rw [hG.done]
 exact zej rfl ⟨rfl, rfl⟩
end Go.Proofs.YtgdhcgnmffgkiaaGreatDoor
