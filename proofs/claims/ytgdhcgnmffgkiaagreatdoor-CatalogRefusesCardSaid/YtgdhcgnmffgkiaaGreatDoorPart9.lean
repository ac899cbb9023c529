import Derived.Test.YtgdhcgnmffgkiaaGreatDoorPart3
import Derived.Test.YtgdhcgnmffgkiaaGreatDoorKit
/- Own work: lemmas of this claim. -/
namespace Sim
open Go Go.Vc
structure Gh where
 pool : Pl
 root : Int
def Gh.Ok (G : Gh) : Prop := G.pool.Ok ∧ -9223372036854775808 ≤ G.root ∧ G.root ≤ 9223372036854775807
structure GL where
 head : Int
 nx : Int
 pv : Int
namespace Gh
variable (G : Gh)
def nd (n : Int) : Bool := G.pool.node n
def all : GL := ⟨w64 (G.root + 0), 2, 3⟩
def out (v : Int) : GL := ⟨w64 (v + 4), 4, 5⟩
def inn (v : Int) : GL := ⟨w64 (v + 5), 6, 7⟩
def vm : Int := w64 (-1 - w64 (2 * G.root))
def em : Int := w64 (-2 - w64 (2 * G.root))
def more (a n : Int) : Pg Unit := do
 let v ← Pg.gt a
 let _ ← Pg.pt a (w64 (v + n))
 pure ()
def vertex (n : Int) : Pg Bool :=
 if G.nd n = true then do
   let v ← Pg.gt (w64 (n + 0))
   pure (decide (v = G.vm))
 else pure false
def edge (n : Int) : Pg Bool :=
 if G.nd n = true then do
   let v ← Pg.gt (w64 (n + 0))
   pure (decide (v = G.em))
 else pure false
def link (l : GL) (n : Int) : Pg Int := do
 let was ← Pg.gt l.head
 let _ ← Pg.pt (w64 (n + l.nx)) was
 let _ ← Pg.pt (w64 (n + l.pv)) 0
 let _ ← Pg.pt l.head n
 if was = 0 then pure 0 else
 if G.nd was = true then do
   let _ ← Pg.pt (w64 (was + l.pv)) n
   pure 0
 else pure 24
def unlinkB (l : GL) (a b : Int) : Pg Int :=
 if b = 0 then pure 0 else
 if G.nd b = true then do
   let _ ← Pg.pt (w64 (b + l.pv)) a
   pure 0
 else pure 24
def unlink (l : GL) (n : Int) : Pg Int := do
 let a ← Pg.gt (w64 (n + l.pv))
 let b ← Pg.gt (w64 (n + l.nx))
 if a = 0 then do
   let _ ← Pg.pt l.head b
   G.unlinkB l a b
 else if G.nd a = true then do
   let _ ← Pg.pt (w64 (a + l.nx)) b
   G.unlinkB l a b
 else pure 24
def after (m : Nat) (r : Int × Int) : Pg (Int × Int) := if r.2 ≠ 0 then do
   let _ ← Pg.bk m
   pure r
 else pure r
def afterE (m : Nat) (e : Int) : Pg Int := if e ≠ 0 then do
   let _ ← Pg.bk m
   pure e
 else pure e
def addIn (name : Int) : Pg (Int × Int) := do
 let t ← G.pool.takeP
 if t.2 ≠ 0 then pure (0, t.2) else do
   let _ ← Pg.pt (w64 (t.1 + 0)) G.vm
   let _ ← Pg.pt (w64 (t.1 + 1)) name
   let _ ← Pg.pt (w64 (t.1 + 4)) 0
   let _ ← Pg.pt (w64 (t.1 + 5)) 0
   let _ ← Pg.pt (w64 (t.1 + 6)) 0
   let _ ← Pg.pt (w64 (t.1 + 7)) 0
   let e ← G.link G.all t.1
   if e ≠ 0 then pure (0, e) else do
     let _ ← more (w64 (G.root + 1)) 1
     let _ ← more (w64 (G.root + 7)) 1
     pure (t.1, 0)
def add (name : Int) : Pg (Int × Int) := do
 let m ← Pg.mk
 let r ← G.addIn name
 after m r
def thr {β : Type} (l : GL) (f : β → Int → Pg (β × Bool)) : Nat → Int → β → Pg (β × Int × Bool)
 | 0, n, acc => if n = 0 then pure (acc, 0, false) else pure (acc, 24, false)
 | k + 1, n, acc =>
   if n = 0 then pure (acc, 0, false) else
   if G.nd n = true then do
     let r ← f acc n
     if r.2 = true then do
       let m ← Pg.gt (w64 (n + l.nx))
       thr l f k m r.1
     else pure (r.1, 0, true)
   else pure (acc, 24, false)
def through {β : Type} (l : GL) (f : β → Int → Pg (β × Bool)) (acc : β) : Pg (β × Int × Bool) := do
 let n ← Pg.gt l.head
 G.thr l f G.pool.nodes.toNat n acc
def findF (b : Int) (acc n : Int) : Pg (Int × Bool) := do
 let x ← Pg.gt (w64 (n + 2))
 pure (if x = b then (n, false) else (acc, true))
def find (a b : Int) : Pg (Int × Int) := do
 let r ← G.through (out a) (findF b) 0
 pure (if r.2.2 = true then (r.1, 0) else (0, r.2.1))
def linkIn (a b heavy : Int) : Pg (Int × Int) := do
 let va ← G.vertex a
 if va = true then do
   let vb ← G.vertex b
   if vb = true then do
     let f ← G.find a b
     if f.1 ≠ 0 then pure (0, 11) else do
       let t ← G.pool.takeP
       if t.2 ≠ 0 then pure (0, t.2) else
       if f.2 ≠ 0 then pure (0, f.2) else do
         let _ ← Pg.pt (w64 (t.1 + 0)) G.em
         let _ ← Pg.pt (w64 (t.1 + 1)) a
         let _ ← Pg.pt (w64 (t.1 + 2)) b
         let _ ← Pg.pt (w64 (t.1 + 3)) heavy
         let e ← G.link (out a) t.1
         if e ≠ 0 then pure (0, e) else do
           let e ← G.link (inn b) t.1
           if e ≠ 0 then pure (0, e) else do
             let _ ← more (w64 (a + 6)) 1
             let _ ← more (w64 (b + 7)) 1
             let _ ← more (w64 (G.root + 2)) 1
             let _ ← more (w64 (G.root + 7)) 1
             pure (t.1, 0)
   else pure (0, 10)
 else pure (0, 10)
def lnk (a b heavy : Int) : Pg (Int × Int) := do
 let m ← Pg.mk
 let r ← G.linkIn a b heavy
 after m r
def cutN (n : Int) : Pg Int := do
 let a ← Pg.gt (w64 (n + 1))
 let b ← Pg.gt (w64 (n + 2))
 if G.nd a = true ∧ G.nd b = true then do
   let e ← G.unlink (out a) n
   if e ≠ 0 then pure e else do
     let e ← G.unlink (inn b) n
     if e ≠ 0 then pure e else do
       let _ ← more (w64 (a + 6)) (-1)
       let _ ← more (w64 (b + 7)) (-1)
       let _ ← more (w64 (G.root + 2)) (-1)
       let _ ← more (w64 (G.root + 7)) (-1)
       G.pool.giveP n
 else pure 24
def cut (n : Int) : Pg Int := do
 let m ← Pg.mk
 let is ← G.edge n
 if is = true then do
   let e ← G.cutN n
   afterE m e
 else afterE m 10
def emptyK (l : GL) : Nat → Pg Int
 | 0 => do
   let n ← Pg.gt l.head
   if n = 0 then pure 0 else pure 24
 | k + 1 => do
   let n ← Pg.gt l.head
   if n = 0 then pure 0 else
   if G.nd n = true then do
     let e ← G.cutN n
     if e ≠ 0 then pure e else emptyK l k
   else pure 24
def empty (l : GL) : Pg Int := G.emptyK l (G.pool.nodes.toNat + 1)
def dropEnd (n v : Int) : Pg (Int × Int) := do
 let e ← G.unlink G.all n
 if e ≠ 0 then pure (0, e) else do
   let _ ← more (w64 (G.root + 1)) (-1)
   let _ ← more (w64 (G.root + 7)) (-1)
   let e ← G.pool.giveP n
   if e ≠ 0 then pure (0, e) else pure (v, 0)
def dropIn (n : Int) : Pg (Int × Int) := do
 let is ← G.vertex n
 if is = true then do
   let v ← Pg.gt (w64 (n + 1))
   let e ← G.empty (out n)
   if e ≠ 0 then pure (0, e) else do
     let e ← G.empty (inn n)
     if e ≠ 0 then pure (0, e) else G.dropEnd n v
 else pure (0, 10)
def drop (n : Int) : Pg (Int × Int) := do
 let m ← Pg.mk
 let r ← G.dropIn n
 after m r
def weigh (a b : Int) : Pg (Int × Bool) := do
 let va ← G.vertex a
 if va = true then do
   let vb ← G.vertex b
   if vb = true then do
     let f ← G.find a b
     if f.1 = 0 ∨ f.2 ≠ 0 then pure (0, false) else do
       let w ← Pg.gt (w64 (f.1 + 3))
       pure (w, true)
   else pure (0, false)
 else pure (0, false)
def label (n : Int) : Pg (Int × Int) := do
 let is ← G.vertex n
 if is = true then do
   let v ← Pg.gt (w64 (n + 1))
   pure (v, 0)
 else pure (0, 10)
def endsF (whom : Int) (acc : List (Int × Int)) (n : Int) : Pg (List (Int × Int) × Bool) := do
 let x ← Pg.gt (w64 (n + whom))
 let y ← Pg.gt (w64 (n + 3))
 pure (acc ++ [(x, y)], true)
def ends (n : Int) (l : GL) (whom : Int) : Pg (List (Int × Int) × Int) := do
 let is ← G.vertex n
 if is = true then do
   let r ← G.through l (endsF whom) []
   pure (if r.2.1 ≠ 0 then ([], r.2.1) else (r.1, 0))
 else pure ([], 10)
def vertsF (acc : List Int) (n : Int) : Pg (List Int × Bool) := pure (acc ++ [n], true)
def verts : Pg (List Int × Int) := do
 let r ← G.through G.all vertsF []
 pure (if r.2.1 ≠ 0 then ([], r.2.1) else (r.1, 0))
def edges : Pg Int := Pg.gt (w64 (G.root + 2))
end Gh
namespace Gh
open Pg
variable (G : Gh)
theorem bd_more (a n : Int) : Bd 1 (more a n) := by unfold more; repeat' first|exact bd_pure _|with_reducible refine bd_ite ?_ ?_|with_reducible refine bd_then (bd_gt0 _) ?_ (by decide)|with_reducible refine bd_then (bd_pt _ _) ?_ (by decide)|with_reducible refine bd_then bd_mk0 ?_ (by decide)|with_reducible refine bd_then (bd_bk0 _) ?_ (by decide) | intro _
theorem bd_vertex (n : Int) : Bd 0 (G.vertex n) := by unfold vertex; repeat' first|exact bd_pure _|with_reducible refine bd_ite ?_ ?_|with_reducible refine bd_then (bd_gt0 _) ?_ (by decide)|with_reducible refine bd_then (bd_pt _ _) ?_ (by decide)|with_reducible refine bd_then bd_mk0 ?_ (by decide)|with_reducible refine bd_then (bd_bk0 _) ?_ (by decide) | intro _
theorem bd_edge (n : Int) : Bd 0 (G.edge n) := by unfold edge; repeat' first|exact bd_pure _|with_reducible refine bd_ite ?_ ?_|with_reducible refine bd_then (bd_gt0 _) ?_ (by decide)|with_reducible refine bd_then (bd_pt _ _) ?_ (by decide)|with_reducible refine bd_then bd_mk0 ?_ (by decide)|with_reducible refine bd_then (bd_bk0 _) ?_ (by decide) | intro _
theorem bd_link (l : GL) (n : Int) : Bd 4 (G.link l n) := by unfold link; repeat' first|exact bd_pure _|with_reducible refine bd_ite ?_ ?_|with_reducible refine bd_then (bd_gt0 _) ?_ (by decide)|with_reducible refine bd_then (bd_pt _ _) ?_ (by decide)|with_reducible refine bd_then bd_mk0 ?_ (by decide)|with_reducible refine bd_then (bd_bk0 _) ?_ (by decide) | intro _
theorem bd_unlinkB (l : GL) (a b : Int) : Bd 1 (G.unlinkB l a b) := by unfold unlinkB; repeat' first|exact bd_pure _|with_reducible refine bd_ite ?_ ?_|with_reducible refine bd_then (bd_gt0 _) ?_ (by decide)|with_reducible refine bd_then (bd_pt _ _) ?_ (by decide)|with_reducible refine bd_then bd_mk0 ?_ (by decide)|with_reducible refine bd_then (bd_bk0 _) ?_ (by decide) | intro _
theorem bd_unlink (l : GL) (n : Int) : Bd 2 (G.unlink l n) := by
 unfold unlink
 have h := fun a b => G.bd_unlinkB l a b
 repeat' first|exact (h _ _).mono (by decide)|exact bd_pure _|with_reducible refine bd_ite ?_ ?_|with_reducible refine bd_then (bd_gt0 _) ?_ (by decide)|with_reducible refine bd_then (bd_pt _ _) ?_ (by decide)|with_reducible refine bd_then bd_mk0 ?_ (by decide)|with_reducible refine bd_then (bd_bk0 _) ?_ (by decide) | intro _
theorem bd_after (m : Nat) (r : Int × Int) : Bd 0 (after m r) := by unfold after; repeat' first|exact bd_pure _|with_reducible refine bd_ite ?_ ?_|with_reducible refine bd_then (bd_gt0 _) ?_ (by decide)|with_reducible refine bd_then (bd_pt _ _) ?_ (by decide)|with_reducible refine bd_then bd_mk0 ?_ (by decide)|with_reducible refine bd_then (bd_bk0 _) ?_ (by decide) | intro _
theorem bd_afterE (m : Nat) (e : Int) : Bd 0 (afterE m e) := by unfold afterE; repeat' first|exact bd_pure _|with_reducible refine bd_ite ?_ ?_|with_reducible refine bd_then (bd_gt0 _) ?_ (by decide)|with_reducible refine bd_then (bd_pt _ _) ?_ (by decide)|with_reducible refine bd_then bd_mk0 ?_ (by decide)|with_reducible refine bd_then (bd_bk0 _) ?_ (by decide) | intro _
theorem bd_thr {β : Type} (l : GL) (f : β → Int → Pg (β × Bool)) (hf : ∀ a n, Bd 0 (f a n)) : ∀ (k : Nat) (n : Int) (acc : β), Bd 0 (G.thr l f k n acc)
 | 0, n, acc => by unfold thr; repeat' first|exact bd_pure _|with_reducible refine bd_ite ?_ ?_|with_reducible refine bd_then (bd_gt0 _) ?_ (by decide)|with_reducible refine bd_then (bd_pt _ _) ?_ (by decide)|with_reducible refine bd_then bd_mk0 ?_ (by decide)|with_reducible refine bd_then (bd_bk0 _) ?_ (by decide) | intro _
 | k + 1, n, acc => by
   unfold thr
   refine bd_ite (bd_pure _) (bd_ite ?_ (bd_pure _))
   refine bd_seq (hf acc n) (j := 0) (fun r => bd_ite ?_ (bd_pure _)) (by decide)
   exact bd_seq (bd_gt0 _) (fun m => bd_thr l f hf k m r.1) (by decide)
theorem bd_through {β : Type} (l : GL) (f : β → Int → Pg (β × Bool)) (hf : ∀ a n, Bd 0 (f a n)) (acc : β) : Bd 0 (G.through l f acc) := bd_seq (bd_gt0 _) (fun n => G.bd_thr _ _ hf _ n _) (by decide)
theorem thr_go {β : Type} (l : GL) (f : β → Int → Pg (β × Bool)) (hf : ∀ a n s, (Pg.run (f a n) s).1.2 = true) : ∀ (k : Nat) (n : Int) (acc : β) (s : Sp), (Pg.run (G.thr l f k n acc) s).1.2.2 = false
 | 0, n, acc, s => by unfold thr; split <;> rfl
 | k + 1, n, acc, s => by
   unfold thr
   split
   · rfl
   split
   · rw [Pg.run_bind, if_pos (hf _ _ _), Pg.run_bind]
     exact thr_go l f hf k _ _ _
   · rfl
theorem through_go {β : Type} (l : GL) (f : β → Int → Pg (β × Bool)) (hf : ∀ a n s, (Pg.run (f a n) s).1.2 = true) (acc : β) (s : Sp) : (Pg.run (G.through l f acc) s).1.2.2 = false := by
 unfold through; rw [Pg.run_bind]; exact G.thr_go l f hf _ _ _ _
theorem bd_findF (b acc n : Int) : Bd 0 (findF b acc n) := by unfold findF; repeat' first|exact bd_pure _|with_reducible refine bd_ite ?_ ?_|with_reducible refine bd_then (bd_gt0 _) ?_ (by decide)|with_reducible refine bd_then (bd_pt _ _) ?_ (by decide)|with_reducible refine bd_then bd_mk0 ?_ (by decide)|with_reducible refine bd_then (bd_bk0 _) ?_ (by decide) | intro _
theorem bd_find (a b : Int) : Bd 0 (G.find a b) := bd_seq (j := 0) (G.bd_through _ _ (bd_findF b) _) (fun _ => bd_pure _) (by decide)
theorem bd_addIn (name : Int) : Bd 14 (G.addIn name) := by unfold addIn; repeat' first|with_reducible refine bd_then (bd_more _ _) ?_ (by decide)|with_reducible refine bd_then (bd_vertex _ _) ?_ (by decide)|with_reducible refine bd_then (bd_takeP _) ?_ (by decide)|with_reducible refine bd_then (bd_link _ _ _) ?_ (by decide)|with_reducible refine bd_then (bd_unlink _ _ _) ?_ (by decide)|with_reducible refine bd_then (bd_find _ _ _) ?_ (by decide)|with_reducible refine bd_then (bd_giveP _ _) ?_ (by decide)|exact bd_pure _|with_reducible refine bd_ite ?_ ?_|with_reducible refine bd_then (bd_gt0 _) ?_ (by decide)|with_reducible refine bd_then (bd_pt _ _) ?_ (by decide)|with_reducible refine bd_then bd_mk0 ?_ (by decide)|with_reducible refine bd_then (bd_bk0 _) ?_ (by decide) | intro _
theorem bd_add (name : Int) : Bd 14 (G.add name) := by unfold add; repeat' first|with_reducible refine bd_then (bd_addIn _ _) ?_ (by decide)|exact (bd_after _ _).mono (by decide)|exact bd_pure _|with_reducible refine bd_ite ?_ ?_|with_reducible refine bd_then (bd_gt0 _) ?_ (by decide)|with_reducible refine bd_then (bd_pt _ _) ?_ (by decide)|with_reducible refine bd_then bd_mk0 ?_ (by decide)|with_reducible refine bd_then (bd_bk0 _) ?_ (by decide) | intro _
theorem bd_linkIn (a b heavy : Int) : Bd 18 (G.linkIn a b heavy) := by unfold linkIn; repeat' first|with_reducible refine bd_then (bd_more _ _) ?_ (by decide)|with_reducible refine bd_then (bd_vertex _ _) ?_ (by decide)|with_reducible refine bd_then (bd_takeP _) ?_ (by decide)|with_reducible refine bd_then (bd_link _ _ _) ?_ (by decide)|with_reducible refine bd_then (bd_unlink _ _ _) ?_ (by decide)|with_reducible refine bd_then (bd_find _ _ _) ?_ (by decide)|with_reducible refine bd_then (bd_giveP _ _) ?_ (by decide)|exact bd_pure _|with_reducible refine bd_ite ?_ ?_|with_reducible refine bd_then (bd_gt0 _) ?_ (by decide)|with_reducible refine bd_then (bd_pt _ _) ?_ (by decide)|with_reducible refine bd_then bd_mk0 ?_ (by decide)|with_reducible refine bd_then (bd_bk0 _) ?_ (by decide) | intro _
theorem bd_lnk (a b heavy : Int) : Bd 18 (G.lnk a b heavy) := by unfold lnk; repeat' first|with_reducible refine bd_then (bd_linkIn _ _ _ _) ?_ (by decide)|exact (bd_after _ _).mono (by decide)|exact bd_pure _|with_reducible refine bd_ite ?_ ?_|with_reducible refine bd_then (bd_gt0 _) ?_ (by decide)|with_reducible refine bd_then (bd_pt _ _) ?_ (by decide)|with_reducible refine bd_then bd_mk0 ?_ (by decide)|with_reducible refine bd_then (bd_bk0 _) ?_ (by decide) | intro _
theorem bd_cutN (n : Int) : Bd 11 (G.cutN n) := by unfold cutN; repeat' first|exact (bd_giveP _ _).mono (by decide)|with_reducible refine bd_then (bd_more _ _) ?_ (by decide)|with_reducible refine bd_then (bd_vertex _ _) ?_ (by decide)|with_reducible refine bd_then (bd_takeP _) ?_ (by decide)|with_reducible refine bd_then (bd_link _ _ _) ?_ (by decide)|with_reducible refine bd_then (bd_unlink _ _ _) ?_ (by decide)|with_reducible refine bd_then (bd_find _ _ _) ?_ (by decide)|with_reducible refine bd_then (bd_giveP _ _) ?_ (by decide)|exact bd_pure _|with_reducible refine bd_ite ?_ ?_|with_reducible refine bd_then (bd_gt0 _) ?_ (by decide)|with_reducible refine bd_then (bd_pt _ _) ?_ (by decide)|with_reducible refine bd_then bd_mk0 ?_ (by decide)|with_reducible refine bd_then (bd_bk0 _) ?_ (by decide) | intro _
theorem bd_cut (n : Int) : Bd 11 (G.cut n) := by unfold cut; repeat' first|with_reducible refine bd_then (bd_edge _ _) ?_ (by decide)|with_reducible refine bd_then (bd_cutN _ _) ?_ (by decide)|exact (bd_afterE _ _).mono (by decide)|exact bd_pure _|with_reducible refine bd_ite ?_ ?_|with_reducible refine bd_then (bd_gt0 _) ?_ (by decide)|with_reducible refine bd_then (bd_pt _ _) ?_ (by decide)|with_reducible refine bd_then bd_mk0 ?_ (by decide)|with_reducible refine bd_then (bd_bk0 _) ?_ (by decide) | intro _
theorem bd_emptyK (l : GL) : ∀ k : Nat, Bd (11 * k) (G.emptyK l k)
 | 0 => by unfold emptyK; repeat' first|exact bd_pure _|with_reducible refine bd_ite ?_ ?_|with_reducible refine bd_then (bd_gt0 _) ?_ (by decide)|with_reducible refine bd_then (bd_pt _ _) ?_ (by decide)|with_reducible refine bd_then bd_mk0 ?_ (by decide)|with_reducible refine bd_then (bd_bk0 _) ?_ (by decide) | intro _
 | k + 1 => by
   unfold emptyK
   refine bd_seq (bd_gt0 _) (j := 11 * (k + 1)) (fun n => ?_) (by omega)
   refine bd_ite (bd_pure _) (bd_ite ?_ (bd_pure _))
   exact bd_seq (G.bd_cutN n) (fun e => bd_ite (bd_pure _) (bd_emptyK l k)) (by omega)
theorem bd_empty (hG : G.Ok) (l : GL) : Bd 1419 (G.empty l) := (G.bd_emptyK l _).mono (by have := hG.1.2.2.2.2.2.2; omega)
theorem bd_dropEnd (n v : Int) : Bd 7 (G.dropEnd n v) := by unfold dropEnd; repeat' first|with_reducible refine bd_then (bd_more _ _) ?_ (by decide)|with_reducible refine bd_then (bd_vertex _ _) ?_ (by decide)|with_reducible refine bd_then (bd_takeP _) ?_ (by decide)|with_reducible refine bd_then (bd_link _ _ _) ?_ (by decide)|with_reducible refine bd_then (bd_unlink _ _ _) ?_ (by decide)|with_reducible refine bd_then (bd_find _ _ _) ?_ (by decide)|with_reducible refine bd_then (bd_giveP _ _) ?_ (by decide)|exact bd_pure _|with_reducible refine bd_ite ?_ ?_|with_reducible refine bd_then (bd_gt0 _) ?_ (by decide)|with_reducible refine bd_then (bd_pt _ _) ?_ (by decide)|with_reducible refine bd_then bd_mk0 ?_ (by decide)|with_reducible refine bd_then (bd_bk0 _) ?_ (by decide) | intro _
theorem bd_dropIn (hG : G.Ok) (n : Int) : Bd 2845 (G.dropIn n) := by unfold dropIn; repeat' first|with_reducible refine bd_then (bd_empty _ hG _) ?_ (by decide)|exact (bd_dropEnd _ _ _).mono (by decide)|with_reducible refine bd_then (bd_more _ _) ?_ (by decide)|with_reducible refine bd_then (bd_vertex _ _) ?_ (by decide)|with_reducible refine bd_then (bd_takeP _) ?_ (by decide)|with_reducible refine bd_then (bd_link _ _ _) ?_ (by decide)|with_reducible refine bd_then (bd_unlink _ _ _) ?_ (by decide)|with_reducible refine bd_then (bd_find _ _ _) ?_ (by decide)|with_reducible refine bd_then (bd_giveP _ _) ?_ (by decide)|exact bd_pure _|with_reducible refine bd_ite ?_ ?_|with_reducible refine bd_then (bd_gt0 _) ?_ (by decide)|with_reducible refine bd_then (bd_pt _ _) ?_ (by decide)|with_reducible refine bd_then bd_mk0 ?_ (by decide)|with_reducible refine bd_then (bd_bk0 _) ?_ (by decide) | intro _
theorem bd_drop (hG : G.Ok) (n : Int) : Bd 2845 (G.drop n) := by unfold drop; repeat' first|with_reducible refine bd_then (bd_dropIn _ hG _) ?_ (by decide)|exact (bd_after _ _).mono (by decide)|exact bd_pure _|with_reducible refine bd_ite ?_ ?_|with_reducible refine bd_then (bd_gt0 _) ?_ (by decide)|with_reducible refine bd_then (bd_pt _ _) ?_ (by decide)|with_reducible refine bd_then bd_mk0 ?_ (by decide)|with_reducible refine bd_then (bd_bk0 _) ?_ (by decide) | intro _
theorem bd_weigh (a b : Int) : Bd 0 (G.weigh a b) := by unfold weigh; repeat' first|with_reducible refine bd_then (bd_more _ _) ?_ (by decide)|with_reducible refine bd_then (bd_vertex _ _) ?_ (by decide)|with_reducible refine bd_then (bd_takeP _) ?_ (by decide)|with_reducible refine bd_then (bd_link _ _ _) ?_ (by decide)|with_reducible refine bd_then (bd_unlink _ _ _) ?_ (by decide)|with_reducible refine bd_then (bd_find _ _ _) ?_ (by decide)|with_reducible refine bd_then (bd_giveP _ _) ?_ (by decide)|exact bd_pure _|with_reducible refine bd_ite ?_ ?_|with_reducible refine bd_then (bd_gt0 _) ?_ (by decide)|with_reducible refine bd_then (bd_pt _ _) ?_ (by decide)|with_reducible refine bd_then bd_mk0 ?_ (by decide)|with_reducible refine bd_then (bd_bk0 _) ?_ (by decide) | intro _
theorem bd_label (n : Int) : Bd 0 (G.label n) := by unfold label; repeat' first|with_reducible refine bd_then (bd_more _ _) ?_ (by decide)|with_reducible refine bd_then (bd_vertex _ _) ?_ (by decide)|with_reducible refine bd_then (bd_takeP _) ?_ (by decide)|with_reducible refine bd_then (bd_link _ _ _) ?_ (by decide)|with_reducible refine bd_then (bd_unlink _ _ _) ?_ (by decide)|with_reducible refine bd_then (bd_find _ _ _) ?_ (by decide)|with_reducible refine bd_then (bd_giveP _ _) ?_ (by decide)|exact bd_pure _|with_reducible refine bd_ite ?_ ?_|with_reducible refine bd_then (bd_gt0 _) ?_ (by decide)|with_reducible refine bd_then (bd_pt _ _) ?_ (by decide)|with_reducible refine bd_then bd_mk0 ?_ (by decide)|with_reducible refine bd_then (bd_bk0 _) ?_ (by decide) | intro _
theorem bd_endsF (whom : Int) (acc : List (Int × Int)) (n : Int) : Bd 0 (endsF whom acc n) := by unfold endsF; repeat' first|exact bd_pure _|with_reducible refine bd_ite ?_ ?_|with_reducible refine bd_then (bd_gt0 _) ?_ (by decide)|with_reducible refine bd_then (bd_pt _ _) ?_ (by decide)|with_reducible refine bd_then bd_mk0 ?_ (by decide)|with_reducible refine bd_then (bd_bk0 _) ?_ (by decide) | intro _
theorem bd_ends (n : Int) (l : GL) (whom : Int) : Bd 0 (G.ends n l whom) := by
 unfold ends
 refine bd_seq (G.bd_vertex n) (j := 0) (fun is => bd_ite ?_ (bd_pure _)) (by decide)
 exact bd_seq (j := 0) (G.bd_through _ _ (bd_endsF whom) _) (fun _ => bd_pure _) (by decide)
theorem bd_verts : Bd 0 G.verts := bd_seq (j := 0) (G.bd_through _ _ (fun _ _ => bd_pure _) _) (fun _ => bd_pure _) (by decide)
end Gh
end Sim
namespace Go.Proofs.YtgdhcgnmffgkiaaGreatDoor
variable (w0 : World)
open Go.Vc Sim
set_option maxHeartbeats 4000000
abbrev ghV (G : Gh) : Value := .agg (List.toArray [.int .i64 G.pool.root, .int .i64 G.pool.frm, .int .i64 G.pool.nodes, .int .i64 G.root])
abbrev glV (l : GL) : Value := .agg (List.toArray [.int .i64 l.head, .int .i64 l.nx, .int .i64 l.pv])
theorem ghNode (G : Gh) (hG : G.Ok) (n : Int) : FnE PP w0 [] 281 [ghV G, .int .i64 n] [] (.bool (G.nd n)) [] := by
 have kn := node_spec w0 G.pool hG.1 n
 refine zep en281 fn281 rfl rfl rfl ?_
 refine zyr ?_
 repeat' first|(refine zap rfl ?_;refine zaq (cs := [_, _, _, _]) rfl (fun nb => ?_))|refine zp ?_|refine zyn ?_
 refine zeb [0] rfl ?_
 repeat' first|refine zck ?_|refine zyq ?_|(refine zap rfl ?_;refine zah [] kn rfl rfl rfl zdj rfl ?_)|refine zp ?_|refine zyl 0 rfl ?_|refine zyf rfl ?_|refine zch ?_
 exact zej rfl ⟨rfl, rfl⟩
theorem ghVm (G : Gh) (hG : G.Ok) : FnE PP w0 [] 170 [ghV G] [] (.int .i64 G.vm) [] := by
 obtain ⟨_, h1, h2⟩ := id hG
 refine zep en170 fn170 rfl rfl rfl ?_
 refine zyr ?_
 repeat' first|(refine zap rfl ?_;refine zaq (cs := [_, _, _, _]) rfl (fun nb => ?_))|refine zp ?_|refine zyn ?_
 refine zeb [0] rfl ?_
 repeat' first|refine zyq ?_|(refine zap rfl ?_;first|refine reg_mul (t := 2) rfl rfl ?_|refine zev (t := 2) rfl rfl ?_)|refine zp ?_|refine zyl 0 rfl ?_|refine zyf rfl ?_|refine zch ?_
 exact zej rfl ⟨rfl, rfl⟩
theorem ghEm (G : Gh) (hG : G.Ok) : FnE PP w0 [] 177 [ghV G] [] (.int .i64 G.em) [] := by
 obtain ⟨_, h1, h2⟩ := id hG
 refine zep en177 fn177 rfl rfl rfl ?_
 refine zyr ?_
 repeat' first|(refine zap rfl ?_;refine zaq (cs := [_, _, _, _]) rfl (fun nb => ?_))|refine zp ?_|refine zyn ?_
 refine zeb [0] rfl ?_
 repeat' first|refine zyq ?_|(refine zap rfl ?_;first|refine reg_mul (t := 2) rfl rfl ?_|refine zev (t := 2) rfl rfl ?_)|refine zp ?_|refine zyl 0 rfl ?_|refine zyf rfl ?_|refine zch ?_
 exact zej rfl ⟨rfl, rfl⟩
theorem ghAll (G : Gh) : FnE PP w0 [] 173 [ghV G] [] (glV G.all) [] := by
 refine zep en173 fn173 rfl rfl rfl ?_
 refine zyr ?_
 repeat' (refine zap rfl ?_;first|refine zar (fun t2 => ?_)|refine zaq (cs := [_, _, _, _]) rfl (fun nb => ?_))
 all_goals refine zyn ?_
 refine zeb [0] rfl ?_
 repeat' first|refine zyq ?_|(refine zap rfl ?_;first|refine zdu rfl rfl ?_|refine zae 0 rfl rfl rfl rfl rfl rfl rfl ?_|refine zcb rfl ?_)|refine zyl 0 rfl ?_|refine zyf rfl ?_|refine zch ?_
 exact zeg (zek (zel [] rfl (zem rfl (zeo 0 rfl rfl rfl) ⟨rfl, rfl, rfl⟩)))
theorem ghOut (G : Gh) (v : Int) : FnE PP w0 [] 178 [ghV G, .int .i64 v] [] (glV (Gh.out v)) [] := by
 refine zep en178 fn178 rfl rfl rfl ?_
 refine zyr ?_
 repeat' (refine zap rfl ?_;first|refine zar (fun t4 => ?_)|refine zaq (cs := [_, _, _, _]) rfl (fun nb => ?_))
 all_goals refine zyn ?_
 refine zeb [0] rfl ?_
 repeat' first|refine zyq ?_|(refine zap rfl ?_;first|refine zdu rfl rfl ?_|refine zae 0 rfl rfl rfl rfl rfl rfl rfl ?_|refine zcb rfl ?_)|refine zp ?_|refine zch ?_
 exact zeg (zek (zel [] rfl (zem rfl (zeo 0 rfl rfl rfl) ⟨rfl, rfl, rfl⟩)))
theorem ghIn (G : Gh) (v : Int) : FnE PP w0 [] 179 [ghV G, .int .i64 v] [] (glV (Gh.inn v)) [] := by
 refine zep en179 fn179 rfl rfl rfl ?_
 refine zyr ?_
 repeat' (refine zap rfl ?_;first|refine zar (fun t4 => ?_)|refine zaq (cs := [_, _, _, _]) rfl (fun nb => ?_))
 all_goals refine zyn ?_
 refine zeb [0] rfl ?_
 repeat' first|refine zyq ?_|(refine zap rfl ?_;first|refine zdu rfl rfl ?_|refine zae 0 rfl rfl rfl rfl rfl rfl rfl ?_|refine zcb rfl ?_)|refine zp ?_|refine zch ?_
 exact zeg (zek (zel [] rfl (zem rfl (zeo 0 rfl rfl rfl) ⟨rfl, rfl, rfl⟩)))
theorem ghAt (n c : Int) : FnE PP w0 [] 171 [.int .i64 n, .int .i64 c] [] (.int .i64 (w64 (n + c))) [] := by
 refine zep en171 fn171 rfl rfl rfl ?_
 repeat' first|refine zck ?_|refine zyq ?_|(refine zap rfl ?_;refine zdu rfl rfl ?_)|refine zp ?_|refine zch ?_
 exact zej rfl ⟨rfl, rfl⟩
theorem ghMore (p : Nat) (a n : Int) : FnG w0 [] 174 [spP p, .int .i64 a, .int .i64 n] p (Gh.more a n) encU := by
 intro s hS; have hG := At.start hS; generalize Pg.run _ s = R at hG ⊢
 unfold Gh.more at hG
 refine zep en174 fn174 rfl rfl rfl ?_
 repeat' first|refine zyq ?_|(refine zap rfl ?_;first|refine zdu rfl rfl ?_|refine zdk [0] hG (getG w0 p _) rfl rfl rfl zdj (fun x s hG => ?_)|refine zdk [0] hG (putG w0 p _ _) rfl rfl rfl zdj (fun u s hG => ?_))|refine zp ?_|refine zch ?_
 rw [hG.done]
 exact end_tmp0 rfl ⟨rfl, rfl⟩
theorem ghVertex (p : Nat) (G : Gh) (hK : G.Ok) (n : Int) : FnG w0 [] 175 [ghV G, spP p, .int .i64 n] p (G.vertex n) (.bool) := by
 have kn := ghNode w0 G hK n
 have km := ghVm w0 G hK
 intro s hS; have hG := At.start hS; generalize Pg.run _ s = R at hG ⊢
 unfold Gh.vertex at hG
 refine zep en175 fn175 rfl rfl rfl ?_
 refine zyr ?_
 repeat' first|(refine zap rfl ?_;refine zaq (cs := [_, _, _, _]) rfl (fun nb => ?_))|refine zp ?_|refine zyn ?_
 refine zeb [1] rfl ?_
 cases hN : G.nd n with
 | false =>
   rw [hN, if_neg (by decide)] at hG
   rw [hN] at kn
   rw [hG.done]
   repeat' first|refine zyq ?_|(refine zap rfl ?_;first|refine zak rfl ?_|refine zah [] kn rfl rfl rfl zdj rfl ?_|refine zbv rfl ?_)|refine zp ?_|refine zyl 0 rfl ?_|refine zch ?_
   exact zej rfl ⟨rfl, rfl⟩
 | true =>
   rw [hN, if_pos rfl] at hG
   rw [hN] at kn
   repeat' first|refine zyq ?_|(refine zap rfl ?_;first|refine zaj rfl ?_|refine zah [] kn rfl rfl rfl zdj rfl ?_|refine zah [] km rfl rfl rfl zdj rfl ?_|refine zah [] (ghAt w0 _ _) rfl rfl rfl zdj rfl ?_|refine zdk [0] hG (getG w0 p _) rfl rfl rfl zdj (fun x s hG => ?_)|refine zbo rfl rfl ?_|refine zbu rfl ?_)|refine zp ?_|refine zyl 0 rfl ?_|refine zch ?_
   rw [hG.done]
   exact zej rfl ⟨rfl, rfl⟩
theorem ghEdge (p : Nat) (G : Gh) (hK : G.Ok) (n : Int) : FnG w0 [] 180 [ghV G, spP p, .int .i64 n] p (G.edge n) (.bool) := by
 have kn := ghNode w0 G hK n
 have km := ghEm w0 G hK
 intro s hS; have hG := At.start hS; generalize Pg.run _ s = R at hG ⊢
 unfold Gh.edge at hG
 refine zep en180 fn180 rfl rfl rfl ?_
 refine zyr ?_
 repeat' first|(refine zap rfl ?_;refine zaq (cs := [_, _, _, _]) rfl (fun nb => ?_))|refine zp ?_|refine zyn ?_
 refine zeb [1] rfl ?_
 cases hN : G.nd n with
 | false =>
   rw [hN, if_neg (by decide)] at hG
   rw [hN] at kn
   rw [hG.done]
   repeat' first|refine zyq ?_|(refine zap rfl ?_;first|refine zak rfl ?_|refine zah [] kn rfl rfl rfl zdj rfl ?_|refine zbv rfl ?_)|refine zp ?_|refine zyl 0 rfl ?_|refine zch ?_
   exact zej rfl ⟨rfl, rfl⟩
 | true =>
   rw [hN, if_pos rfl] at hG
   rw [hN] at kn
   repeat' first|refine zyq ?_|(refine zap rfl ?_;first|refine zaj rfl ?_|refine zah [] kn rfl rfl rfl zdj rfl ?_|refine zah [] km rfl rfl rfl zdj rfl ?_|refine zah [] (ghAt w0 _ _) rfl rfl rfl zdj rfl ?_|refine zdk [0] hG (getG w0 p _) rfl rfl rfl zdj (fun x s hG => ?_)|refine zbo rfl rfl ?_|refine zbu rfl ?_)|refine zp ?_|refine zyl 0 rfl ?_|refine zch ?_
   rw [hG.done]
   exact zej rfl ⟨rfl, rfl⟩
theorem ghLink (p : Nat) (G : Gh) (hK : G.Ok) (l : GL) (n : Int) : FnG w0 [] 172 [ghV G, spP p, glV l, .int .i64 n] p (G.link l n) (.int .i64) := by
 intro s hS; have hG := At.start hS; generalize Pg.run _ s = R at hG ⊢
 unfold Gh.link at hG
 refine zep en172 fn172 rfl rfl rfl ?_
 refine zyr ?_
 repeat' first|(refine zap rfl ?_;first|refine zaq (cs := [_, _, _]) rfl (fun nb => ?_)|refine zaq (cs := [_, _, _, _]) rfl (fun nb => ?_))|refine zp ?_|refine zyn ?_
 refine zeb [1] rfl ?_
 refine zeb [1] rfl ?_
 refine zyr ?_
 repeat' first|(refine zap rfl ?_;refine zdk [0] hG (getG w0 p _) rfl rfl rfl zdj (fun was s hG => ?_))|refine zp ?_|refine zyl 0 rfl ?_|refine zyf rfl ?_|refine zyn ?_
 refine zyr ?_
 repeat' first|(refine zap rfl ?_;first|refine zah [] (ghAt w0 _ _) rfl rfl rfl zdj rfl ?_|refine zdk [0] hG (putG w0 p _ _) rfl rfl rfl zdj (fun u s hG => ?_))|refine zp ?_|refine zyl 0 rfl ?_|refine zyf rfl ?_|refine zyn ?_
 refine zyr ?_
 repeat' first|(refine zap rfl ?_;first|refine zah [] (ghAt w0 _ _) rfl rfl rfl zdj rfl ?_|refine zdk [0] hG (putG w0 p _ _) rfl rfl rfl zdj (fun u s hG => ?_))|refine zp ?_|refine zyl 0 rfl ?_|refine zyf rfl ?_|refine zyn ?_
 refine zyr ?_
 repeat' first|(refine zap rfl ?_;refine zdk [0] hG (putG w0 p _ _) rfl rfl rfl zdj (fun u s hG => ?_))|refine zp ?_|refine zyl 0 rfl ?_|refine zyf rfl ?_|refine zyn ?_
 by_cases hw : was = 0
 · rw [if_pos hw] at hG
   rw [hG.done]
   repeat' first|refine zck ?_|refine zyq ?_|(refine zap rfl ?_;refine zbc rfl rfl (by omega) ?_)|refine zp ?_|refine zch ?_|refine zci rfl ?_
   exact zej rfl ⟨rfl, rfl⟩
 rw [if_neg hw] at hG
 refine zyr ?_
 repeat' first|(refine zap rfl ?_;refine zbd rfl rfl (by omega) ?_)|refine zp ?_|refine zyn ?_
 refine zcj rfl ?_
 have kn := ghNode w0 G hK was
 cases hN : G.nd was with
 | false =>
   rw [hN, if_neg (by decide)] at hG
   rw [hN] at kn
   rw [hG.done]
   repeat' first|refine zck ?_|refine zcm ?_|refine zyq ?_|(refine zap rfl ?_;first|refine zbx rfl ?_|refine zah [] kn rfl rfl rfl zdj rfl ?_)|refine zp ?_|refine zyl 1 rfl ?_|refine zch ?_|refine zci rfl ?_
   exact zej rfl ⟨rfl, rfl⟩
 | true =>
   rw [hN, if_pos rfl] at hG
   rw [hN] at kn
   repeat' first|refine zck ?_|refine zcm ?_|refine zyq ?_|(refine zap rfl ?_;first|refine zbx rfl ?_|refine zah [] kn rfl rfl rfl zdj rfl ?_|refine zah [] (ghAt w0 _ _) rfl rfl rfl zdj rfl ?_|refine zdk [0] hG (putG w0 p _ _) rfl rfl rfl zdj (fun u s hG => ?_))|refine zp ?_|refine zyl 0 rfl ?_|refine zyl 1 rfl ?_|refine zyf rfl ?_|refine zch ?_|refine zcj rfl ?_
   rw [hG.done]
   exact zej rfl ⟨rfl, rfl⟩
theorem ghUnlink (p : Nat) (G : Gh) (hK : G.Ok) (l : GL) (n : Int) : FnG w0 [] 183 [ghV G, spP p, glV l, .int .i64 n] p (G.unlink l n) (.int .i64) := by
 intro s hS; have hG := At.start hS; generalize Pg.run _ s = R at hG ⊢
 unfold Gh.unlink at hG
 refine zep en183 fn183 rfl rfl rfl ?_
 refine zyr ?_
 repeat' first|(refine zap rfl ?_;first|refine zaq (cs := [_, _, _]) rfl (fun nb => ?_)|refine zaq (cs := [_, _, _, _]) rfl (fun nb => ?_))|refine zp ?_|refine zyn ?_
 rename_i gb
 revert nb; intro lb
 refine zeb [1] rfl ?_
 refine zeb [1] rfl ?_
 refine zyr ?_
 repeat' first|(refine zap rfl ?_;first|refine zah [] (ghAt w0 _ _) rfl rfl rfl zdj rfl ?_|refine zdk [0] hG (getG w0 p (w64 (n + l.pv))) rfl rfl rfl zdj (fun a s hG => ?_)|refine zdk [0] hG (getG w0 p (w64 (n + l.nx))) rfl rfl rfl zdj (fun b s hG => ?_))|refine zp ?_|refine zyl 0 rfl ?_|refine zyf rfl ?_|refine zyn ?_
 refine zyr ?_
 repeat' first|(refine zap rfl ?_;refine zbo rfl rfl ?_)|refine zp ?_|refine zyn ?_
 refine run_join (S := Sp) (fun _ => [(1, spP p), (3, .int .i64 n), (4, .pointer (some ⟨gb, 0, none⟩)), (6, .pointer (some ⟨lb, 0, none⟩)), (9, .int .i64 a), (10, .int .i64 b)])
   (fun z Γ => Γ = [SpaceA p z] ∧ At R (G.unlinkB l a b) z) ?_ ?_
 · refine zed rfl (fun ha => ?_) (fun ha => ?_)
   · rw [if_pos ha] at hG
     repeat' first|refine zyq ?_|(refine zap rfl ?_;refine zdk [0] hG (putG w0 p _ _) rfl rfl rfl zdj (fun u s hG => ?_))|refine zp ?_|refine zyl 0 rfl ?_|refine zyf rfl ?_|refine zch ?_
     exact zeq ⟨rfl, s, ⟨rfl, rfl, rfl, rfl, rfl, rfl, trivial⟩, ⟨rfl, hG⟩⟩
   rw [if_neg ha] at hG
   have kn := ghNode w0 G hK a
   cases hN : G.nd a with
   | false =>
     rw [hN, if_neg (by decide)] at hG
     rw [hN] at kn
     rw [hG.done]
     repeat' first|refine zck ?_|refine zyq ?_|(refine zap rfl ?_;first|refine zbx rfl ?_|refine zah [] kn rfl rfl rfl zdj rfl ?_)|refine zp ?_|refine zyl 1 rfl ?_|refine zch ?_|refine zci rfl ?_
     exact cut_ret (zek (zem rfl rfl ⟨rfl, rfl⟩))
   | true =>
     rw [hN, if_pos rfl] at hG
     rw [hN] at kn
     repeat' first|refine zck ?_|refine zyq ?_|(refine zap rfl ?_;first|refine zbx rfl ?_|refine zah [] kn rfl rfl rfl zdj rfl ?_|refine zah [] (ghAt w0 _ _) rfl rfl rfl zdj rfl ?_|refine zdk [0] hG (putG w0 p _ _) rfl rfl rfl zdj (fun u s hG => ?_))|refine zp ?_|refine zyl 0 rfl ?_|refine zyl 1 rfl ?_|refine zyf rfl ?_|refine zch ?_|refine zcj rfl ?_
     exact zeq ⟨rfl, s, ⟨rfl, rfl, rfl, rfl, rfl, rfl, trivial⟩, ⟨rfl, hG⟩⟩
 rintro s Γ junk ⟨rfl, hG⟩
 unfold Gh.unlinkB at hG
 by_cases hb : b = 0
 · rw [if_pos hb] at hG
   rw [hG.done]
   repeat' first|refine zck ?_|refine zcn ?_|refine zyq ?_|(refine zap rfl ?_;refine zbc rfl rfl (by omega) ?_)|refine zp ?_|refine zch ?_|refine zci rfl ?_
   exact zej rfl ⟨rfl, rfl⟩
 rw [if_neg hb] at hG
 refine zyr ?_
 repeat' first|(refine zap rfl ?_;refine zbd rfl rfl (by omega) ?_)|refine zp ?_|refine zyn ?_
 refine zcj rfl ?_
 have kn := ghNode w0 G hK b
 cases hN : G.nd b with
 | false =>
   rw [hN, if_neg (by decide)] at hG
   rw [hN] at kn
   rw [hG.done]
   repeat' first|refine zck ?_|refine zcm ?_|refine zyq ?_|(refine zap rfl ?_;first|refine zbx rfl ?_|refine zah [] kn rfl rfl rfl zdj rfl ?_)|refine zp ?_|refine zyl 1 rfl ?_|refine zch ?_|refine zci rfl ?_
   exact zej rfl ⟨rfl, rfl⟩
 | true =>
   rw [hN, if_pos rfl] at hG
   rw [hN] at kn
   repeat' first|refine zck ?_|refine zcm ?_|refine zyq ?_|(refine zap rfl ?_;first|refine zbx rfl ?_|refine zah [] kn rfl rfl rfl zdj rfl ?_|refine zah [] (ghAt w0 _ _) rfl rfl rfl zdj rfl ?_|refine zdk [0] hG (putG w0 p _ _) rfl rfl rfl zdj (fun u s hG => ?_))|refine zp ?_|refine zyl 0 rfl ?_|refine zyl 1 rfl ?_|refine zyf rfl ?_|refine zch ?_|refine zcj rfl ?_
   rw [hG.done]
   exact zej rfl ⟨rfl, rfl⟩
theorem ghUndo (p : Nat) (s : Sp) (m : Nat) (eb : Nat) (e : Int) : FnD PP w0 [] 169 [spP p, .int .i64 m, .pointer (some ⟨eb, 0, none⟩)] [SpaceA p s, erV eb e]
    fun v Γ' => v = .tuple #[] ∧ Γ' = [SpaceA p (if e ≠ 0 then s.back m else s), erV eb e] := by
  refine fnD_of_run en169 fn169 rfl rfl rfl ?_
 
  repeat' first|refine zck ?_|refine zyq ?_|(refine zap rfl ?_;first|refine zab 1 rfl rfl rfl ?_|refine zbp rfl rfl ?_)|refine zp ?_|refine zch ?_
  refine zed rfl (fun hE => ?_) (fun hE => ?_)
  · repeat' first|refine zyq ?_|(refine zap rfl ?_;refine zah [0] (back_spec w0 p s m) rfl rfl rfl zdj rfl ?_)|refine zp ?_|refine zch ?_
    refine run_nil ⟨rfl, ends_none rfl ?_⟩
    rw [if_pos hE]; exact ⟨rfl, rfl⟩
  · repeat' first|refine zcm ?_|(refine zap rfl ?_;first|refine zaj rfl ?_|refine zak rfl ?_|refine zal rfl ?_|refine zam rfl rfl (fun _ => ?_) (fun _ => ?_))|refine zch ?_
    refine run_nil ⟨rfl, ends_none rfl ?_⟩
    rw [if_neg hE]; exact ⟨rfl, rfl⟩
def ghD (p eb : Nat) (m : Nat) : Deferred := { target := .fn (.func 169) #[], args := List.toArray [spP p, .int .i64 m, .pointer (some ⟨eb, 0, none⟩)] }
abbrev shP (p b : Nat) : Nat × Obj := (b, .cells (List.toArray [spP p]) 24 (0, 0))
abbrev shL (l : GL) (b : Nat) : Nat × Obj := (b, .cells (List.toArray [.int .i64 l.head, .int .i64 l.nx, .int .i64 l.pv]) 228 (0, 0))
abbrev shG (G : Gh) (b : Nat) : Nat × Obj := (b, .cells (List.toArray [.int .i64 G.pool.root, .int .i64 G.pool.frm, .int .i64 G.pool.nodes, .int .i64 G.root]) 130 (0, 0))
abbrev shE (eb b : Nat) : Nat × Obj := (b, .cells (List.toArray [.pointer (some ⟨eb, 0, none⟩)]) 153 (0, 0))
abbrev ptS (x : Nat × Obj) : Asn := pt x.1 x.2
theorem ghThrough (p eb : Nat) (G : Gh) (l : GL) : Vc.Fn PP w0 [] 185 [ghV G, spP p, glV l, .pointer (some ⟨eb, 0, none⟩)] [] (fun v Γ => ∃ b1 b2 b3 b4, v = .func (.func 282) #[] #[.pointer (some ⟨b1, 0, none⟩), .pointer (some ⟨b2, 0, none⟩), .pointer (some ⟨b3, 0, none⟩), .pointer (some ⟨b4, 0, none⟩)] ∧
   Γ = [ptS (shG G b3), ptS (shP p b1), ptS (shL l b2), ptS (shE eb b4)]) := by
 refine zep en185 fn185 rfl rfl rfl ?_
 refine zyr ?_
 repeat' first|(refine zap rfl ?_;first|refine zaq (cs := [_]) rfl (fun nb => ?_)|refine zaq (cs := [_, _, _]) rfl (fun nb => ?_)|refine zaq (cs := [_, _, _, _]) rfl (fun nb => ?_))|refine zp ?_|refine zyn ?_
 repeat' first|refine zyq ?_|refine zp ?_|refine zch ?_
 exact zej rfl ⟨_, _, _, _, rfl, rfl⟩
def RY (p : Nat) {β : Type} (φ : Nat → β → Prop) (f : β → Int → Pg (β × Bool)) (A X : β → Asn) (x : {x : β × Int × Sp // Pg.Fits (f x.1 x.2.1) x.2.2 ∧ ∃ i, i < 128 ∧ φ i x.1}) (jump : Option Code) (Γ : List Asn) : Prop :=
 jump = (if (Pg.run (f x.1.1 x.1.2.1) x.1.2.2).1.2 = true then none else some .ret) ∧
 Γ = [SpaceA p (Pg.run (f x.1.1 x.1.2.1) x.1.2.2).2, if (Pg.run (f x.1.1 x.1.2.1) x.1.2.2).1.2 = true then A (Pg.run (f x.1.1 x.1.2.1) x.1.2.2).1.1 else X (Pg.run (f x.1.1 x.1.2.1) x.1.2.2).1.1]
theorem ghThrough1 (p eb : Nat) (G : Gh) (hK : G.Ok) (l : GL) (sh : Shared) (b1 b2 b3 b4 : Nat) {β : Type} (f : β → Int → Pg (β × Bool)) (A X : β → Asn) (φ : Nat → β → Prop) (hφ : ∀ i acc n s, i < 128 → φ i acc → (Pg.run (f acc n) s).1.2 = true → φ (i + 1) (Pg.run (f acc n) s).1.1) (L : Nat) (lp : Option Code → Asn)
   (hY : ∀ x : {x : β × Int × Sp // Pg.Fits (f x.1 x.2.1) x.2.2 ∧ ∃ i, i < 128 ∧ φ i x.1}, Yld PP w0 (shP p b1 :: shL l b2 :: shG G b3 :: shE eb b4 :: sh) L [.int .i64 x.1.2.1] (lp none :: [SpaceA p x.1.2.2, A x.1.1])
     (fun b Γ' => ∃ jump Γ'', b = jump.isNone ∧ RY p φ f A X x jump Γ'' ∧ Γ' = lp jump :: Γ'')) (acc : β) (h0 : φ 0 acc) (s : Sp) (hS : Pg.Fits (G.through l f acc) s) :
   Vc.Fn PP w0 (shP p b1 :: shL l b2 :: shG G b3 :: shE eb b4 :: sh) 282 [.func (.yield L) #[] #[], .pointer (some ⟨b1, 0, none⟩), .pointer (some ⟨b2, 0, none⟩), .pointer (some ⟨b3, 0, none⟩), .pointer (some ⟨b4, 0, none⟩)]
     [lp none, SpaceA p s, A acc, erV eb 0]
     (fun _ Γ' => Γ' = [lp (if (Pg.run (G.through l f acc) s).1.2.2 = true then some .ret else none), SpaceA p (Pg.run (G.through l f acc) s).2, if (Pg.run (G.through l f acc) s).1.2.2 = true then X (Pg.run (G.through l f acc) s).1.1 else A (Pg.run (G.through l f acc) s).1.1, erV eb (Pg.run (G.through l f acc) s).1.2.1]) := by
 have hG := At.start hS
 generalize Pg.run _ s = R at hG ⊢
 unfold Gh.through at hG
 refine zep en282 fn282 rfl rfl rfl ?_
 refine zyr ?_
 repeat' refine zp ?_
 all_goals refine zyn ?_
 refine zyr ?_
 repeat' first|(refine zap rfl ?_;refine zdk [1] hG (getG w0 p _) rfl rfl rfl zdj (fun n s hG => ?_))|refine zp ?_|refine zyl 0 rfl ?_|refine zyl 1 rfl ?_|refine zyf rfl ?_|refine zyn ?_
 repeat (first|refine zck ?_|refine zcl ?_|refine zcm ?_|refine zcn ?_|refine zco ?_)
 obtain ⟨⟨hp1, hp2, hp3, hp4, hp5, hp6, hp7⟩, _, _⟩ := id hK
 refine run_loop (S := Int × Nat × β × Sp) (fun v => [(0, .func (.yield L) #[] #[]), (1, .pointer (some ⟨b1, 0, none⟩)), (2, .pointer (some ⟨b2, 0, none⟩)), (3, .pointer (some ⟨b3, 0, none⟩)), (4, .pointer (some ⟨b4, 0, none⟩)), (6, .int .i64 (G.pool.nodes - v.2.1)), (7, .int .i64 v.1)])
   (fun v Γ => Γ = [SpaceA p v.2.2.2, lp none, A v.2.2.1, erV eb 0] ∧ At R (G.thr l f v.2.1 v.1 v.2.2.1) v.2.2.2 ∧ v.2.1 ≤ G.pool.nodes.toNat ∧ φ (G.pool.nodes.toNat - v.2.1) v.2.2.1) (fun v => v.2.1) (n, G.pool.nodes.toNat, acc, s) ⟨rfl, rfl, rfl, rfl, rfl, by show Value.int .i64 0 = _; congr 1; dsimp only; omega, rfl, trivial⟩ ⟨rfl, hG, Nat.le_refl _, by dsimp only; rw [Nat.sub_self]; exact h0⟩ ?_
 rintro ⟨n, k, acc, s⟩ Γ junk ⟨rfl, hG, hle, hph⟩
 dsimp only at hG hle hph ⊢
 by_cases hn : n = 0
 · have hG : At R (Pg.ret (acc, 0, false)) s := by cases k <;> rw [Gh.thr, if_pos hn] at hG <;> exact hG
   rw [hG.done]
   refine zyr ?_
   repeat' first|(refine zap rfl ?_;refine zbf rfl rfl (by omega) ?_)|refine zp ?_|refine zyn ?_
   refine zcj rfl ?_
   refine zer rfl rfl ?_
   exact run_nil (zek (zel [1, 0, 0, 0] rfl (ends_none rfl ⟨rfl, by first | rfl | simp⟩)))
 have kn := ghNode w0 G hK n
 cases hN : G.nd n with
 | false =>
   have hG : At R (Pg.ret (acc, 24, false)) s := by cases k <;> rw [Gh.thr, if_neg hn] at hG <;> first|exact hG|(rw [hN, if_neg (by decide)] at hG; exact hG)
   rw [hN] at kn
   rw [hG.done]
   repeat' first|refine zck ?_|refine zcm ?_|refine zcl ?_|refine zyq ?_|(refine zap rfl ?_;first|refine zbx rfl ?_|refine zak rfl ?_|refine zah [] kn rfl rfl rfl zdj rfl ?_|refine zbe rfl rfl (by omega) ?_|refine zau rfl rfl (by omega) ?_|refine zbu rfl ?_|refine zae 3 rfl rfl rfl rfl rfl rfl rfl ?_)|refine zp ?_|refine zyl 2 rfl ?_|refine zyl 3 rfl ?_|refine zch ?_|refine zci rfl ?_
   exact cut_ret (zek (zel [1, 0, 0, 0] rfl (ends_none rfl ⟨rfl, by first | rfl | simp⟩)))
 | true =>
 cases k with
 | zero =>
   rw [Gh.thr, if_neg hn] at hG
   rw [hN] at kn
   rw [hG.done]
   repeat' first|refine zck ?_|refine zcm ?_|refine zcl ?_|refine zyq ?_|(refine zap rfl ?_;first|refine zbx rfl ?_|refine zaj rfl ?_|refine zah [] kn rfl rfl rfl zdj rfl ?_|refine zbe rfl rfl (by omega) ?_|refine zbk rfl rfl (by omega) ?_|refine zau rfl rfl (by omega) ?_|refine zbv rfl ?_|refine zae 3 rfl rfl rfl rfl rfl rfl rfl ?_)|refine zp ?_|refine zyl 2 rfl ?_|refine zyl 3 rfl ?_|refine zyf rfl ?_|refine zch ?_|refine zci rfl ?_
   exact cut_ret (zek (zel [1, 0, 0, 0] rfl (ends_none rfl ⟨rfl, by first | rfl | simp⟩)))
 | succ k =>
   rw [Gh.thr, if_neg hn, hN, if_pos rfl] at hG
   rw [hN] at kn
   refine zyr ?_
   repeat' first|(refine zap rfl ?_;refine zbe rfl rfl (by omega) ?_)|refine zp ?_|refine zyn ?_
   refine zci rfl ?_
   repeat (first|refine zck ?_|refine zcl ?_|refine zcm ?_|refine zcn ?_|refine zco ?_)
   refine zyr ?_
   repeat' first|(refine zap rfl ?_;refine zau rfl rfl (by omega) ?_)|refine zp ?_|refine zyn ?_
   refine zyr ?_
   repeat' first|(refine zap rfl ?_;first|refine zbx rfl ?_|refine zaj rfl ?_|refine zah [] kn rfl rfl rfl zdj rfl ?_|refine zbl rfl rfl (by omega) ?_|refine zbv rfl ?_)|refine zp ?_|refine zyl 2 rfl ?_|refine zyf rfl ?_|refine zyn ?_
   refine zcj rfl ?_
   refine zyr ?_
   repeat' first|(refine zap rfl ?_;first|refine zbx rfl ?_|refine reg_yield [1, 0, 0] (hY ⟨(acc, n, s), hG.step.1, G.pool.nodes.toNat - (k + 1), by omega, hph⟩) rfl rfl rfl (fun _ h => h) (fun b Γ' ⟨jump, Γ'', q1, ⟨q2, q3⟩, q4⟩ => ?_))|refine zp ?_|refine zyn ?_
   subst q4; subst q3; subst q2; subst q1
   have hG := hG.step.2
   have hph2 := hφ _ acc n s (by omega) hph
   rw [show G.pool.nodes.toNat - (k + 1) + 1 = G.pool.nodes.toNat - k by omega] at hph2
   dsimp only at hG ⊢
   generalize Pg.run (f acc n) s = q at hG hph2 ⊢
   obtain ⟨⟨acc2, go⟩, s⟩ := q
   dsimp only at hG ⊢
   cases go with
   | false =>
     rw [if_neg (by decide)] at hG
     refine zci rfl ?_
     rw [hG.done]
     exact cut_ret (zek (ends_none rfl (by simp)))
   | true =>
     rw [if_pos rfl] at hG
     refine zcj rfl ?_
     repeat' first|refine zcm ?_|refine zcn ?_|refine zyq ?_|(refine zap rfl ?_;first|refine zah [] (ghAt w0 _ _) rfl rfl rfl zdj rfl ?_|refine zdk [1] hG (getG w0 p _) rfl rfl rfl zdj (fun m s hG => ?_))|refine zp ?_|refine zyl 0 rfl ?_|refine zyl 1 rfl ?_|refine zyf rfl ?_|refine zch ?_
     exact zeq ⟨rfl, (m, k, acc2, s), ⟨rfl, rfl, rfl, rfl, rfl, by show Value.int .i64 _ = _; congr 1; dsimp only; omega, rfl, trivial⟩, ⟨rfl, hG, by dsimp only; omega, hph2 rfl⟩, Nat.lt_succ_self k⟩
end Go.Proofs.YtgdhcgnmffgkiaaGreatDoor
