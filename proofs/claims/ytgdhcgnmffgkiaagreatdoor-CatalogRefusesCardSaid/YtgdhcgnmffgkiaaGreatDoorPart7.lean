import Derived.Test.YtgdhcgnmffgkiaaGreatDoorPart3
/- Own work: lemmas of this claim. -/
namespace Sim
open Go Go.Vc
structure Te where
 pool : Pl
 root : Int
def Te.Ok (T : Te) : Prop := T.pool.Ok ∧ -9223372036854775808 ≤ T.root ∧ T.root ≤ 9223372036854775807
abbrev Wk := Bool × Int
def Wk.Ok (w : Wk) : Prop := -1 ≤ w.2 ∧ w.2 ≤ 8256 ∧ (w.1 = false → 0 ≤ w.2)
def xorU (a b : Int) : Int := IntKind.u64.wrap ((BitVec.ofInt 64 a ^^^ BitVec.ofInt 64 b).toNat : Nat)
def rankX (k : Int) : Int := IntKind.u64.wrap (xorU (IntKind.u64.wrap k) (IntKind.u64.wrap k / 2 ^ 33) * 18397679294719823053)
def rankT (k : Int) : Int := xorU (rankX k) (rankX k / 2 ^ 33)
namespace Te
variable (T : Te)
def kid (k key : Int) : Int := if k < key then 2 else 3
def is (a : Int) (w : Wk) : Bool × Wk :=
 if a = 0 ∨ w.1 = true then (false, w) else
 (!(if T.pool.node a = true then decide (w64 (w.2 - 1) < 0) else true), (if T.pool.node a = true then decide (w64 (w.2 - 1) < 0) else true), w64 (w.2 - 1))
def start : Wk := (false, w64 (64 * w64 (T.pool.nodes + 1)))
def ofW (a cell : Int) (w : Wk) : Pg (Int × Wk) :=
 if (T.is a w).1 = true then do
   let v ← Pg.gt (w64 (a + cell))
   pure (v, (T.is a w).2)
 else pure (0, (T.is a w).2)
def refresh (a : Int) (w : Wk) : Pg (Unit × Wk) := do
 let l ← Pg.gt (w64 (a + 2))
 let r ← Pg.gt (w64 (a + 3))
 let x ← T.ofW l 4 w
 let y ← T.ofW r 4 x.2
 let _ ← Pg.pt (w64 (a + 4)) (w64 (w64 (1 + x.1) + y.1))
 let v ← Pg.gt (w64 (a + 1))
 let x ← T.ofW l 5 y.2
 let y ← T.ofW r 5 x.2
 let _ ← Pg.pt (w64 (a + 5)) (w64 (w64 (v + x.1) + y.1))
 pure ((), y.2)
def wayK {β : Type} (f : β → Int × Int → Pg (β × Bool)) (k : Int) : Nat → Int → Wk → β → Pg ((β × Bool) × Wk)
 | 0, a, w, acc => pure ((acc, false), if (T.is a w).1 = true then (true, (T.is a w).2.2) else (T.is a w).2)
 | j + 1, a, w, acc =>
   if (T.is a w).1 = true then do
     let key ← Pg.gt (w64 (a + 0))
     let r ← f acc (a, key)
     if r.2 = false then pure ((r.1, true), (T.is a w).2) else
     if key = k then pure ((r.1, false), (T.is a w).2) else do
       let b ← Pg.gt (w64 (a + kid k key))
       wayK f k j b (T.is a w).2 r.1
   else pure ((acc, false), (T.is a w).2)
def way {β : Type} (f : β → Int × Int → Pg (β × Bool)) (k : Int) (w : Wk) (acc : β) : Pg ((β × Bool) × Wk) := do
 let a ← Pg.gt T.root
 T.wayK f k T.pool.nodes.toNat a w acc
def pathF (acc : List (Int × Int)) (x : Int × Int) : Pg (List (Int × Int) × Bool) := pure (acc ++ [x], true)
def hasKey (k : Int) (l : List (Int × Int)) : Bool := match l.getLast? with | some x => decide (x.2 = k) | none => false
def path (k : Int) (w : Wk) : Pg ((List (Int × Int) × Bool) × Wk) := do
 let r ← T.way pathF k w []
 pure ((r.1.1, hasKey k r.1.1), r.2)
def add : List (Int × Int) → Int → Int → Pg Unit
 | [], _, _ => pure ()
 | x :: l, n, v => do
   let _ ← (if n ≠ 0 then do
       let c ← Pg.gt (w64 (x.1 + 4))
       Pg.pt (w64 (x.1 + 4)) (w64 (c + n))
     else pure ())
   let _ ← (if v ≠ 0 then do
       let c ← Pg.gt (w64 (x.1 + 5))
       Pg.pt (w64 (x.1 + 5)) (w64 (c + v))
     else pure ())
   add l n v
def split (k : Int) : Nat → Int → Wk → Pg ((Int × Int) × Wk)
 | 0, a, w => pure ((0, 0), (T.is a w).2)
 | j + 1, a, w =>
   if (T.is a w).1 = true then do
     let key ← Pg.gt (w64 (a + 0))
     if key < k then do
       let b ← Pg.gt (w64 (a + 3))
       let r ← split k j b (T.is a w).2
       let _ ← Pg.pt (w64 (a + 3)) r.1.1
       let u ← T.refresh a r.2
       pure ((a, r.1.2), u.2)
     else do
       let b ← Pg.gt (w64 (a + 2))
       let r ← split k j b (T.is a w).2
       let _ ← Pg.pt (w64 (a + 2)) r.1.2
       let u ← T.refresh a r.2
       pure ((r.1.1, a), u.2)
   else pure ((0, 0), (T.is a w).2)
def merge : Nat → Int → Int → Wk → Pg (Int × Wk)
 | 0, a, b, w => pure (if (T.is a w).1 = true then a else b, if (T.is a w).1 = true then (T.is b (T.is a w).2).2 else (T.is a w).2)
 | j + 1, a, b, w =>
   if (T.is a w).1 = true then
     if (T.is b (T.is a w).2).1 = true then do
       let x ← Pg.gt (w64 (a + 0))
       let y ← Pg.gt (w64 (b + 0))
       if rankT x > rankT y then do
         let c ← Pg.gt (w64 (a + 3))
         let r ← merge j c b (T.is b (T.is a w).2).2
         let _ ← Pg.pt (w64 (a + 3)) r.1
         let u ← T.refresh a r.2
         pure (a, u.2)
       else do
         let c ← Pg.gt (w64 (b + 2))
         let r ← merge j a c (T.is b (T.is a w).2).2
         let _ ← Pg.pt (w64 (b + 2)) r.1
         let u ← T.refresh b r.2
         pure (b, u.2)
     else pure (a, (T.is b (T.is a w).2).2)
   else pure (b, (T.is a w).2)
def hang (l : List (Int × Int)) (k a : Int) : Pg Unit :=
 match l.getLast? with
 | none => Pg.pt T.root a
 | some x => Pg.pt (w64 (x.1 + kid k x.2)) a
def after {α : Type} (m : Nat) (r : α × Int) : Pg (α × Int) := if r.2 ≠ 0 then do
   let _ ← Pg.bk m
   pure r
 else pure r
def above (k : Int) : List (Int × Int) → Nat
 | [] => 0
 | x :: l => if rankT x.2 > rankT k then above k l + 1 else 0
def cutAt (k : Int) : Option (Int × Int) → Wk → Pg ((Int × Int) × Wk)
 | some x, w => T.split k 8258 x.1 w
 | none, w => pure ((0, 0), w)
def putEnd (k v : Int) (l : List (Int × Int)) (a : Int) (r : (Int × Int) × Wk) : Pg ((Int × Bool) × Int) := do
 let _ ← Pg.pt (w64 (a + 2)) r.1.1
 let _ ← Pg.pt (w64 (a + 3)) r.1.2
 let u ← T.refresh a r.2
 let _ ← add (l.take (above k l)) 1 v
 let _ ← T.hang (l.take (above k l)) k a
 let c ← Pg.gt (w64 (T.root + 7))
 let _ ← Pg.pt (w64 (T.root + 7)) (w64 (c + 1))
 pure (if u.2.1 = true then ((0, false), 24) else ((0, false), 0))
def putNew (k v : Int) (l : List (Int × Int)) (w : Wk) : Pg ((Int × Bool) × Int) := do
 let t ← T.pool.takeP
 if t.2 ≠ 0 then pure ((0, false), t.2) else do
   let _ ← Pg.pt (w64 (t.1 + 0)) k
   let _ ← Pg.pt (w64 (t.1 + 1)) v
   let r ← T.cutAt k l[above k l]? w
   T.putEnd k v l t.1 r
def putAs (k v : Int) (l : List (Int × Int)) (w : Wk) : Bool → Option (Int × Int) → Pg ((Int × Bool) × Int)
 | true, some x => do
   let old ← Pg.gt (w64 (x.1 + 1))
   let _ ← Pg.pt (w64 (x.1 + 1)) v
   let _ ← add l 0 (w64 (v - old))
   pure ((old, true), 0)
 | _, _ => T.putNew k v l w
theorem putAs_false (k v : Int) (l : List (Int × Int)) (w : Wk) (o : Option (Int × Int)) : T.putAs k v l w false o = T.putNew k v l w := by cases o <;> rfl
def putIn (k v : Int) : Pg ((Int × Bool) × Int) := do
 let r ← T.path k T.start
 if r.2.1 = true then pure ((0, false), 24) else T.putAs k v r.1.1 r.2 r.1.2 r.1.1.getLast?
def put (k v : Int) : Pg ((Int × Bool) × Int) := do
 let m ← Pg.mk
 let r ← T.putIn k v
 after m r
def dropAt (k : Int) (l : List (Int × Int)) (x : Int × Int) (w : Wk) : Pg ((Int × Bool) × Int) := do
 let old ← Pg.gt (w64 (x.1 + 1))
 let a ← Pg.gt (w64 (x.1 + 2))
 let b ← Pg.gt (w64 (x.1 + 3))
 let r ← T.merge 8258 a b w
 let _ ← T.hang l k r.1
 let _ ← add l (-1) (w64 (0 - old))
 let c ← Pg.gt (w64 (T.root + 7))
 let _ ← Pg.pt (w64 (T.root + 7)) (w64 (c - 1))
 if r.2.1 = true then pure ((0, false), 24) else do
   let e ← T.pool.giveP x.1
   if e ≠ 0 then pure ((0, false), e) else pure ((old, true), 0)
def dropAs (k : Int) (l : List (Int × Int)) (w : Wk) : Bool → Option (Int × Int) → Pg ((Int × Bool) × Int)
 | true, some x => T.dropAt k l.dropLast x w
 | _, _ => pure ((0, false), 0)
theorem dropAs_false (k : Int) (l : List (Int × Int)) (w : Wk) (o : Option (Int × Int)) : T.dropAs k l w false o = pure ((0, false), 0) := by cases o <;> rfl
def dropIn (k : Int) : Pg ((Int × Bool) × Int) := do
 let r ← T.path k T.start
 if r.2.1 = true then pure ((0, false), 24) else T.dropAs k r.1.1 r.2 r.1.2 r.1.1.getLast?
def drop (k : Int) : Pg ((Int × Bool) × Int) := do
 let m ← Pg.mk
 let r ← T.dropIn k
 after m r
def getF (k : Int) (acc : Int) (x : Int × Int) : Pg (Int × Bool) :=
 if x.2 = k then do
   let v ← Pg.gt (w64 (x.1 + 1))
   pure (v, false)
 else pure (acc, true)
def get (k : Int) : Pg (Int × Bool) := do
 let r ← T.way (getF k) k T.start 0
 pure (if r.1.2 = true then (r.1.1, true) else (0, false))
def nextF (k : Int) (acc : Int × Bool) (x : Int × Int) : Pg ((Int × Bool) × Bool) := pure (if k ≤ x.2 then (x.2, true) else acc, true)
def next (k : Int) : Pg (Int × Bool) := do
 let r ← T.way (nextF k) k T.start (0, false)
 pure r.1.1
def untilK (k : Int) (inc : Bool) (cell : Int) (own : Int → Pg Int) : Nat → Int → Wk → Int → Pg Int
 | 0, _, _, total => pure total
 | j + 1, a, w, total =>
   if (T.is a w).1 = true then do
     let key ← Pg.gt (w64 (a + 0))
     if key > k ∨ (key = k ∧ inc = false) then do
       let b ← Pg.gt (w64 (a + 2))
       untilK k inc cell own j b (T.is a w).2 total
     else do
       let o ← own a
       let b ← Pg.gt (w64 (a + 2))
       let x ← T.ofW b cell T.start
       let c ← Pg.gt (w64 (a + 3))
       untilK k inc cell own j c (T.is a w).2 (w64 (total + w64 (o + x.1)))
   else pure total
def until_ (k : Int) (inc : Bool) (cell : Int) (own : Int → Pg Int) : Pg Int := do
 let a ← Pg.gt T.root
 T.untilK k inc cell own T.pool.nodes.toNat a T.start 0
def between (x y cell : Int) (own : Int → Pg Int) : Pg Int :=
 if x > y then pure 0 else do
   let a ← T.until_ y true cell own
   let b ← T.until_ x false cell own
   pure (w64 (a - b))
def sumO (a : Int) : Pg Int := Pg.gt (w64 (a + 1))
def countO (_ : Int) : Pg Int := pure 1
def nthK : Nat → Int → Wk → Int → Pg (Int × Bool)
 | 0, _, _, _ => pure (0, false)
 | j + 1, a, w, n =>
   if (T.is a w).1 = true then do
     let l ← Pg.gt (w64 (a + 2))
     let x ← T.ofW l 4 T.start
     if n = x.1 then do
       let key ← Pg.gt (w64 (a + 0))
       pure (key, true)
     else if n < x.1 then nthK j l (T.is a w).2 n
     else do
       let c ← Pg.gt (w64 (a + 3))
       nthK j c (T.is a w).2 (w64 (n - w64 (x.1 + 1)))
   else pure (0, false)
def nth (n : Int) : Pg (Int × Bool) :=
 if n < 0 then pure (0, false) else do
   let a ← Pg.gt T.root
   T.nthK T.pool.nodes.toNat a T.start n
def len : Pg Int := Pg.gt (w64 (T.root + 7))
end Te
end Sim
namespace Sim
open Go Go.Vc
structure He where
 pool : Pl
 root : Int
def He.Ok (H : He) : Prop := H.pool.Ok ∧ -9223372036854775808 ≤ H.root ∧ H.root ≤ 9223372036854775807
def ahdB (a b : Int × Int) : Bool := decide (a.1 < b.1 ∨ (a.1 = b.1 ∧ a.2 < b.2))
namespace He
variable (H : He)
def nd (n : Int) (b : Bool) : Int × Bool := if H.pool.node n = true then (n, b) else (0, true)
def get (a c : Int) : Pg Int := if a = 0 then pure 0 else Pg.gt (w64 (a + c))
def put (a c v : Int) : Pg Unit := if a = 0 then pure () else do
 let _ ← Pg.pt (w64 (a + c)) v
 pure ()
def rt (c : Int) : Pg Int := Pg.gt (w64 (H.root + c))
def add (c n : Int) : Pg Unit := do
 let v ← H.rt c
 let _ ← Pg.pt (w64 (H.root + c)) (w64 (v + n))
 pure ()
def row (x : Int) (b : Bool) : Pg (Int × Bool) := do
 let v ← H.rt (3 + (x - 1) / 8)
 pure (H.nd v b)
def item (x : Int) (b : Bool) : Pg (Int × Bool) := do
 let r ← H.row x b
 if r.1 = 0 then pure (0, r.2) else do
   let v ← get r.1 ((x - 1) % 8)
   pure (H.nd v r.2)
def key (a : Int) : Pg (Int × Int) := do
 let x ← get a 0
 let y ← get a 2
 pure (x, y)
def lay (x a : Int) (b : Bool) : Pg (Unit × Bool) := do
 let r ← H.row x b
 let _ ← put r.1 ((x - 1) % 8) a
 let _ ← put a 3 x
 pure ((), r.2)
def riseK (own : Int × Int) (a : Int) : Nat → Int → Bool → Pg (Int × Bool)
 | 0, x, b => do
   let b ← H.lay x a b
   pure (x, b.2)
 | k + 1, x, b =>
   if 1 < x ∧ b = false then do
     let u ← H.item (x / 2) b
     let q ← key u.1
     if ahdB own q = true then do
       let b ← H.lay x u.1 u.2
       riseK own a k (x / 2) b.2
     else do
       let b ← H.lay x a u.2
       pure (x, b.2)
   else do
     let b ← H.lay x a b
     pure (x, b.2)
def rise (x a : Int) (b : Bool) : Pg (Int × Bool) := do
 let own ← key a
 H.riseK own a 7 x b
def kid (x n : Int) (b : Bool) : Pg ((Int × Int) × Bool) := do
 let u ← H.item (2 * x) b
 if 2 * x < n then do
   let v ← H.item (2 * x + 1) u.2
   let p ← key v.1
   let q ← key u.1
   if ahdB p q = true then pure ((2 * x + 1, v.1), v.2) else pure ((2 * x, u.1), v.2)
 else pure ((2 * x, u.1), u.2)
def sinkK (own : Int × Int) (a n : Int) : Nat → Int → Bool → Pg (Unit × Bool)
 | 0, x, b => H.lay x a b
 | k + 1, x, b =>
   if 2 * x ≤ n ∧ b = false then do
     let u ← H.kid x n b
     let q ← key u.1.2
     if ahdB q own = true then do
       let b ← H.lay x u.1.2 u.2
       sinkK own a n k u.1.1 b.2
     else H.lay x a u.2
   else H.lay x a b
def sink (x a n : Int) (b : Bool) : Pg (Unit × Bool) := do
 let own ← key a
 H.sinkK own a n 7 x b
def many : Pg (Int × Bool) := do
 let n ← H.rt 0
 pure (n, decide (0 ≤ n ∧ n ≤ 32))
def take : Pg (Int × Int) := do
 let t ← H.pool.takeP
 if t.2 = 0 then do
   let _ ← H.add 7 1
   pure t
 else pure t
def give (a : Int) : Pg Int := do
 let e ← H.pool.giveP a
 if e = 0 then do
   let _ ← H.add 7 (-1)
   pure e
 else pure e
def endE (e : Int) (b : Bool) : Int := if b = true ∧ e = 0 then 24 else e
def after (m : Nat) (r : Int × Int) (b : Bool) : Pg (Int × Int) := if endE r.2 b ≠ 0 then do
   let _ ← Pg.bk m
   pure (r.1, endE r.2 b)
 else pure (r.1, endE r.2 b)
def afterP (m : Nat) (r : Int × Int) (b : Bool) : Pg (Int × Int) := if endE r.2 b ≠ 0 then do
   let _ ← Pg.bk m
   pure (0, endE r.2 b)
 else pure (r.1, endE r.2 b)
def after3 (m : Nat) (r : (Int × Int) × Int) (b : Bool) : Pg ((Int × Int) × Int) := if endE r.2 b ≠ 0 then do
   let _ ← Pg.bk m
   pure (r.1, endE r.2 b)
 else pure (r.1, endE r.2 b)
def pushAt (n pr v a : Int) : Pg ((Int × Int) × Bool) := do
 let _ ← put a 0 pr
 let _ ← put a 1 v
 let o ← H.rt 1
 let _ ← put a 2 o
 let _ ← H.add 1 1
 let _ ← H.add 0 1
 let r ← H.rise (n + 1) a false
 pure ((a, 0), r.2)
def pushIn (pr v : Int) : Pg ((Int × Int) × Bool) := do
 let n ← H.many
 if n.1 = 32 then pure ((0, 9), false) else
 if n.2 = true then do
   let o ← H.rt 1
   if 4611686018427387904 ≤ o then pure ((0, 9), false) else do
     let a ← H.take
     if a.2 ≠ 0 then pure ((0, a.2), false) else
     if n.1 % 8 = 0 then do
       let t ← H.take
       if t.2 ≠ 0 then pure ((0, t.2), false) else do
         let _ ← Pg.pt (w64 (H.root + (3 + n.1 / 8))) t.1
         H.pushAt n.1 pr v a.1
     else H.pushAt n.1 pr v a.1
 else pure ((0, 24), false)
def push (pr v : Int) : Pg (Int × Int) := do
 let m ← Pg.mk
 let r ← H.pushIn pr v
 afterP m r.1 r.2
def rmEnd (p v it : Int) (b : Bool) : Pg (((Int × Int) × Int) × Bool) := do
 let e ← H.give it
 if e ≠ 0 then pure (((0, 0), e), b) else
 if b = true then pure (((0, 0), 24), b) else pure (((p, v), 0), b)
def rmRow (n p v it r : Int) (b : Bool) : Pg (((Int × Int) × Int) × Bool) :=
 if (n - 1) % 8 = 0 then do
   let _ ← Pg.pt (w64 (H.root + (3 + (n - 1) / 8))) 0
   let e ← H.give r
   if e ≠ 0 then pure (((0, 0), e), b) else H.rmEnd p v it b
 else H.rmEnd p v it b
def remove (x n : Int) : Pg (((Int × Int) × Int) × Bool) := do
 let it ← H.item x false
 let l ← H.item n it.2
 let p ← get it.1 0
 let v ← get it.1 1
 let r ← H.row n l.2
 if r.2 = true then pure (((0, 0), 24), true) else do
   let _ ← H.add 0 (-1)
   if x = n then H.rmRow n p v it.1 r.1 false else do
     let q ← H.rise x l.1 false
     if q.1 = x then do
       let b ← H.sink x l.1 (n - 1) q.2
       H.rmRow n p v it.1 r.1 b.2
     else H.rmRow n p v it.1 r.1 q.2
def popIn : Pg (((Int × Int) × Int) × Bool) := do
 let n ← H.many
 if n.1 = 0 then pure (((0, 0), 8), false) else
 if n.2 = true then H.remove 1 n.1 else pure (((0, 0), 24), false)
def pop : Pg ((Int × Int) × Int) := do
 let m ← Pg.mk
 let r ← H.popIn
 after3 m r.1 r.2
def min : Pg ((Int × Int) × Int) := do
 let n ← H.many
 if n.1 = 0 then pure ((0, 0), 8) else
 if n.2 = true then do
   let it ← H.item 1 false
   let p ← get it.1 0
   let v ← get it.1 1
   if it.2 = true then pure ((0, 0), 24) else pure ((p, v), 0)
 else pure ((0, 0), 24)
def find (h : Int) : Pg (((Int × Int) × (Int × Int)) × Bool) := do
 let n ← H.many
 if n.2 = true then
   if H.pool.node h = true then do
     let p ← get h 3
     if p < 1 ∨ n.1 < p then pure (((0, 0), (0, 10)), false) else do
       let r ← H.row p false
       if r.2 = true then pure (((0, 0), (0, 24)), true) else do
         let x ← get r.1 ((p - 1) % 8)
         if x ≠ h then pure (((0, 0), (0, 10)), false) else pure (((h, p), (n.1, 0)), false)
   else pure (((0, 0), (0, 10)), false)
 else pure (((0, 0), (0, 24)), false)
def lowerIn (h pr : Int) : Pg (Int × Bool) := do
 let f ← H.find h
 if f.1.2.2 ≠ 0 then pure (f.1.2.2, f.2) else do
   let u ← get f.1.1.1 0
   if u < pr then pure (4, f.2) else do
     let _ ← put f.1.1.1 0 pr
     let r ← H.rise f.1.1.2 f.1.1.1 f.2
     pure (0, r.2)
def afterL (m : Nat) (e : Int) (b : Bool) : Pg Int := if endE e b ≠ 0 then do
   let _ ← Pg.bk m
   pure (endE e b)
 else pure (endE e b)
def lower (h pr : Int) : Pg Int := do
 let m ← Pg.mk
 let r ← H.lowerIn h pr
 afterL m r.1 r.2
def dropIn (h : Int) : Pg ((Int × Int) × Bool) := do
 let f ← H.find h
 if f.1.2.2 ≠ 0 then pure ((0, f.1.2.2), f.2) else do
   let r ← H.remove f.1.1.2 f.1.2.1
   pure ((r.1.1.2, r.1.2), r.2)
def drop (h : Int) : Pg (Int × Int) := do
 let m ← Pg.mk
 let r ← H.dropIn h
 after m r.1 r.2
def len : Pg Int := Pg.gt (w64 (H.root + 0))
end He
namespace He
open Pg
variable (H : He)
theorem bd_get (a c : Int) : Bd 0 (get a c) := by unfold get; repeat' first|exact bd_gt0 _|exact bd_pure _|with_reducible refine bd_ite ?_ ?_|with_reducible refine bd_then (bd_gt0 _) ?_ (by decide)|with_reducible refine bd_then (bd_pt _ _) ?_ (by decide)|with_reducible refine bd_then bd_mk0 ?_ (by decide)|with_reducible refine bd_then (bd_bk0 _) ?_ (by decide) | intro _
theorem bd_put (a c v : Int) : Bd 1 (put a c v) := by unfold put; repeat' first|exact bd_pure _|with_reducible refine bd_ite ?_ ?_|with_reducible refine bd_then (bd_gt0 _) ?_ (by decide)|with_reducible refine bd_then (bd_pt _ _) ?_ (by decide)|with_reducible refine bd_then bd_mk0 ?_ (by decide)|with_reducible refine bd_then (bd_bk0 _) ?_ (by decide) | intro _
theorem bd_rt (c : Int) : Bd 0 (H.rt c) := bd_gt0 _
theorem bd_add (c n : Int) : Bd 1 (H.add c n) := by unfold add; repeat' first|with_reducible refine bd_then (H.bd_rt _) ?_ (by decide)|exact bd_pure _|with_reducible refine bd_ite ?_ ?_|with_reducible refine bd_then (bd_gt0 _) ?_ (by decide)|with_reducible refine bd_then (bd_pt _ _) ?_ (by decide)|with_reducible refine bd_then bd_mk0 ?_ (by decide)|with_reducible refine bd_then (bd_bk0 _) ?_ (by decide) | intro _
theorem bd_row (x : Int) (b : Bool) : Bd 0 (H.row x b) := by unfold row; repeat' first|with_reducible refine bd_then (H.bd_rt _) ?_ (by decide)|exact bd_pure _|with_reducible refine bd_ite ?_ ?_|with_reducible refine bd_then (bd_gt0 _) ?_ (by decide)|with_reducible refine bd_then (bd_pt _ _) ?_ (by decide)|with_reducible refine bd_then bd_mk0 ?_ (by decide)|with_reducible refine bd_then (bd_bk0 _) ?_ (by decide) | intro _
theorem bd_item (x : Int) (b : Bool) : Bd 0 (H.item x b) := by unfold item; repeat' first|with_reducible refine bd_then (H.bd_row _ _) ?_ (by decide)|with_reducible refine bd_then (bd_get _ _) ?_ (by decide)|exact bd_pure _|with_reducible refine bd_ite ?_ ?_|with_reducible refine bd_then (bd_gt0 _) ?_ (by decide)|with_reducible refine bd_then (bd_pt _ _) ?_ (by decide)|with_reducible refine bd_then bd_mk0 ?_ (by decide)|with_reducible refine bd_then (bd_bk0 _) ?_ (by decide) | intro _
theorem bd_key (a : Int) : Bd 0 (key a) := by unfold key; repeat' first|with_reducible refine bd_then (bd_get _ _) ?_ (by decide)|exact bd_pure _|with_reducible refine bd_ite ?_ ?_|with_reducible refine bd_then (bd_gt0 _) ?_ (by decide)|with_reducible refine bd_then (bd_pt _ _) ?_ (by decide)|with_reducible refine bd_then bd_mk0 ?_ (by decide)|with_reducible refine bd_then (bd_bk0 _) ?_ (by decide) | intro _
theorem bd_lay (x a : Int) (b : Bool) : Bd 2 (H.lay x a b) := by unfold lay; repeat' first|with_reducible refine bd_then (H.bd_row _ _) ?_ (by decide)|with_reducible refine bd_then (bd_put _ _ _) ?_ (by decide)|exact bd_pure _|with_reducible refine bd_ite ?_ ?_|with_reducible refine bd_then (bd_gt0 _) ?_ (by decide)|with_reducible refine bd_then (bd_pt _ _) ?_ (by decide)|with_reducible refine bd_then bd_mk0 ?_ (by decide)|with_reducible refine bd_then (bd_bk0 _) ?_ (by decide) | intro _
theorem bd_riseK (own : Int × Int) (a : Int) : ∀ (k : Nat) (x : Int) (b : Bool), Bd (2 * k + 2) (H.riseK own a k x b)
 | 0, x, b => by unfold riseK; exact bd_seq (H.bd_lay _ _ _) (fun _ => bd_pure (j := 0) _) (by omega)
 | k + 1, x, b => by
   unfold riseK
   refine bd_ite ?_ (bd_seq (H.bd_lay _ _ _) (fun _ => bd_pure (j := 0) _) (by omega))
   refine bd_seq (H.bd_item _ _) (j := 2 * (k + 1) + 2) (fun u => ?_) (by omega)
   refine bd_seq (bd_key _) (j := 2 * (k + 1) + 2) (fun q => ?_) (by omega)
   refine bd_ite ?_ (bd_seq (H.bd_lay _ _ _) (fun _ => bd_pure (j := 0) _) (by omega))
   exact bd_seq (H.bd_lay _ _ _) (fun b => bd_riseK own a k _ b.2) (by omega)
theorem bd_rise (x a : Int) (b : Bool) : Bd 16 (H.rise x a b) := bd_seq (bd_key _) (fun own => H.bd_riseK own a 7 x b) (by decide)
theorem bd_kid (x n : Int) (b : Bool) : Bd 0 (H.kid x n b) := by unfold kid; repeat' first|with_reducible refine bd_then (H.bd_item _ _) ?_ (by decide)|with_reducible refine bd_then (bd_key _) ?_ (by decide)|exact bd_pure _|with_reducible refine bd_ite ?_ ?_|with_reducible refine bd_then (bd_gt0 _) ?_ (by decide)|with_reducible refine bd_then (bd_pt _ _) ?_ (by decide)|with_reducible refine bd_then bd_mk0 ?_ (by decide)|with_reducible refine bd_then (bd_bk0 _) ?_ (by decide) | intro _
theorem bd_sinkK (own : Int × Int) (a n : Int) : ∀ (k : Nat) (x : Int) (b : Bool), Bd (2 * k + 2) (H.sinkK own a n k x b)
 | 0, x, b => by unfold sinkK; exact (H.bd_lay _ _ _).mono (by omega)
 | k + 1, x, b => by
   unfold sinkK
   refine bd_ite ?_ ((H.bd_lay _ _ _).mono (by omega))
   refine bd_seq (H.bd_kid _ _ _) (j := 2 * (k + 1) + 2) (fun u => ?_) (by omega)
   refine bd_seq (bd_key _) (j := 2 * (k + 1) + 2) (fun q => ?_) (by omega)
   refine bd_ite ?_ ((H.bd_lay _ _ _).mono (by omega))
   exact bd_seq (H.bd_lay _ _ _) (fun b => bd_sinkK own a n k _ b.2) (by omega)
theorem bd_sink (x a n : Int) (b : Bool) : Bd 16 (H.sink x a n b) := bd_seq (bd_key _) (fun own => H.bd_sinkK own a n 7 x b) (by decide)
theorem bd_many : Bd 0 H.many := by unfold many; repeat' first|with_reducible refine bd_then (H.bd_rt _) ?_ (by decide)|exact bd_pure _|with_reducible refine bd_ite ?_ ?_|with_reducible refine bd_then (bd_gt0 _) ?_ (by decide)|with_reducible refine bd_then (bd_pt _ _) ?_ (by decide)|with_reducible refine bd_then bd_mk0 ?_ (by decide)|with_reducible refine bd_then (bd_bk0 _) ?_ (by decide) | intro _
theorem bd_take : Bd 3 H.take := by unfold take; repeat' first|with_reducible refine bd_then (bd_takeP _) ?_ (by decide)|with_reducible refine bd_then (H.bd_add _ _) ?_ (by decide)|exact bd_pure _|with_reducible refine bd_ite ?_ ?_|with_reducible refine bd_then (bd_gt0 _) ?_ (by decide)|with_reducible refine bd_then (bd_pt _ _) ?_ (by decide)|with_reducible refine bd_then bd_mk0 ?_ (by decide)|with_reducible refine bd_then (bd_bk0 _) ?_ (by decide) | intro _
theorem bd_give (a : Int) : Bd 4 (H.give a) := by unfold give; repeat' first|with_reducible refine bd_then (bd_giveP _ _) ?_ (by decide)|with_reducible refine bd_then (H.bd_add _ _) ?_ (by decide)|exact bd_pure _|with_reducible refine bd_ite ?_ ?_|with_reducible refine bd_then (bd_gt0 _) ?_ (by decide)|with_reducible refine bd_then (bd_pt _ _) ?_ (by decide)|with_reducible refine bd_then bd_mk0 ?_ (by decide)|with_reducible refine bd_then (bd_bk0 _) ?_ (by decide) | intro _
theorem bd_after (m : Nat) (r : Int × Int) (b : Bool) : Bd 0 (after m r b) := by unfold after; repeat' first|exact bd_pure _|with_reducible refine bd_ite ?_ ?_|with_reducible refine bd_then (bd_gt0 _) ?_ (by decide)|with_reducible refine bd_then (bd_pt _ _) ?_ (by decide)|with_reducible refine bd_then bd_mk0 ?_ (by decide)|with_reducible refine bd_then (bd_bk0 _) ?_ (by decide) | intro _
theorem bd_afterP (m : Nat) (r : Int × Int) (b : Bool) : Bd 0 (afterP m r b) := by unfold afterP; repeat' first|exact bd_pure _|with_reducible refine bd_ite ?_ ?_|with_reducible refine bd_then (bd_gt0 _) ?_ (by decide)|with_reducible refine bd_then (bd_pt _ _) ?_ (by decide)|with_reducible refine bd_then bd_mk0 ?_ (by decide)|with_reducible refine bd_then (bd_bk0 _) ?_ (by decide) | intro _
theorem bd_after3 (m : Nat) (r : (Int × Int) × Int) (b : Bool) : Bd 0 (after3 m r b) := by unfold after3; repeat' first|exact bd_pure _|with_reducible refine bd_ite ?_ ?_|with_reducible refine bd_then (bd_gt0 _) ?_ (by decide)|with_reducible refine bd_then (bd_pt _ _) ?_ (by decide)|with_reducible refine bd_then bd_mk0 ?_ (by decide)|with_reducible refine bd_then (bd_bk0 _) ?_ (by decide) | intro _
theorem bd_afterL (m : Nat) (r : Int) (b : Bool) : Bd 0 (afterL m r b) := by unfold afterL; repeat' first|exact bd_pure _|with_reducible refine bd_ite ?_ ?_|with_reducible refine bd_then (bd_gt0 _) ?_ (by decide)|with_reducible refine bd_then (bd_pt _ _) ?_ (by decide)|with_reducible refine bd_then bd_mk0 ?_ (by decide)|with_reducible refine bd_then (bd_bk0 _) ?_ (by decide) | intro _
theorem bd_pushAt (n pr v a : Int) : Bd 21 (H.pushAt n pr v a) := by unfold pushAt; repeat' first|with_reducible refine bd_then (bd_put _ _ _) ?_ (by decide)|with_reducible refine bd_then (H.bd_rt _) ?_ (by decide)|with_reducible refine bd_then (H.bd_add _ _) ?_ (by decide)|with_reducible refine bd_then (H.bd_rise _ _ _) ?_ (by decide)|exact bd_pure _|with_reducible refine bd_ite ?_ ?_|with_reducible refine bd_then (bd_gt0 _) ?_ (by decide)|with_reducible refine bd_then (bd_pt _ _) ?_ (by decide)|with_reducible refine bd_then bd_mk0 ?_ (by decide)|with_reducible refine bd_then (bd_bk0 _) ?_ (by decide) | intro _
theorem bd_pushIn (pr v : Int) : Bd 28 (H.pushIn pr v) := by unfold pushIn; repeat' first|with_reducible refine bd_then H.bd_many ?_ (by decide)|with_reducible refine bd_then (H.bd_rt _) ?_ (by decide)|with_reducible refine bd_then H.bd_take ?_ (by decide)|exact (H.bd_pushAt _ _ _ _).mono (by decide)|exact bd_pure _|with_reducible refine bd_ite ?_ ?_|with_reducible refine bd_then (bd_gt0 _) ?_ (by decide)|with_reducible refine bd_then (bd_pt _ _) ?_ (by decide)|with_reducible refine bd_then bd_mk0 ?_ (by decide)|with_reducible refine bd_then (bd_bk0 _) ?_ (by decide) | intro _
theorem bd_push (pr v : Int) : Bd 28 (H.push pr v) := by unfold push; repeat' first|with_reducible refine bd_then (H.bd_pushIn _ _) ?_ (by decide)|exact (bd_afterP _ _ _).mono (by decide)|exact bd_pure _|with_reducible refine bd_ite ?_ ?_|with_reducible refine bd_then (bd_gt0 _) ?_ (by decide)|with_reducible refine bd_then (bd_pt _ _) ?_ (by decide)|with_reducible refine bd_then bd_mk0 ?_ (by decide)|with_reducible refine bd_then (bd_bk0 _) ?_ (by decide) | intro _
theorem bd_rmEnd (p v it : Int) (b : Bool) : Bd 4 (H.rmEnd p v it b) := by unfold rmEnd; repeat' first|with_reducible refine bd_then (H.bd_give _) ?_ (by decide)|exact bd_pure _|with_reducible refine bd_ite ?_ ?_|with_reducible refine bd_then (bd_gt0 _) ?_ (by decide)|with_reducible refine bd_then (bd_pt _ _) ?_ (by decide)|with_reducible refine bd_then bd_mk0 ?_ (by decide)|with_reducible refine bd_then (bd_bk0 _) ?_ (by decide) | intro _
theorem bd_rmRow (n p v it r : Int) (b : Bool) : Bd 9 (H.rmRow n p v it r b) := by unfold rmRow; repeat' first|with_reducible refine bd_then (H.bd_give _) ?_ (by decide)|exact (H.bd_rmEnd _ _ _ _).mono (by decide)|exact bd_pure _|with_reducible refine bd_ite ?_ ?_|with_reducible refine bd_then (bd_gt0 _) ?_ (by decide)|with_reducible refine bd_then (bd_pt _ _) ?_ (by decide)|with_reducible refine bd_then bd_mk0 ?_ (by decide)|with_reducible refine bd_then (bd_bk0 _) ?_ (by decide) | intro _
theorem bd_remove (x n : Int) : Bd 42 (H.remove x n) := by
 unfold remove
 refine bd_seq (H.bd_item _ _) (j := 42) (fun it => ?_) (by decide)
 refine bd_seq (H.bd_item _ _) (j := 42) (fun l => ?_) (by decide)
 refine bd_seq (bd_get _ _) (j := 42) (fun p => ?_) (by decide)
 refine bd_seq (bd_get _ _) (j := 42) (fun v => ?_) (by decide)
 refine bd_seq (H.bd_row _ _) (j := 42) (fun r => ?_) (by decide)
 refine bd_ite (bd_pure _) ?_
 refine bd_seq (H.bd_add _ _) (j := 41) (fun _ => ?_) (by decide)
 refine bd_ite ((H.bd_rmRow _ _ _ _ _ _).mono (by decide)) ?_
 refine bd_seq (H.bd_rise _ _ _) (j := 25) (fun q => ?_) (by decide)
 refine bd_ite ?_ ((H.bd_rmRow _ _ _ _ _ _).mono (by decide))
 exact bd_seq (H.bd_sink _ _ _ _) (j := 9) (fun b => H.bd_rmRow _ _ _ _ _ _) (by decide)
theorem bd_popIn : Bd 42 H.popIn := by unfold popIn; repeat' first|with_reducible refine bd_then H.bd_many ?_ (by decide)|exact (H.bd_remove _ _).mono (by decide)|exact bd_pure _|with_reducible refine bd_ite ?_ ?_|with_reducible refine bd_then (bd_gt0 _) ?_ (by decide)|with_reducible refine bd_then (bd_pt _ _) ?_ (by decide)|with_reducible refine bd_then bd_mk0 ?_ (by decide)|with_reducible refine bd_then (bd_bk0 _) ?_ (by decide) | intro _
theorem bd_pop : Bd 42 H.pop := by unfold pop; repeat' first|with_reducible refine bd_then H.bd_popIn ?_ (by decide)|exact (bd_after3 _ _ _).mono (by decide)|exact bd_pure _|with_reducible refine bd_ite ?_ ?_|with_reducible refine bd_then (bd_gt0 _) ?_ (by decide)|with_reducible refine bd_then (bd_pt _ _) ?_ (by decide)|with_reducible refine bd_then bd_mk0 ?_ (by decide)|with_reducible refine bd_then (bd_bk0 _) ?_ (by decide) | intro _
theorem bd_min : Bd 0 H.min := by unfold He.min; repeat' first|with_reducible refine bd_then H.bd_many ?_ (by decide)|with_reducible refine bd_then (H.bd_item _ _) ?_ (by decide)|with_reducible refine bd_then (bd_get _ _) ?_ (by decide)|exact bd_pure _|with_reducible refine bd_ite ?_ ?_|with_reducible refine bd_then (bd_gt0 _) ?_ (by decide)|with_reducible refine bd_then (bd_pt _ _) ?_ (by decide)|with_reducible refine bd_then bd_mk0 ?_ (by decide)|with_reducible refine bd_then (bd_bk0 _) ?_ (by decide) | intro _
theorem bd_find (h : Int) : Bd 0 (H.find h) := by unfold find; repeat' first|with_reducible refine bd_then H.bd_many ?_ (by decide)|with_reducible refine bd_then (H.bd_row _ _) ?_ (by decide)|with_reducible refine bd_then (bd_get _ _) ?_ (by decide)|exact bd_pure _|with_reducible refine bd_ite ?_ ?_|with_reducible refine bd_then (bd_gt0 _) ?_ (by decide)|with_reducible refine bd_then (bd_pt _ _) ?_ (by decide)|with_reducible refine bd_then bd_mk0 ?_ (by decide)|with_reducible refine bd_then (bd_bk0 _) ?_ (by decide) | intro _
theorem bd_lowerIn (h pr : Int) : Bd 17 (H.lowerIn h pr) := by unfold lowerIn; repeat' first|with_reducible refine bd_then (H.bd_find _) ?_ (by decide)|with_reducible refine bd_then (bd_get _ _) ?_ (by decide)|with_reducible refine bd_then (bd_put _ _ _) ?_ (by decide)|with_reducible refine bd_then (H.bd_rise _ _ _) ?_ (by decide)|exact bd_pure _|with_reducible refine bd_ite ?_ ?_|with_reducible refine bd_then (bd_gt0 _) ?_ (by decide)|with_reducible refine bd_then (bd_pt _ _) ?_ (by decide)|with_reducible refine bd_then bd_mk0 ?_ (by decide)|with_reducible refine bd_then (bd_bk0 _) ?_ (by decide) | intro _
theorem bd_lower (h pr : Int) : Bd 17 (H.lower h pr) := by unfold lower; repeat' first|with_reducible refine bd_then (H.bd_lowerIn _ _) ?_ (by decide)|exact (bd_afterL _ _ _).mono (by decide)|exact bd_pure _|with_reducible refine bd_ite ?_ ?_|with_reducible refine bd_then (bd_gt0 _) ?_ (by decide)|with_reducible refine bd_then (bd_pt _ _) ?_ (by decide)|with_reducible refine bd_then bd_mk0 ?_ (by decide)|with_reducible refine bd_then (bd_bk0 _) ?_ (by decide) | intro _
theorem bd_dropIn (h : Int) : Bd 42 (H.dropIn h) := by unfold dropIn; repeat' first|with_reducible refine bd_then (H.bd_find _) ?_ (by decide)|with_reducible refine bd_then (H.bd_remove _ _) ?_ (by decide)|exact bd_pure _|with_reducible refine bd_ite ?_ ?_|with_reducible refine bd_then (bd_gt0 _) ?_ (by decide)|with_reducible refine bd_then (bd_pt _ _) ?_ (by decide)|with_reducible refine bd_then bd_mk0 ?_ (by decide)|with_reducible refine bd_then (bd_bk0 _) ?_ (by decide) | intro _
theorem bd_drop (h : Int) : Bd 42 (H.drop h) := by unfold drop; repeat' first|with_reducible refine bd_then (H.bd_dropIn _) ?_ (by decide)|exact (bd_after _ _ _).mono (by decide)|exact bd_pure _|with_reducible refine bd_ite ?_ ?_|with_reducible refine bd_then (bd_gt0 _) ?_ (by decide)|with_reducible refine bd_then (bd_pt _ _) ?_ (by decide)|with_reducible refine bd_then bd_mk0 ?_ (by decide)|with_reducible refine bd_then (bd_bk0 _) ?_ (by decide) | intro _
end He
end Sim
