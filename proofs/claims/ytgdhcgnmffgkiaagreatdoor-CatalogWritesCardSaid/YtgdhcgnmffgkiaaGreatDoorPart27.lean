import Derived.Test.YtgdhcgnmffgkiaaGreatDoorPart26
import Derived.Test.YtgdhcgnmffgkiaaGreatDoorPart16
import Derived.Test.YtgdhcgnmffgkiaaGreatDoorPart24
/- Own work: lemmas of this claim. -/
namespace Sim
open Go Go.Vc
abbrev aA (r : Int) : Ar := ⟨awP, r⟩
variable {r v a n i j : Int}
abbrev MGood (q : Int × Int × Bool) : Prop := I64 q.1 ∧ (q.2.2 = true → (0 ≤ q.1 ∧ q.1 ≤ 4096) ∧ q.2.1 = (dep q.1 : Int))
theorem rg_aqMany : Rg (Aq.many (aA r)) MGood := by
 unfold Aq.many
 refine Rg.gt fun n h0 h1 => Rg.ite (fun _ => Rg.pure ⟨⟨h0, h1⟩, fun h => (by cases h)⟩) fun hn => Rg.gt fun d _ _ => Rg.pure ⟨⟨h0, h1⟩, fun _ => ⟨⟨by dsimp only; omega, by dsimp only; omega⟩, rfl⟩⟩
abbrev NGood (q : Int × Bool) : Prop := q.2 = true → 200 ≤ q.1 ∧ q.1 ≤ 432
theorem rg_aqNode (c : Int) : Rg (Aq.node (aA r) c) NGood := by
 unfold Aq.node
 exact Rg.gt fun v h0 h1 => Rg.ite (fun _ => Rg.pure fun h => (by cases h)) fun _ => Rg.pure fun h => nd_of h0 h1 h
theorem bg_aqNode (h0 : 0 ≤ a) (h1 : a < 440) : Bg (Aq.node (aA r) a) NGood := by
 unfold Aq.node
 exact Bg.gt h0 h1 fun v h0 h1 => Bg.ite (fun _ => Bg.pure fun h => (by cases h)) fun _ => Bg.pure fun h => nd_of h0 h1 h
abbrev AllN (l : List Int) : Prop := ∀ x ∈ l, 200 ≤ x ∧ x ≤ 432
abbrev YGood (o : Option (List Int)) : Prop := ∀ l, o = some l → AllN l
theorem rg_aqWay (i : Int) : ∀ (d : Nat) (c : Int) (acc : List Int), AllN acc → Rg (Aq.way (aA r) i d c acc) YGood
 | 0, _, acc, h => Rg.pure fun l e => by cases e; exact h
 | d + 1, c, acc, h => by
   unfold Aq.way
   refine Rg.bind (rg_aqNode c) fun x hx => Rg.ite (fun hE => rg_aqWay i d _ _ fun y hy => ?_) fun _ => Rg.pure fun l e => (by cases e)
   rcases List.mem_append.1 hy with hy | hy
   · exact h y hy
   · rw [List.mem_singleton.1 hy]; exact hx hE
theorem bg_aqWay (i : Int) : ∀ (d : Nat) (c : Int) (acc : List Int), 0 ≤ c → c < 440 → AllN acc → Bg (Aq.way (aA r) i d c acc) YGood
 | 0, _, acc, _, _, h => Bg.pure fun l e => by cases e; exact h
 | d + 1, c, acc, h0, h1, h => by
   unfold Aq.way
   refine Bg.bind (bg_aqNode h0 h1) fun x hx => Bg.ite (fun hE => ?_) fun _ => Bg.pure fun l e => (by cases e)
   obtain ⟨h2, h3⟩ := hx hE
   have hd := dig_bd i (d + 1)
   refine bg_aqWay i d _ _ (by omega) (by omega) fun y hy => ?_
   rcases List.mem_append.1 hy with hy | hy
   · exact h y hy
   · rw [List.mem_singleton.1 hy]; exact ⟨h2, h3⟩
theorem lastD_bd {l : List Int} (h : AllN l) : 0 ≤ lastD l ∧ lastD l ≤ 432 := by
 unfold lastD
 rw [List.getLastD_eq_getLast?]
 cases hl : l.getLast? with
 | none => exact ⟨by decide, by decide⟩
 | some x =>
   have := h x (List.mem_of_getLast? hl)
   show 0 ≤ x ∧ x ≤ 432
   omega
abbrev LcGood (q : Int × Int) : Prop := q.2 = 0 → 0 ≤ q.1 ∧ q.1 < 440
theorem rg_aqPlace (i : Int) : Rg (Aq.place (aA r) i) LcGood := by
 unfold Aq.place
 refine Rg.ite (fun _ => Rg.pure fun h => (by cases h)) fun _ => Rg.gt fun n _ _ => Rg.ite (fun _ => Rg.pure fun h => (by cases h)) fun _ => Rg.bind rg_aqMany fun m _ => Rg.ite (fun _ => ?_) fun _ => Rg.pure fun h => (by cases h)
 refine Rg.bind (rg_aqWay i _ _ [] fun x hx => (by cases hx)) fun o ho => Rg.pure ?_
 cases o with
 | none => exact fun h => (by cases h)
 | some l =>
   intro _
   have h1 := lastD_bd (ho l rfl)
   have h2 := dig_bd i 1
   show 0 ≤ lastD l + digA i 1 ∧ lastD l + digA i 1 < 440
   omega
theorem rg_aGet (i : Int) : Rg (Aq.get (aA r) i) (fun q => I64 q.1) := by
 unfold Aq.get
 exact Rg.bind (rg_aqPlace i) fun a _ => Rg.ite (fun _ => Rg.gt fun v h0 h1 => Rg.pure ⟨h0, h1⟩) fun _ => Rg.pure (by unfold I64; first | omega | (dsimp only; omega))
theorem nx_aSet (hv : I64 v) (i : Int) : Nx (Aq.set (aA r) i v) (fun q => q.2 ≠ 0) (fun q => I64 q.1) := by
 unfold Aq.set
 refine Nx.bind (rg_aqPlace i) fun a ha => Nx.ite (fun hE => ?_) fun _ => Nx.pure (by unfold I64; first | omega | (dsimp only; omega))
 obtain ⟨h2, h3⟩ := ha hE
 exact (Sg.gt (Q := fun q : Int × Int => q.2 = 0 ∧ I64 q.1) h2 h3 fun u h0 h1 => Sg.pt h2 h3 hv (Sg.pure ⟨rfl, h0, h1⟩)).nx (fun q h h9 => h9 h.1) |>.mono fun q h => h.2
theorem nx_aSwap (i j : Int) : Nx (Aq.swap (aA r) i j) (fun e => e ≠ 0) (fun _ => True) := by
 unfold Aq.swap
 refine Nx.gt fun g _ _ => Nx.ite (fun _ => Nx.pure trivial) fun _ => Nx.bind (rg_aqPlace i) fun x hx => Nx.ite (fun hE => ?_) fun _ => Nx.pure trivial
 refine Nx.bind (rg_aqPlace j) fun y hy => Nx.ite (fun hE2 => ?_) fun _ => Nx.pure trivial
 obtain ⟨h2, h3⟩ := hx hE
 obtain ⟨h4, h5⟩ := hy hE2
 exact (Sg.gt (Q := fun e : Int => e = 0) h2 h3 fun u h0 h1 => Sg.gt h4 h5 fun w h6 h7 => Sg.pt h2 h3 ⟨h6, h7⟩ (Sg.pt h4 h5 ⟨h0, h1⟩ (Sg.pure (r := (0 : Int)) rfl))).nx (fun q h h9 => h9 h) |>.mono fun _ _ => trivial
theorem sg_aqTake (h0 : 8 ≤ r) (h1 : r ≤ 170) : Sg (Aq.take (aA r)) (fun q => I64 q.1 ∧ (q.2 = 0 → 200 ≤ q.1 ∧ q.1 ≤ 432)) := by
 unfold Aq.take
 refine Sg.bind sg_takeP fun t ht => Sg.ite (fun _ => ?_) fun _ => Sg.pure ht
 exact Sg.gt (by show 0 ≤ r + 7; omega) (by show r + 7 < 440; omega) fun v _ _ => Sg.pt (by show 0 ≤ r + 7; omega) (by show r + 7 < 440; omega) (i64_w _) (Sg.pure ht)
theorem sg_aqGrow (h0 : 8 ≤ r) (h1 : r ≤ 170) (n : Int) (d : Nat) : Sg (Aq.grow (aA r) n d) (fun _ => True) := by
 unfold Aq.grow
 have hr0 : (0 : Int) ≤ (aA r).root := by show 0 ≤ r; omega
 have hr1 : (aA r).root < 440 := by show r < 440; omega
 have hdp := dep_le (n + 1)
 refine Sg.gt hr0 hr1 fun q h2 h3 => Sg.bind (Q1 := fun _ => True) ?_ fun c _ => Sg.ite (fun _ => ?_) fun _ => Sg.pure trivial
 · exact Sg.ite (fun _ => ((bg_aqNode hr0 hr1).mono fun _ _ => trivial).sg) fun _ => Sg.pure trivial
 · refine Sg.bind (sg_aqTake h0 h1) fun t ht => Sg.ite (fun hE => ?_) fun _ => Sg.pure trivial
   obtain ⟨h4, h5⟩ := ht.2 hE
   refine Sg.bind (Q1 := fun _ => True) (Sg.ite (fun _ => Sg.pt1 (by omega) (by omega) ⟨h2, h3⟩) fun _ => Sg.pure trivial) fun _ _ => ?_
   exact Sg.pt hr0 hr1 ht.1 (Sg.pt (by show 0 ≤ r + 2; omega) (by show r + 2 < 440; omega) (by unfold I64; first | omega | (dsimp only; omega)) (Sg.pure trivial))
theorem sg_aqAdd (h0 : 8 ≤ r) (h1 : r ≤ 170) (n : Int) (d : Nat) (h2 : 0 ≤ a) (h3 : a < 440) : Sg (Aq.add (aA r) n d a) (fun _ => True) := by
 unfold Aq.add
 refine Sg.ite (fun _ => ?_) fun _ => Sg.pure trivial
 exact Sg.bind (sg_aqTake h0 h1) fun t ht => Sg.ite (fun _ => Sg.pt h2 h3 ht.1 (Sg.pure trivial)) fun _ => Sg.pure trivial
theorem sg_aqDown (h0 : 8 ≤ r) (h1 : r ≤ 170) (n : Int) : ∀ (d : Nat) (a : Int), 200 ≤ a → a ≤ 432 → Sg (Aq.down (aA r) n d a) (fun q => q.1 = 0 → 200 ≤ q.2 ∧ q.2 ≤ 432)
 | 0, a, h2, h3 => Sg.pure fun _ => ⟨h2, h3⟩
 | d + 1, a, h2, h3 => by
   unfold Aq.down
   have hd := dig_bd n (d + 1)
   refine Sg.ite (fun _ => Sg.pure fun _ => ⟨h2, h3⟩) fun _ => Sg.bind (sg_aqAdd h0 h1 n (d + 1) (by omega) (by omega)) fun e _ => Sg.ite (fun _ => ?_) fun he => Sg.pure fun h => absurd h he
   exact Sg.bind (bg_aqNode (by omega) (by omega)).sg fun q hq => Sg.ite (fun hE => sg_aqDown h0 h1 n d q.1 (hq hE).1 (hq hE).2) fun _ => Sg.pure fun h => (by cases h)
theorem sg_aqRest (h0 : 8 ≤ r) (h1 : r ≤ 170) (h2 : 0 ≤ n) (h3 : n ≤ 4096) (hv : I64 v) (d : Nat) : Sg (Aq.rest (aA r) n v d) (fun q => I64 q.1) := by
 unfold Aq.rest
 refine Sg.bind (bg_aqNode (by show 0 ≤ r; omega) (by show r < 440; omega)).sg fun c hc => Sg.ite (fun hE => ?_) fun _ => Sg.pure (by unfold I64; first | omega | (dsimp only; omega))
 refine Sg.bind (sg_aqDown h0 h1 n d c.1 (hc hE).1 (hc hE).2) fun q hq => Sg.ite (fun hE2 => ?_) fun _ => Sg.pure (by unfold I64; first | omega | (dsimp only; omega))
 obtain ⟨h4, h5⟩ := hq hE2
 have hd := dig_bd n 1
 exact Sg.pt (by omega) (by omega) hv (Sg.pt (by show 0 ≤ r + 1; omega) (by show r + 1 < 440; omega) (by unfold I64; first | omega | (dsimp only; omega)) (Sg.pure (by unfold I64; first | omega | (dsimp only; omega))))
theorem nx_aPush (h0 : 8 ≤ r) (h1 : r ≤ 170) (hv : I64 v) : Nx (Aq.push (aA r) v) (fun q => q.2 ≠ 0) (fun q => I64 q.1) := by
 unfold Aq.push
 refine Nx.bind rg_aqMany fun m hm => Nx.ite (fun hE => Nx.ite (fun _ => Nx.pure (by unfold I64; first | omega | (dsimp only; omega))) fun hne => ?_) fun _ => Nx.pure (by unfold I64; first | omega | (dsimp only; omega))
 obtain ⟨⟨h2, h3⟩, _⟩ := hm.2 hE
 have hI : Sg (Aq.pushIn (aA r) m.1 v m.2.1.toNat) (fun q => I64 q.1) := by
   unfold Aq.pushIn
   refine Sg.ite (fun _ => ?_) fun _ => sg_aqRest h0 h1 h2 h3 hv _
   exact Sg.bind (sg_aqGrow h0 h1 _ _) fun g _ => Sg.ite (fun _ => sg_aqRest h0 h1 h2 h3 hv _) fun _ => Sg.pure (by unfold I64; first | omega | (dsimp only; omega))
 refine Nx.roll hI fun k q hq => ?_
 by_cases he : q.2 ≠ 0
 · exact .inl ⟨q, by rw [if_pos he], hq⟩
 · exact .inr ⟨q, by rw [if_neg he], he, hq⟩
theorem getD_bd {l : List Int} (h : AllN l) (k : Nat) : 0 ≤ l.getD k 0 ∧ l.getD k 0 ≤ 432 := by
 rw [List.getD_eq_getElem?_getD]
 cases hl : l[k]? with
 | none => exact ⟨by decide, by decide⟩
 | some x =>
   have := h x (List.mem_of_getElem? hl)
   show 0 ≤ x ∧ x ≤ 432
   omega
theorem sg_aqGives (n : Int) (d now : Nat) : ∀ (l : List Int) (i : Nat) (gone : Int), AllN l → Sg (Aq.gives (aA r) n d now l i gone) (fun _ => True)
 | [], _, _, _ => Sg.pure trivial
 | a :: l, i, gone, h => by
   obtain ⟨h2, h3⟩ := h a (.head _)
   unfold Aq.gives
   refine Sg.ite (fun _ => sg_aqGives n d now l _ _ fun x hx => h x (.tail _ hx)) fun _ => ?_
   exact Sg.bind (sg_giveP (by omega) (by omega)) fun g _ => Sg.ite (fun _ => sg_aqGives n d now l _ _ fun x hx => h x (.tail _ hx)) fun _ => Sg.pure trivial
theorem sg_aqFell (h0 : 8 ≤ r) (h1 : r ≤ 170) (h2 : 1 ≤ n) (h3 : n ≤ 4096) (d now : Nat) (hnow : now ≤ 4) {top : Int} (ht : I64 top) (gone : Int) : Sg (Aq.fell (aA r) n d now top gone) (fun _ => True) := by
 unfold Aq.fell
 refine Sg.bind (Q1 := fun _ => True) (Sg.ite (fun _ => Sg.gt (by show 0 ≤ r + 7; omega) (by show r + 7 < 440; omega) fun v _ _ => Sg.pt1 (by show 0 ≤ r + 7; omega) (by show r + 7 < 440; omega) (i64_w _)) fun _ => Sg.pure trivial) fun _ _ => ?_
 refine Sg.bind (Q1 := fun _ => True) (Sg.ite (fun _ => Sg.pt (by show 0 ≤ r; omega) (by show r < 440; omega) ht (Sg.pt1 (by show 0 ≤ r + 2; omega) (by show r + 2 < 440; omega) (by unfold I64; first | omega | (dsimp only; omega)))) fun _ => Sg.pure trivial) fun _ _ => ?_
 exact Sg.pt1 (by show 0 ≤ r + 1; omega) (by show r + 1 < 440; omega) (by unfold I64; first | omega | (dsimp only; omega))
theorem sg_aqPopOn (h0 : 8 ≤ r) (h1 : r ≤ 170) (h2 : 1 ≤ n) (h3 : n ≤ 4096) (d now : Nat) (hnow : now ≤ 4) (l : List Int) (hl : AllN l) (hv : I64 v) {top : Int} (ht : I64 top) : Sg (Aq.popOn (aA r) n d now l v top) (fun q => I64 q.1) := by
 unfold Aq.popOn
 exact Sg.bind (sg_aqGives n d now l 0 0 hl) fun g _ => Sg.ite (fun _ => Sg.bind (sg_aqFell h0 h1 h2 h3 d now hnow ht _) fun _ _ => Sg.pure hv) fun _ => Sg.pure (by unfold I64; first | omega | (dsimp only; omega))
theorem nx_aPop (h0 : 8 ≤ r) (h1 : r ≤ 170) : Nx (Aq.pop (aA r)) (fun q => q.2 ≠ 0) (fun q => I64 q.1) := by
 unfold Aq.pop
 refine Nx.bind rg_aqMany fun m hm => Nx.ite (fun _ => Nx.pure (by unfold I64; first | omega | (dsimp only; omega))) fun hne => Nx.ite (fun hE => ?_) fun _ => Nx.pure (by unfold I64; first | omega | (dsimp only; omega))
 obtain ⟨⟨h2, h3⟩, _⟩ := hm.2 hE
 have hdp := dep_le (m.1 - 1)
 have hI : Sg (Aq.popIn (aA r) m.1 m.2.1.toNat) (fun q => I64 q.1) := by
   unfold Aq.popIn
   refine Sg.bind (bg_aqWay _ _ _ [] (by show 0 ≤ r; omega) (by show r < 440; omega) fun x hx => (by cases hx)).sg fun o ho => ?_
   cases o with
   | none => exact Sg.pure (by unfold I64; first | omega | (dsimp only; omega))
   | some l =>
     have hl := ho l rfl
     have g1 := getD_bd hl (m.2.1.toNat - 1)
     have g2 := getD_bd hl 0
     have hd := dig_bd (m.1 - 1) 1
     unfold Aq.popW
     refine Sg.gt (by omega) (by omega) fun v h4 h5 => Sg.ite (fun _ => ?_) fun _ => sg_aqPopOn h0 h1 (by omega) h3 _ _ hdp l hl ⟨h4, h5⟩ (by split <;> exact (by unfold I64; first | omega | (dsimp only; omega)))
     exact Sg.bind (bg_aqNode (by omega) (by omega)).sg fun x hx => Sg.ite (fun hE => sg_aqPopOn h0 h1 (by omega) h3 _ _ hdp l hl ⟨h4, h5⟩ (by have := hx hE; unfold I64; omega)) fun _ => Sg.pure (by unfold I64; first | omega | (dsimp only; omega))
 refine Nx.roll hI fun k q hq => ?_
 by_cases he : q.2 ≠ 0
 · exact .inl ⟨(0, q.2), by rw [if_pos he], (by unfold I64; first | omega | (dsimp only; omega))⟩
 · exact .inr ⟨q, by rw [if_neg he], he, hq⟩
end Sim
namespace Sim
open Go Go.Vc
theorem Nx.conv {α : Type} {g : Pg α} {bad bad' Q Q' : α → Prop} (h : Nx g bad Q) (hb : ∀ q, bad' q → bad q) (hq : ∀ q, Q q → Q' q) : Nx g bad' Q' := fun s hs =>
 let ⟨h1, h2, h3⟩ := h s hs; ⟨h1, fun h4 => h2 (hb _ h4), hq _ h3⟩
end Sim
namespace Go.Proofs.YtgdhcgnmffgkiaaGreatDoor
open Go.Vc Sim
set_option maxHeartbeats 4000000
structure MwF (w0 : World) (k r : Int) (m : ByteArray × Int × Bool) (st : Int → Int → Int → Sp → (Int × Int) × Sp) : Prop where
 len : ∀ x y z s, Few s → (st x y z s).2.puts.length ≤ s.puts.length + 30000
 cat : ∀ (sh : Shared) p s (l : List Int) a c, Few s → (l.length : Int) = m.2.1 → RdSl w0 sh encI 1 (.slice a l.length c) l →
   FnE PP w0 sh 13 [spP p, poolV awP, rootV k r, .string m.1, .slice a l.length c] [SpaceA p s] (encI2 (st (l.getD 0 0) (l.getD 1 0) (l.getD 2 0) s).1) [SpaceA p (st (l.getD 0 0) (l.getD 1 0) (l.getD 2 0) s).2]
 wr : ∀ x y z s, I64 x → I64 y → I64 z → Lv s → Lv (st x y z s).2 ∧ I64 (st x y z s).1.1 ∧ ((st x y z s).1.2 ≠ 0 → (st x y z s).1.1 = 0) ∧ ((st x y z s).1.2 ≠ 0 ∨ m.2.2 = false → (st x y z s).2.puts = s.puts)
def MwOk (w0 : World) (k r : Int) (m : ByteArray × Int × Bool) : Prop := ∃ st, MwF w0 k r m st
theorem mw_pg {w0 : World} {k r : Int} {m : MRow} {α : Type} (g : Int → Int → Int → Pg α) (fin : α → Int × Int)
   (hlen : ∀ x y z s, Few s → (Pg.run (g x y z) s).2.puts.length ≤ s.puts.length + 30000)
   (hcat : ∀ (sh : Shared) p s (l : List Int) a c, Few s → (l.length : Int) = m.1.2.1 → RdSl w0 sh encI 1 (.slice a l.length c) l →
     FnE PP w0 sh m.2 [onV p awP r, .slice a l.length c] [SpaceA p s] (encI2 (fin (Pg.run (g (l.getD 0 0) (l.getD 1 0) (l.getD 2 0)) s).1)) [SpaceA p (Pg.run (g (l.getD 0 0) (l.getD 1 0) (l.getD 2 0)) s).2])
   (hW : ∀ x y z, I64 x → I64 y → I64 z → Nx (g x y z) (fun q => (fin q).2 ≠ 0 ∨ m.1.2.2 = false) (fun q => I64 (fin q).1))
   (hm : ((msK k).find? fun x => decide (x.1.1 = m.1.1)) = some m := by kernel_rfl) (hk : ctName k ≠ bs [] := by decide +kernel) :
   MwOk w0 k r m.1 :=
 ⟨fun x y z s => (fixE (fin (Pg.run (g x y z) s).1), (Pg.run (g x y z) s).2),
  { len := hlen
    cat := fun sh p s l a c hs hl hr => doE w0 sh p awP k r m.1.1 a l.length c m hm hk hl.symm s _ _ (hcat sh p s l a c hs hl hr)
    wr := fun x y z s hx hy hz hs => by
      obtain ⟨h1, h2, h3⟩ := hW x y z hx hy hz s hs
      refine ⟨h1, ?_, fun he => ?_, h2⟩
      · show I64 (if (fin (Pg.run (g x y z) s).1).2 ≠ 0 then 0 else (fin (Pg.run (g x y z) s).1).1)
        split
        · unfold I64; omega
        · exact h3
      · show (if (fin (Pg.run (g x y z) s).1).2 ≠ 0 then 0 else (fin (Pg.run (g x y z) s).1).1) = 0
        exact if_pos he }⟩
end Go.Proofs.YtgdhcgnmffgkiaaGreatDoor
