import Derived.Test.YtgdhcgnmffgkiaaGreatDoorPart25
import Derived.Test.YtgdhcgnmffgkiaaGreatDoorPart7
import Derived.Test.YtgdhcgnmffgkiaaGreatDoorPart17
import Derived.Test.YtgdhcgnmffgkiaaGreatDoorPart8
/- Own work: lemmas of this claim. -/
namespace Sim
open Go Go.Vc
abbrev aH (r : Int) : He := ⟨awP, r⟩
variable {r v a n x c : Int}
def NdZ (a : Int) : Prop := a = 0 ∨ 200 ≤ a ∧ a ≤ 432
theorem NdZ.i64 (h : NdZ a) : I64 a := by unfold NdZ at h; unfold I64; omega
theorem nd_z (hv : I64 v) (b : Bool) : NdZ ((aH r).nd v b).1 := by
 unfold He.nd
 split
 · rename_i h; exact .inr (nd_of hv.1 hv.2 h)
 · exact .inl rfl
theorem bg_heGet (hz : NdZ a) (h0 : 0 ≤ c) (h1 : c ≤ 7) : Bg (He.get a c) I64 := by
 unfold He.get
 refine Bg.ite (fun _ => Bg.pure (by unfold I64; first | omega | (dsimp only; omega))) fun h => ?_
 have hz := hz.resolve_left h
 rw [w64_in (by omega) (by omega)]
 exact Bg.gt1 (by omega) (by omega)
theorem rg_heGet (a c : Int) : Rg (He.get a c) I64 := by
 unfold He.get
 exact Rg.ite (fun _ => Rg.pure (by unfold I64; first | omega | (dsimp only; omega))) fun h => Rg.gt1 _
theorem sg_hePut (hz : NdZ a) (h0 : 0 ≤ c) (h1 : c ≤ 7) (hv : I64 v) : Sg (He.put a c v) (fun _ => True) := by
 unfold He.put
 refine Sg.ite (fun _ => Sg.pure trivial) fun h => ?_
 have hz := hz.resolve_left h
 exact Sg.ptW (by omega) (by omega) hv (Sg.pure trivial)
theorem bg_heRt (h0 : 8 ≤ r) (h1 : r ≤ 170) (h2 : 0 ≤ c) (h3 : c ≤ 9) : Bg ((aH r).rt c) I64 := by
 unfold He.rt
 show Bg (Pg.gt (w64 (r + c))) I64
 rw [w64_in (by omega) (by omega)]
 exact Bg.gt1 (by omega) (by omega)
theorem sg_heAdd (h0 : 8 ≤ r) (h1 : r ≤ 170) (h2 : 0 ≤ c) (h3 : c ≤ 9) (n : Int) : Sg ((aH r).add c n) (fun _ => True) := by
 unfold He.add
 exact Sg.bind (bg_heRt h0 h1 h2 h3).sg fun v _ => Sg.ptW (by show 0 ≤ r + c; omega) (by show r + c < 440; omega) (i64_w _) (Sg.pure trivial)
theorem bg_row (h0 : 8 ≤ r) (h1 : r ≤ 170) (h2 : 1 ≤ x) (h3 : x ≤ 40) (b : Bool) : Bg ((aH r).row x b) (fun q => NdZ q.1) := by
 unfold He.row
 exact Bg.bind (bg_heRt h0 h1 (by omega) (by omega)) fun v hv => Bg.pure (nd_z hv b)
theorem bg_item (h0 : 8 ≤ r) (h1 : r ≤ 170) (h2 : 1 ≤ x) (h3 : x ≤ 40) (b : Bool) : Bg ((aH r).item x b) (fun q => NdZ q.1) := by
 unfold He.item
 refine Bg.bind (bg_row h0 h1 h2 h3 b) fun q hq => Bg.ite (fun _ => Bg.pure (.inl rfl)) fun _ => ?_
 exact Bg.bind (bg_heGet hq (by omega) (by omega)) fun v hv => Bg.pure (nd_z hv q.2)
theorem bg_key (hz : NdZ a) : Bg (He.key a) (fun _ => True) := by
 unfold He.key
 exact Bg.bind (bg_heGet hz (by omega) (by omega)) fun x _ => Bg.bind (bg_heGet hz (by omega) (by omega)) fun y _ => Bg.pure trivial
theorem sg_lay (h0 : 8 ≤ r) (h1 : r ≤ 170) (h2 : 1 ≤ x) (h3 : x ≤ 40) (hz : NdZ a) (b : Bool) : Sg ((aH r).lay x a b) (fun _ => True) := by
 unfold He.lay
 exact Sg.bind (bg_row h0 h1 h2 h3 b).sg fun q hq => Sg.bind (sg_hePut hq (by omega) (by omega) hz.i64) fun _ _ => Sg.bind (sg_hePut hz (by omega) (by omega) (by unfold I64; first | omega | (dsimp only; omega))) fun _ _ => Sg.pure trivial
theorem sg_riseK (h0 : 8 ≤ r) (h1 : r ≤ 170) (own : Int × Int) (hz : NdZ a) : ∀ (k : Nat) (x : Int) (b : Bool), 1 ≤ x → x ≤ 40 → Sg ((aH r).riseK own a k x b) (fun q => 1 ≤ q.1 ∧ q.1 ≤ 40)
 | 0, x, b, h2, h3 => by
   unfold He.riseK
   exact Sg.bind (sg_lay h0 h1 h2 h3 hz b) fun _ _ => Sg.pure ⟨h2, h3⟩
 | k + 1, x, b, h2, h3 => by
   unfold He.riseK
   refine Sg.ite (fun hc => ?_) fun _ => Sg.bind (sg_lay h0 h1 h2 h3 hz b) fun _ _ => Sg.pure ⟨h2, h3⟩
   refine Sg.bind (bg_item h0 h1 (by omega) (by omega) b).sg fun u hu => Sg.bind (bg_key hu).sg fun q _ => Sg.ite (fun _ => ?_) fun _ => ?_
   · exact Sg.bind (sg_lay h0 h1 h2 h3 hu _) fun w _ => sg_riseK h0 h1 own hz k (x / 2) _ (by omega) (by omega)
   · exact Sg.bind (sg_lay h0 h1 h2 h3 hz _) fun _ _ => Sg.pure ⟨h2, h3⟩
theorem sg_rise (h0 : 8 ≤ r) (h1 : r ≤ 170) (hz : NdZ a) (h2 : 1 ≤ x) (h3 : x ≤ 40) (b : Bool) : Sg ((aH r).rise x a b) (fun q => 1 ≤ q.1 ∧ q.1 ≤ 40) := by
 unfold He.rise
 exact Sg.bind (bg_key hz).sg fun own _ => sg_riseK h0 h1 own hz 7 x b h2 h3
theorem bg_kid (h0 : 8 ≤ r) (h1 : r ≤ 170) (h2 : 1 ≤ x) (h3 : 2 * x ≤ n) (h4 : n ≤ 40) (b : Bool) : Bg ((aH r).kid x n b) (fun q => (1 ≤ q.1.1 ∧ q.1.1 ≤ 40) ∧ NdZ q.1.2) := by
 unfold He.kid
 refine Bg.bind (bg_item h0 h1 (by omega) (by omega) b) fun u hu => Bg.ite (fun hc => ?_) fun _ => Bg.pure ⟨⟨by dsimp only; omega, by dsimp only; omega⟩, hu⟩
 refine Bg.bind (bg_item h0 h1 (by omega) (by omega) _) fun v hv => Bg.bind (bg_key hv) fun p _ => Bg.bind (bg_key hu) fun q _ => ?_
 exact Bg.ite (fun _ => Bg.pure ⟨⟨by dsimp only; omega, by dsimp only; omega⟩, hv⟩) fun _ => Bg.pure ⟨⟨by dsimp only; omega, by dsimp only; omega⟩, hu⟩
theorem sg_sinkK (h0 : 8 ≤ r) (h1 : r ≤ 170) (own : Int × Int) (hz : NdZ a) (h4 : n ≤ 40) : ∀ (k : Nat) (x : Int) (b : Bool), 1 ≤ x → x ≤ 40 → Sg ((aH r).sinkK own a n k x b) (fun _ => True)
 | 0, x, b, h2, h3 => sg_lay h0 h1 h2 h3 hz b
 | k + 1, x, b, h2, h3 => by
   unfold He.sinkK
   refine Sg.ite (fun hc => ?_) fun _ => sg_lay h0 h1 h2 h3 hz b
   refine Sg.bind (bg_kid h0 h1 h2 hc.1 h4 b).sg fun u hu => Sg.bind (bg_key hu.2).sg fun q _ => Sg.ite (fun _ => ?_) fun _ => sg_lay h0 h1 h2 h3 hz _
   exact Sg.bind (sg_lay h0 h1 h2 h3 hu.2 _) fun w _ => sg_sinkK h0 h1 own hz h4 k u.1.1 _ hu.1.1 hu.1.2
theorem sg_sink (h0 : 8 ≤ r) (h1 : r ≤ 170) (hz : NdZ a) (h4 : n ≤ 40) (h2 : 1 ≤ x) (h3 : x ≤ 40) (b : Bool) : Sg ((aH r).sink x a n b) (fun _ => True) := by
 unfold He.sink
 exact Sg.bind (bg_key hz).sg fun own _ => sg_sinkK h0 h1 own hz h4 7 x b h2 h3
theorem bg_heMany (h0 : 8 ≤ r) (h1 : r ≤ 170) : Bg (aH r).many (fun q => q.2 = true → 0 ≤ q.1 ∧ q.1 ≤ 32) := by
 unfold He.many
 exact Bg.bind (bg_heRt h0 h1 (by omega) (by omega)) fun n _ => Bg.pure fun h => by simpa using h
theorem sg_heTake (h0 : 8 ≤ r) (h1 : r ≤ 170) : Sg (aH r).take (fun q => I64 q.1 ∧ (q.2 = 0 → 200 ≤ q.1 ∧ q.1 ≤ 432)) := by
 unfold He.take
 exact Sg.bind sg_takeP fun t ht => Sg.ite (fun _ => Sg.bind (sg_heAdd h0 h1 (by omega) (by omega) 1) fun _ _ => Sg.pure ht) fun _ => Sg.pure ht
theorem sg_heGive (h0 : 8 ≤ r) (h1 : r ≤ 170) (ha : I64 a) : Sg ((aH r).give a) I64 := by
 unfold He.give
 exact Sg.bind (sg_giveP ha.1 ha.2) fun e he => Sg.ite (fun _ => Sg.bind (sg_heAdd h0 h1 (by omega) (by omega) (-1)) fun _ _ => Sg.pure he) fun _ => Sg.pure he
theorem sg_pushAt (h0 : 8 ≤ r) (h1 : r ≤ 170) {pr : Int} (hp : I64 pr) (hv : I64 v) (h2 : 0 ≤ n) (h3 : n ≤ 32) (hz : NdZ a) : Sg ((aH r).pushAt n pr v a) (fun q => I64 q.1.1) := by
 unfold He.pushAt
 refine Sg.bind (sg_hePut hz (by omega) (by omega) hp) fun _ _ => Sg.bind (sg_hePut hz (by omega) (by omega) hv) fun _ _ => Sg.bind (bg_heRt h0 h1 (by omega) (by omega)).sg fun o ho => Sg.bind (sg_hePut hz (by omega) (by omega) ho) fun _ _ => ?_
 exact Sg.bind (sg_heAdd h0 h1 (by omega) (by omega) 1) fun _ _ => Sg.bind (sg_heAdd h0 h1 (by omega) (by omega) 1) fun _ _ => Sg.bind (sg_rise h0 h1 hz (by omega) (by omega) false) fun _ _ => Sg.pure hz.i64
theorem sg_hePushIn (h0 : 8 ≤ r) (h1 : r ≤ 170) {pr : Int} (hp : I64 pr) (hv : I64 v) : Sg ((aH r).pushIn pr v) (fun q => I64 q.1.1) := by
 unfold He.pushIn
 refine Sg.bind (bg_heMany h0 h1).sg fun n hn => Sg.ite (fun _ => Sg.pure (by unfold I64; first | omega | (dsimp only; omega))) fun _ => Sg.ite (fun hE => ?_) fun _ => Sg.pure (by unfold I64; first | omega | (dsimp only; omega))
 obtain ⟨h2, h3⟩ := hn hE
 refine Sg.bind (bg_heRt h0 h1 (by omega) (by omega)).sg fun o _ => Sg.ite (fun _ => Sg.pure (by unfold I64; first | omega | (dsimp only; omega))) fun _ => Sg.bind (sg_heTake h0 h1) fun a ha => Sg.ite (fun _ => Sg.pure (by unfold I64; first | omega | (dsimp only; omega))) fun hE2 => ?_
 have hz : NdZ a.1 := .inr (ha.2 (by omega))
 refine Sg.ite (fun _ => ?_) fun _ => sg_pushAt h0 h1 hp hv h2 h3 hz
 exact Sg.bind (sg_heTake h0 h1) fun t ht => Sg.ite (fun _ => Sg.pure (by unfold I64; first | omega | (dsimp only; omega))) fun _ => Sg.ptW (by show 0 ≤ r + (3 + n.1 / 8); omega) (by show r + (3 + n.1 / 8) < 440; omega) ht.1 (sg_pushAt h0 h1 hp hv h2 h3 hz)
theorem nx_hPush (h0 : 8 ≤ r) (h1 : r ≤ 170) {pr : Int} (hp : I64 pr) (hv : I64 v) : Nx ((aH r).push pr v) (fun q => q.2 ≠ 0) (fun q => I64 q.1) := by
 unfold He.push
 refine Nx.roll (sg_hePushIn h0 h1 hp hv) fun m q hq => ?_
 unfold He.afterP
 by_cases he : He.endE q.1.2 q.2 ≠ 0
 · exact .inl ⟨(0, He.endE q.1.2 q.2), by rw [if_pos he], (by unfold I64; first | omega | (dsimp only; omega))⟩
 · exact .inr ⟨(q.1.1, He.endE q.1.2 q.2), by rw [if_neg he], he, hq⟩
abbrev RGood (q : ((Int × Int) × Int) × Bool) : Prop := I64 q.1.1.1 ∧ I64 q.1.1.2
theorem sg_rmEnd (h0 : 8 ≤ r) (h1 : r ≤ 170) {p it : Int} (hp : I64 p) (hv : I64 v) (hi : I64 it) (b : Bool) : Sg ((aH r).rmEnd p v it b) RGood := by
 unfold He.rmEnd
 exact Sg.bind (sg_heGive h0 h1 hi) fun e _ => Sg.ite (fun _ => Sg.pure ⟨(by unfold I64; first | omega | (dsimp only; omega)), (by unfold I64; first | omega | (dsimp only; omega))⟩) fun _ => Sg.ite (fun _ => Sg.pure ⟨(by unfold I64; first | omega | (dsimp only; omega)), (by unfold I64; first | omega | (dsimp only; omega))⟩) fun _ => Sg.pure ⟨hp, hv⟩
theorem sg_rmRow (h0 : 8 ≤ r) (h1 : r ≤ 170) {p it q : Int} (h2 : 1 ≤ n) (h3 : n ≤ 32) (hp : I64 p) (hv : I64 v) (hi : I64 it) (hq : I64 q) (b : Bool) : Sg ((aH r).rmRow n p v it q b) RGood := by
 unfold He.rmRow
 refine Sg.ite (fun _ => ?_) fun _ => sg_rmEnd h0 h1 hp hv hi b
 exact Sg.ptW (by show 0 ≤ r + (3 + (n - 1) / 8); omega) (by show r + (3 + (n - 1) / 8) < 440; omega) (by unfold I64; first | omega | (dsimp only; omega)) (Sg.bind (sg_heGive h0 h1 hq) fun e _ => Sg.ite (fun _ => Sg.pure ⟨(by unfold I64; first | omega | (dsimp only; omega)), (by unfold I64; first | omega | (dsimp only; omega))⟩) fun _ => sg_rmEnd h0 h1 hp hv hi b)
theorem sg_remove (h0 : 8 ≤ r) (h1 : r ≤ 170) (h2 : 1 ≤ x) (h3 : x ≤ n) (h4 : n ≤ 32) : Sg ((aH r).remove x n) RGood := by
 unfold He.remove
 refine Sg.bind (bg_item h0 h1 (by omega) (by omega) false).sg fun it hit => Sg.bind (bg_item h0 h1 (by omega) (by omega) _).sg fun l hl => ?_
 refine Sg.bind (bg_heGet hit (by omega) (by omega)).sg fun p hp => Sg.bind (bg_heGet hit (by omega) (by omega)).sg fun v hv => Sg.bind (bg_row h0 h1 (by omega) (by omega) _).sg fun w hw => ?_
 refine Sg.ite (fun _ => Sg.pure ⟨(by unfold I64; first | omega | (dsimp only; omega)), (by unfold I64; first | omega | (dsimp only; omega))⟩) fun _ => Sg.bind (sg_heAdd h0 h1 (by omega) (by omega) (-1)) fun _ _ => Sg.ite (fun _ => sg_rmRow h0 h1 (by omega) h4 hp hv hit.i64 hw.i64 _) fun _ => ?_
 refine Sg.bind (sg_rise h0 h1 hl h2 (by omega) false) fun q _ => Sg.ite (fun _ => ?_) fun _ => sg_rmRow h0 h1 (by omega) h4 hp hv hit.i64 hw.i64 _
 exact Sg.bind (sg_sink h0 h1 hl (by omega) h2 (by omega) _) fun b _ => sg_rmRow h0 h1 (by omega) h4 hp hv hit.i64 hw.i64 _
theorem nx_hPop (h0 : 8 ≤ r) (h1 : r ≤ 170) : Nx (aH r).pop (fun q => q.2 ≠ 0) (fun q => I64 q.1.1 ∧ I64 q.1.2) := by
 unfold He.pop
 have hI : Sg (aH r).popIn RGood := by
   unfold He.popIn
   refine Sg.bind (bg_heMany h0 h1).sg fun n hn => Sg.ite (fun _ => Sg.pure ⟨(by unfold I64; first | omega | (dsimp only; omega)), (by unfold I64; first | omega | (dsimp only; omega))⟩) fun hz => Sg.ite (fun hE => ?_) fun _ => Sg.pure ⟨(by unfold I64; first | omega | (dsimp only; omega)), (by unfold I64; first | omega | (dsimp only; omega))⟩
   obtain ⟨h2, h3⟩ := hn hE
   exact sg_remove h0 h1 (by omega) (by omega) h3
 refine Nx.roll hI fun m q hq => ?_
 unfold He.after3
 by_cases he : He.endE q.1.2 q.2 ≠ 0
 · exact .inl ⟨(q.1.1, He.endE q.1.2 q.2), by rw [if_pos he], hq⟩
 · exact .inr ⟨(q.1.1, He.endE q.1.2 q.2), by rw [if_neg he], he, hq⟩
theorem rg_hMin (h0 : 8 ≤ r) (h1 : r ≤ 170) : Rg (aH r).min (fun q => I64 q.1.1 ∧ I64 q.1.2) := by
 unfold He.min
 refine Rg.bind (bg_heMany h0 h1).rg fun n _ => Rg.ite (fun _ => Rg.pure ⟨(by unfold I64; first | omega | (dsimp only; omega)), (by unfold I64; first | omega | (dsimp only; omega))⟩) fun _ => Rg.ite (fun _ => ?_) fun _ => Rg.pure ⟨(by unfold I64; first | omega | (dsimp only; omega)), (by unfold I64; first | omega | (dsimp only; omega))⟩
 refine Rg.bind (bg_item h0 h1 (by omega) (by omega) false).rg fun it _ => Rg.bind (rg_heGet _ _) fun p hp => Rg.bind (rg_heGet _ _) fun v hv => ?_
 exact Rg.ite (fun _ => Rg.pure ⟨(by unfold I64; first | omega | (dsimp only; omega)), (by unfold I64; first | omega | (dsimp only; omega))⟩) fun _ => Rg.pure ⟨hp, hv⟩
abbrev FGood (q : ((Int × Int) × (Int × Int)) × Bool) : Prop := q.1.2.2 = 0 → NdZ q.1.1.1 ∧ 1 ≤ q.1.1.2 ∧ q.1.1.2 ≤ q.1.2.1 ∧ q.1.2.1 ≤ 32
theorem bg_find (h0 : 8 ≤ r) (h1 : r ≤ 170) {h : Int} (hh : I64 h) : Bg ((aH r).find h) FGood := by
 unfold He.find
 refine Bg.bind (bg_heMany h0 h1) fun n hn => Bg.ite (fun hE => ?_) fun _ => Bg.pure fun h => (by cases h)
 obtain ⟨h2, h3⟩ := hn hE
 refine Bg.iteN hh.1 hh.2 (fun h4 h5 => ?_) (Bg.pure fun h => (by cases h))
 refine Bg.bind (bg_heGet (.inr ⟨h4, h5⟩) (by omega) (by omega)) fun p hp => Bg.ite (fun _ => Bg.pure fun h => (by cases h)) fun hc => ?_
 refine Bg.bind (bg_row h0 h1 (by omega) (by omega) false) fun q hq => Bg.ite (fun _ => Bg.pure fun h => (by cases h)) fun _ => ?_
 refine Bg.bind (bg_heGet hq (by omega) (by omega)) fun x _ => Bg.ite (fun _ => Bg.pure fun h => (by cases h)) fun _ => Bg.pure fun _ => ?_
 exact ⟨.inr ⟨h4, h5⟩, by dsimp only; omega, by dsimp only; omega, h3⟩
theorem nx_hLower (h0 : 8 ≤ r) (h1 : r ≤ 170) {h pr : Int} (hh : I64 h) (hp : I64 pr) : Nx ((aH r).lower h pr) (fun e => e ≠ 0) (fun _ => True) := by
 unfold He.lower
 have hI : Sg ((aH r).lowerIn h pr) (fun _ => True) := by
   unfold He.lowerIn
   refine Sg.bind (bg_find h0 h1 hh).sg fun f hf => Sg.ite (fun _ => Sg.pure trivial) fun hE => ?_
   obtain ⟨hz, h2, h3, h4⟩ := hf (by omega)
   refine Sg.bind (bg_heGet hz (by omega) (by omega)).sg fun u _ => Sg.ite (fun _ => Sg.pure trivial) fun _ => Sg.bind (sg_hePut hz (by omega) (by omega) hp) fun _ _ => ?_
   exact Sg.bind (sg_rise h0 h1 hz h2 (by omega) _) fun _ _ => Sg.pure trivial
 refine Nx.roll hI fun m q hq => ?_
 unfold He.afterL
 by_cases he : He.endE q.1 q.2 ≠ 0
 · exact .inl ⟨He.endE q.1 q.2, by rw [if_pos he], trivial⟩
 · exact .inr ⟨He.endE q.1 q.2, by rw [if_neg he], he, trivial⟩
theorem nx_hDrop (h0 : 8 ≤ r) (h1 : r ≤ 170) {h : Int} (hh : I64 h) : Nx ((aH r).drop h) (fun q => q.2 ≠ 0) (fun q => I64 q.1) := by
 unfold He.drop
 have hI : Sg ((aH r).dropIn h) (fun q => I64 q.1.1) := by
   unfold He.dropIn
   refine Sg.bind (bg_find h0 h1 hh).sg fun f hf => Sg.ite (fun _ => Sg.pure (by unfold I64; first | omega | (dsimp only; omega))) fun hE => ?_
   obtain ⟨hz, h2, h3, h4⟩ := hf (by omega)
   exact Sg.bind (sg_remove h0 h1 h2 h3 h4) fun q hq => Sg.pure hq.2
 refine Nx.roll hI fun m q hq => ?_
 unfold He.after
 by_cases he : He.endE q.1.2 q.2 ≠ 0
 · exact .inl ⟨(q.1.1, He.endE q.1.2 q.2), by rw [if_pos he], hq⟩
 · exact .inr ⟨(q.1.1, He.endE q.1.2 q.2), by rw [if_neg he], he, hq⟩
end Sim
namespace Sim
open Go Go.Vc
abbrev aF (r : Int) : Fo := ⟨awP, r⟩
variable {r v a n x y : Int}
theorem fo_node (h0 : I64 n) (h : (aF r).nodeB n = true) : Fo.nodeN n = n ∧ 200 ≤ n ∧ n ≤ 432 := by
 unfold Fo.nodeB at h
 split at h
 · cases h
 · rename_i hn
   exact ⟨by unfold Fo.nodeN; rw [if_neg hn], nd_of h0.1 h0.2 h⟩
abbrev CGood (q : Int × Bool) : Prop := q.2 = true → 200 ≤ q.1 ∧ q.1 ≤ 439
theorem rg_cell (x : Int) : Rg ((aF r).cell x) CGood := by
 unfold Fo.cell
 refine Rg.gt fun t h0 h1 => Rg.pure fun h => ?_
 obtain ⟨e, h2, h3⟩ := fo_node ⟨h0, h1⟩ h
 dsimp only; rw [e]; omega
theorem bg_cell (h0 : 8 ≤ r) (h1 : r ≤ 170) (h2 : 1 ≤ x) (h3 : x ≤ 64) : Bg ((aF r).cell x) CGood := by
 unfold Fo.cell
 refine Bg.gt (by show 0 ≤ r + 3 + (x - 1) / 2 / 8; omega) (by show r + 3 + (x - 1) / 2 / 8 < 440; omega) fun t h0 h1 => Bg.pure fun h => ?_
 obtain ⟨e, h2, h3⟩ := fo_node ⟨h0, h1⟩ h
 dsimp only; rw [e]; omega
abbrev EGood (q : Int × Bool) : Prop := q.2 = true → 200 ≤ q.1 ∧ q.1 ≤ 436
theorem rg_place (x : Int) : Rg ((aF r).place x) EGood := by
 unfold Fo.place
 refine Rg.bind (rg_cell x) fun c _ => Rg.ite (fun _ => Rg.gt fun v h0 h1 => Rg.pure fun h => ?_) fun _ => Rg.pure fun h => (by cases h)
 obtain ⟨e, h2, h3⟩ := fo_node ⟨h0, h1⟩ h
 dsimp only; rw [e]; omega
theorem bg_place (h0 : 8 ≤ r) (h1 : r ≤ 170) (h2 : 1 ≤ x) (h3 : x ≤ 64) : Bg ((aF r).place x) EGood := by
 unfold Fo.place
 refine Bg.bind (bg_cell h0 h1 h2 h3) fun c hc => Bg.ite (fun hE => ?_) fun _ => Bg.pure fun h => (by cases h)
 obtain ⟨h4, h5⟩ := hc hE
 refine Bg.gt (by omega) (by omega) fun v h0 h1 => Bg.pure fun h => ?_
 obtain ⟨e, h2, h3⟩ := fo_node ⟨h0, h1⟩ h
 dsimp only; rw [e]; omega
theorem rg_foMany : Rg (aF r).many (fun q => q.2 = true → 0 ≤ q.1 ∧ q.1 ≤ 64) := by
 unfold Fo.many
 exact Rg.gt fun n _ _ => Rg.pure fun h => by simpa using h
theorem rg_check (x : Int) : Rg ((aF r).check x) (fun _ => True) := by
 unfold Fo.check
 exact Rg.ite (fun _ => Rg.pure trivial) fun _ => Rg.gt fun n _ _ => Rg.ite (fun _ => Rg.pure trivial) fun _ => Rg.pure trivial
theorem rg_climb (n : Int) : ∀ (k : Nat) (x : Int), I64 x → Rg ((aF r).climb n k x) (fun q => I64 q.1)
 | 0, _, _ => Rg.pure (by unfold I64; first | omega | (dsimp only; omega))
 | k + 1, x, hx => by
   unfold Fo.climb
   refine Rg.bind (rg_place x) fun c _ => Rg.ite (fun _ => Rg.gt fun up h0 h1 => ?_) fun _ => Rg.pure (by unfold I64; first | omega | (dsimp only; omega))
   exact Rg.ite (fun _ => Rg.pure hx) fun _ => Rg.ite (fun _ => Rg.pure (by unfold I64; first | omega | (dsimp only; omega))) fun _ => rg_climb n k up ⟨h0, h1⟩
theorem rg_fFind (hx : I64 x) : Rg ((aF r).find x) (fun q => I64 q.1) := by
 unfold Fo.find
 refine Rg.bind (rg_check x) fun e _ => Rg.ite (fun _ => Rg.pure (by unfold I64; first | omega | (dsimp only; omega))) fun _ => Rg.bind rg_foMany fun n _ => ?_
 exact Rg.ite (fun _ => rg_climb n.1 65 x hx) fun _ => Rg.pure (by unfold I64; first | omega | (dsimp only; omega))
theorem rg_both (hx : I64 x) (hy : I64 y) : Rg ((aF r).both x y) (fun q => I64 q.1.1 ∧ I64 q.1.2) := by
 unfold Fo.both
 refine Rg.bind (rg_check x) fun e _ => Rg.ite (fun _ => Rg.pure ⟨(by unfold I64; first | omega | (dsimp only; omega)), (by unfold I64; first | omega | (dsimp only; omega))⟩) fun _ => Rg.bind (rg_check y) fun e _ => Rg.ite (fun _ => Rg.pure ⟨(by unfold I64; first | omega | (dsimp only; omega)), (by unfold I64; first | omega | (dsimp only; omega))⟩) fun _ => ?_
 refine Rg.bind (rg_fFind hx) fun a ha => Rg.ite (fun _ => Rg.pure ⟨(by unfold I64; first | omega | (dsimp only; omega)), (by unfold I64; first | omega | (dsimp only; omega))⟩) fun _ => Rg.bind (rg_fFind hy) fun b hb => Rg.ite (fun _ => Rg.pure ⟨(by unfold I64; first | omega | (dsimp only; omega)), (by unfold I64; first | omega | (dsimp only; omega))⟩) fun _ => Rg.pure ⟨ha, hb⟩
theorem rg_fSame (hx : I64 x) (hy : I64 y) : Rg ((aF r).same x y) (fun _ => True) := by
 unfold Fo.same
 exact Rg.bind (rg_both hx hy) fun q _ => Rg.pure trivial
theorem rg_fSize (hx : I64 x) : Rg ((aF r).sizeOf x) (fun q => I64 q.1) := by
 unfold Fo.sizeOf
 refine Rg.bind (rg_fFind hx) fun q _ => Rg.ite (fun _ => Rg.pure (by unfold I64; first | omega | (dsimp only; omega))) fun _ => Rg.bind (rg_place _) fun a _ => Rg.ite (fun _ => Rg.gt fun v h0 h1 => Rg.pure ⟨h0, h1⟩) fun _ => Rg.pure (by unfold I64; first | omega | (dsimp only; omega))
theorem rg_fSets : Rg (aF r).sets I64 := Rg.gt1 _
theorem sg_foAdd (h0 : 0 ≤ a) (h1 : a < 440) (n : Int) : Sg (Fo.add a n) (fun _ => True) := by
 unfold Fo.add
 exact Sg.gt h0 h1 fun v _ _ => Sg.pt h0 h1 (i64_w _) (Sg.pure trivial)
theorem sg_foHang (h0 : 8 ≤ r) (h1 : r ≤ 170) {b sz : Int} (hx : I64 x) (hy : I64 y) (hs : I64 sz) (h2 : 200 ≤ a) (h3 : a ≤ 436) (h4 : 200 ≤ b) (h5 : b ≤ 436) : Sg ((aF r).hang x a y b sz) (fun _ => True) := by
 unfold Fo.hang
 refine Sg.pt (by omega) (by omega) hy (Sg.gt (by show 0 ≤ r + 2; omega) (by show r + 2 < 440; omega) fun v h6 h7 => Sg.pt (by omega) (by omega) ⟨h6, h7⟩ (Sg.pt (by omega) (by omega) hs ?_))
 exact Sg.pt (by show 0 ≤ r + 2; omega) (by show r + 2 < 440; omega) hx (Sg.bind (sg_foAdd (by show 0 ≤ r + 1; omega) (by show r + 1 < 440; omega) _) fun _ _ => Sg.pure trivial)
theorem nx_fUnion (h0 : 8 ≤ r) (h1 : r ≤ 170) (hx : I64 x) (hy : I64 y) : Nx ((aF r).union x y) (fun q => q.2 ≠ 0) (fun _ => True) := by
 unfold Fo.union
 refine Nx.bind (rg_both hx hy) fun q hq => Nx.ite (fun _ => Nx.pure trivial) fun _ => ?_
 unfold Fo.join
 refine Nx.bind (rg_place _) fun a ha => Nx.ite (fun hA => ?_) fun _ => Nx.pure trivial
 refine Nx.gt fun v _ _ => Nx.bind (rg_place _) fun b hb => Nx.ite (fun hB => ?_) fun _ => Nx.pure trivial
 obtain ⟨h2, h3⟩ := ha hA
 obtain ⟨h4, h5⟩ := hb hB
 refine Nx.gt fun w _ _ => Nx.ite (fun _ => ?_) fun _ => ?_
 · exact (Sg.bind (sg_foHang h0 h1 hq.2 hq.1 (i64_w _) h4 h5 h2 h3) fun _ _ => Sg.pure (Q := fun q : Bool × Int => q.2 = 0) rfl).nx (fun q h h9 => h9 h) |>.mono fun _ _ => trivial
 · exact (Sg.bind (sg_foHang h0 h1 hq.1 hq.2 (i64_w _) h2 h3 h4 h5) fun _ _ => Sg.pure (Q := fun q : Bool × Int => q.2 = 0) rfl).nx (fun q h h9 => h9 h) |>.mono fun _ _ => trivial
theorem nx_fUndo (h0 : 8 ≤ r) (h1 : r ≤ 170) : Nx (aF r).undo (fun q => q.2 ≠ 0) (fun _ => True) := by
 unfold Fo.undo
 refine Nx.gt fun last _ _ => Nx.ite (fun _ => Nx.pure trivial) fun _ => Nx.bind rg_foMany fun n _ => Nx.ite (fun _ => ?_) fun _ => Nx.pure trivial
 refine Nx.bind (rg_place _) fun a ha => Nx.ite (fun hA => ?_) fun _ => Nx.pure trivial
 refine Nx.gt fun up _ _ => Nx.ite (fun _ => Nx.pure trivial) fun _ => Nx.bind (rg_place _) fun b hb => Nx.ite (fun hB => ?_) fun _ => Nx.pure trivial
 obtain ⟨h2, h3⟩ := ha hA
 obtain ⟨h4, h5⟩ := hb hB
 refine (Sg.gt (Q := fun q : Bool × Int => q.2 = 0) (by omega) (by omega) fun v _ _ => Sg.bind (sg_foAdd (by omega) (by omega) _) fun _ _ => Sg.pt (by omega) (by omega) (by unfold I64; first | omega | (dsimp only; omega)) ?_).nx (fun q h h9 => h9 h) |>.mono fun _ _ => trivial
 exact Sg.gt (by omega) (by omega) fun u h6 h7 => Sg.pt (by show 0 ≤ r + 2; omega) (by show r + 2 < 440; omega) ⟨h6, h7⟩ (Sg.bind (sg_foAdd (by show 0 ≤ r + 1; omega) (by show r + 1 < 440; omega) _) fun _ _ => Sg.pure rfl)
theorem sg_foTake (h0 : 8 ≤ r) (h1 : r ≤ 170) : Sg (aF r).take (fun q => I64 q.1 ∧ (q.2 = 0 → 200 ≤ q.1 ∧ q.1 ≤ 432)) := by
 unfold Fo.take
 refine Sg.bind sg_takeP fun t ht => Sg.ite (fun he => Sg.pure ⟨(by unfold I64; first | omega | (dsimp only; omega)), fun h => absurd h he⟩) fun he => ?_
 exact Sg.gt (by show 0 ≤ r + 7; omega) (by show r + 7 < 440; omega) fun v _ _ => Sg.pt (by show 0 ≤ r + 7; omega) (by show r + 7 < 440; omega) (i64_w _) (Sg.pure ⟨ht.1, fun _ => ht.2 (by omega)⟩)
theorem sg_roomN (h0 : 8 ≤ r) (h1 : r ≤ 170) (h2 : 1 ≤ x) (h3 : x ≤ 64) : Sg ((aF r).roomN x) (fun _ => True) := by
 unfold Fo.roomN
 refine Sg.bind (bg_cell h0 h1 h2 h3).sg fun c hc => Sg.ite (fun hE => ?_) fun _ => Sg.pure trivial
 obtain ⟨h4, h5⟩ := hc hE
 exact Sg.bind (sg_foTake h0 h1) fun t ht => Sg.ite (fun _ => Sg.pure trivial) fun _ => Sg.pt (by omega) (by omega) ht.1 (Sg.pure trivial)
theorem sg_room (h0 : 8 ≤ r) (h1 : r ≤ 170) (h2 : 1 ≤ x) (h3 : x ≤ 64) : Sg ((aF r).room x) (fun _ => True) := by
 unfold Fo.room
 refine Sg.ite (fun _ => Sg.pure trivial) fun _ => Sg.ite (fun _ => ?_) fun _ => sg_roomN h0 h1 h2 h3
 exact Sg.bind (sg_foTake h0 h1) fun t ht => Sg.ite (fun _ => Sg.pure trivial) fun _ => Sg.pt (by show 0 ≤ r + 3 + (x - 1) / 2 / 8; omega) (by show r + 3 + (x - 1) / 2 / 8 < 440; omega) ht.1 (sg_roomN h0 h1 h2 h3)
theorem nx_fMake (h0 : 8 ≤ r) (h1 : r ≤ 170) : Nx (aF r).make (fun q => q.2 ≠ 0) (fun q => I64 q.1) := by
 unfold Fo.make
 refine Nx.bind rg_foMany fun n hn => Nx.ite (fun hE => Nx.ite (fun _ => Nx.pure (by unfold I64; first | omega | (dsimp only; omega))) fun hne => ?_) fun _ => Nx.pure (by unfold I64; first | omega | (dsimp only; omega))
 obtain ⟨h2, h3⟩ := hn hE
 have hI : Sg ((aF r).makeIn (n.1 + 1)) (fun q => I64 q.1) := by
   unfold Fo.makeIn
   refine Sg.bind (sg_room h0 h1 (by omega) (by omega)) fun e _ => Sg.ite (fun _ => Sg.pure (by unfold I64; first | omega | (dsimp only; omega))) fun _ => Sg.bind (bg_place h0 h1 (by omega) (by omega)).sg fun c hc => Sg.ite (fun hE => ?_) fun _ => Sg.pure (by unfold I64; first | omega | (dsimp only; omega))
   obtain ⟨h4, h5⟩ := hc hE
   refine Sg.pt (by omega) (by omega) (by unfold I64; first | omega | (dsimp only; omega)) (Sg.pt (by omega) (by omega) (by unfold I64; first | omega | (dsimp only; omega)) (Sg.pt (by omega) (by omega) (by unfold I64; first | omega | (dsimp only; omega)) (Sg.pt (by show 0 ≤ r; omega) (by show r < 440; omega) (by unfold I64; first | omega | (dsimp only; omega)) ?_)))
   exact Sg.gt (by show 0 ≤ r + 1; omega) (by show r + 1 < 440; omega) fun v _ _ => Sg.pt (by show 0 ≤ r + 1; omega) (by show r + 1 < 440; omega) (i64_w _) (Sg.pure (by unfold I64; first | omega | (dsimp only; omega)))
 refine Nx.roll hI fun m q hq => ?_
 unfold Fo.after
 by_cases he : q.2 ≠ 0
 · exact .inl ⟨(0, q.2), by rw [if_pos he], (by unfold I64; first | omega | (dsimp only; omega))⟩
 · exact .inr ⟨q, by rw [if_neg he], he, hq⟩
end Sim
namespace Sim
open Go Go.Vc
abbrev aG (r : Int) : Gh := ⟨awP, r⟩
variable {r v a b n x y : Int}
structure LOk (l : GL) : Prop where
 h0 : 0 ≤ l.head
 h1 : l.head < 440
 n0 : 0 ≤ l.nx
 n1 : l.nx ≤ 7
 p0 : 0 ≤ l.pv
 p1 : l.pv ≤ 7
theorem lok_all (h0 : 8 ≤ r) (h1 : r ≤ 170) : LOk (aG r).all := by
 have e : w64 (r + 0) = r := by rw [w64_in (by omega) (by omega)]; omega
 exact ⟨by show 0 ≤ w64 (r + 0); omega, by show w64 (r + 0) < 440; omega, by show (0 : Int) ≤ 2; decide, by show (2 : Int) ≤ 7; decide, by show (0 : Int) ≤ 3; decide, by show (3 : Int) ≤ 7; decide⟩
theorem lok_out (h2 : 200 ≤ a) (h3 : a ≤ 432) : LOk (Gh.out a) := by
 have e : w64 (a + 4) = a + 4 := w64_in (by omega) (by omega)
 exact ⟨by show 0 ≤ w64 (a + 4); omega, by show w64 (a + 4) < 440; omega, by show (0 : Int) ≤ 4; decide, by show (4 : Int) ≤ 7; decide, by show (0 : Int) ≤ 5; decide, by show (5 : Int) ≤ 7; decide⟩
theorem lok_inn (h2 : 200 ≤ a) (h3 : a ≤ 432) : LOk (Gh.inn a) := by
 have e : w64 (a + 5) = a + 5 := w64_in (by omega) (by omega)
 exact ⟨by show 0 ≤ w64 (a + 5); omega, by show w64 (a + 5) < 440; omega, by show (0 : Int) ≤ 6; decide, by show (6 : Int) ≤ 7; decide, by show (0 : Int) ≤ 7; decide, by show (7 : Int) ≤ 7; decide⟩
theorem sg_more (h0 : 0 ≤ a) (h1 : a < 440) (n : Int) : Sg (Gh.more (w64 a) n) (fun _ => True) := by
 rw [w440 h0 h1]
 unfold Gh.more
 exact Sg.gt h0 h1 fun v _ _ => Sg.pt h0 h1 (i64_w _) (Sg.pure trivial)
theorem bg_vertex (hn : I64 n) : Bg ((aG r).vertex n) (fun q => q = true → 200 ≤ n ∧ n ≤ 432) := by
 unfold Gh.vertex
 exact Bg.iteN hn.1 hn.2 (fun h2 h3 => Bg.gtW (by omega) (by omega) fun v _ _ => Bg.pure fun _ => ⟨h2, h3⟩) (Bg.pure fun h => (by cases h))
theorem bg_edge (hn : I64 n) : Bg ((aG r).edge n) (fun q => q = true → 200 ≤ n ∧ n ≤ 432) := by
 unfold Gh.edge
 exact Bg.iteN hn.1 hn.2 (fun h2 h3 => Bg.gtW (by omega) (by omega) fun v _ _ => Bg.pure fun _ => ⟨h2, h3⟩) (Bg.pure fun h => (by cases h))
theorem sg_link (l : GL) (hl : LOk l) (h2 : 200 ≤ n) (h3 : n ≤ 432) : Sg ((aG r).link l n) (fun _ => True) := by
 obtain ⟨a0, a1, a2, a3, a4, a5⟩ := hl
 unfold Gh.link
 refine Sg.gt a0 a1 fun was h4 h5 => Sg.ptW (by omega) (by omega) ⟨h4, h5⟩ (Sg.ptW (by omega) (by omega) (by unfold I64; first | omega | (dsimp only; omega)) (Sg.pt a0 a1 (by unfold I64; first | omega | (dsimp only; omega)) (Sg.ite (fun _ => Sg.pure trivial) fun _ => ?_)))
 exact Sg.iteN h4 h5 (fun h6 h7 => Sg.ptW (by omega) (by omega) (by unfold I64; first | omega | (dsimp only; omega)) (Sg.pure trivial)) (Sg.pure trivial)
theorem sg_unlinkB (l : GL) (hl : LOk l) (ha : I64 a) (hb : I64 b) : Sg ((aG r).unlinkB l a b) (fun _ => True) := by
 obtain ⟨a0, a1, a2, a3, a4, a5⟩ := hl
 unfold Gh.unlinkB
 exact Sg.ite (fun _ => Sg.pure trivial) fun _ => Sg.iteN hb.1 hb.2 (fun h6 h7 => Sg.ptW (by omega) (by omega) ha (Sg.pure trivial)) (Sg.pure trivial)
theorem sg_unlink (l : GL) (hl : LOk l) (h2 : 200 ≤ n) (h3 : n ≤ 432) : Sg ((aG r).unlink l n) (fun _ => True) := by
 have hl2 := hl
 obtain ⟨a0, a1, a2, a3, a4, a5⟩ := hl
 unfold Gh.unlink
 refine Sg.gtW (by omega) (by omega) fun a h4 h5 => Sg.gtW (by omega) (by omega) fun b h6 h7 => Sg.ite (fun _ => Sg.pt a0 a1 ⟨h6, h7⟩ (sg_unlinkB l hl2 ⟨h4, h5⟩ ⟨h6, h7⟩)) fun _ => ?_
 exact Sg.iteN h4 h5 (fun h8 h9 => Sg.ptW (by omega) (by omega) ⟨h6, h7⟩ (sg_unlinkB l hl2 ⟨h4, h5⟩ ⟨h6, h7⟩)) (Sg.pure trivial)
theorem sg_ghAddIn (h0 : 8 ≤ r) (h1 : r ≤ 170) (hv : I64 v) : Sg ((aG r).addIn v) (fun q => I64 q.1) := by
 unfold Gh.addIn
 refine Sg.bind sg_takeP fun t ht => Sg.ite (fun _ => Sg.pure (by unfold I64; first | omega | (dsimp only; omega))) fun hE => ?_
 obtain ⟨h2, h3⟩ := ht.2 (by omega)
 refine Sg.ptW (by omega) (by omega) (by show I64 (-1 - 2 * r); exact (by unfold I64; first | omega | (dsimp only; omega))) (Sg.ptW (by omega) (by omega) hv (Sg.ptW (by omega) (by omega) (by unfold I64; first | omega | (dsimp only; omega)) (Sg.ptW (by omega) (by omega) (by unfold I64; first | omega | (dsimp only; omega)) (Sg.ptW (by omega) (by omega) (by unfold I64; first | omega | (dsimp only; omega)) (Sg.ptW (by omega) (by omega) (by unfold I64; first | omega | (dsimp only; omega)) ?_)))))
 refine Sg.bind (sg_link _ (lok_all h0 h1) h2 h3) fun e _ => Sg.ite (fun _ => Sg.pure (by unfold I64; first | omega | (dsimp only; omega))) fun _ => ?_
 exact Sg.bind (sg_more (by show 0 ≤ r + 1; omega) (by show r + 1 < 440; omega) 1) fun _ _ => Sg.bind (sg_more (by show 0 ≤ r + 7; omega) (by show r + 7 < 440; omega) 1) fun _ _ => Sg.pure ht.1
theorem nx_ghAfter {g : Pg (Int × Int)} {Q : Int × Int → Prop} (h : Sg g Q) : Nx (Pg.mk >>= fun m => g >>= fun e => Gh.after m e) (fun e => e.2 ≠ 0) Q := Nx.roll h fun n q hq => by
 unfold Gh.after
 by_cases he : q.2 ≠ 0
 · exact .inl ⟨q, by rw [if_pos he], hq⟩
 · exact .inr ⟨q, by rw [if_neg he], he, hq⟩
theorem nx_gAdd (h0 : 8 ≤ r) (h1 : r ≤ 170) (hv : I64 v) : Nx ((aG r).add v) (fun q => q.2 ≠ 0) (fun q => I64 q.1) := by
 unfold Gh.add
 exact nx_ghAfter (sg_ghAddIn h0 h1 hv)
theorem bg_thr {β : Type} (l : GL) (hl : LOk l) (f : β → Int → Pg (β × Bool)) (φ : Nat → β → Prop) (hf : ∀ k acc n, 200 ≤ n → n ≤ 432 → φ (k + 1) acc → Bg (f acc n) (fun q => φ k q.1)) : ∀ (k : Nat) (n : Int) (acc : β), I64 n → φ k acc → Bg ((aG r).thr l f k n acc) (fun q => ∃ j, φ j q.1)
 | 0, n, acc, _, hp => by
   unfold Gh.thr
   exact Bg.ite (fun _ => Bg.pure ⟨0, hp⟩) fun _ => Bg.pure ⟨0, hp⟩
 | k + 1, n, acc, hn, hp => by
   unfold Gh.thr
   refine Bg.ite (fun _ => Bg.pure ⟨k + 1, hp⟩) fun _ => Bg.iteN hn.1 hn.2 (fun h2 h3 => ?_) (Bg.pure ⟨k + 1, hp⟩)
   refine Bg.bind (hf k acc n h2 h3 hp) fun q hq => Bg.ite (fun _ => ?_) fun _ => Bg.pure ⟨k, hq⟩
   have a2 := hl.n0
   have a3 := hl.n1
   exact Bg.gtW (by omega) (by omega) fun m h4 h5 => bg_thr l hl f φ hf k m _ ⟨h4, h5⟩ hq
theorem bg_through {β : Type} (l : GL) (hl : LOk l) (f : β → Int → Pg (β × Bool)) (φ : Nat → β → Prop) (hf : ∀ k acc n, 200 ≤ n → n ≤ 432 → φ (k + 1) acc → Bg (f acc n) (fun q => φ k q.1)) (acc : β) (hp : φ 30 acc) : Bg ((aG r).through l f acc) (fun q => ∃ j, φ j q.1) := by
 unfold Gh.through
 exact Bg.gt hl.h0 hl.h1 fun n h2 h3 => bg_thr l hl f φ hf 30 n acc ⟨h2, h3⟩ hp
theorem bg_ghFind (h2 : 200 ≤ a) (h3 : a ≤ 432) (b : Int) : Bg ((aG r).find a b) (fun _ => True) := by
 unfold Gh.find
 refine Bg.bind (bg_through (Gh.out a) (lok_out h2 h3) (Gh.findF b) (fun _ _ => True) (fun k acc n h4 h5 _ => ?_) 0 trivial) fun q _ => Bg.pure trivial
 unfold Gh.findF
 exact Bg.gtW (by omega) (by omega) fun x _ _ => Bg.pure trivial
theorem nx_gLink (h0 : 8 ≤ r) (h1 : r ≤ 170) (ha : I64 a) (hb : I64 b) (hv : I64 v) : Nx ((aG r).lnk a b v) (fun q => q.2 ≠ 0) (fun q => I64 q.1) := by
 unfold Gh.lnk
 refine nx_ghAfter ?_
 unfold Gh.linkIn
 refine Sg.bind (bg_vertex ha).sg fun va hva => Sg.ite (fun hA => ?_) fun _ => Sg.pure (by unfold I64; first | omega | (dsimp only; omega))
 refine Sg.bind (bg_vertex hb).sg fun vb hvb => Sg.ite (fun hB => ?_) fun _ => Sg.pure (by unfold I64; first | omega | (dsimp only; omega))
 obtain ⟨h2, h3⟩ := hva hA
 obtain ⟨h4, h5⟩ := hvb hB
 refine Sg.bind (bg_ghFind h2 h3 b).sg fun f _ => Sg.ite (fun _ => Sg.pure (by unfold I64; first | omega | (dsimp only; omega))) fun _ => Sg.bind sg_takeP fun t ht => Sg.ite (fun _ => Sg.pure (by unfold I64; first | omega | (dsimp only; omega))) fun hE => Sg.ite (fun _ => Sg.pure (by unfold I64; first | omega | (dsimp only; omega))) fun _ => ?_
 obtain ⟨h6, h7⟩ := ht.2 (by omega)
 refine Sg.ptW (by omega) (by omega) (by show I64 (-2 - 2 * r); exact (by unfold I64; first | omega | (dsimp only; omega))) (Sg.ptW (by omega) (by omega) ha (Sg.ptW (by omega) (by omega) hb (Sg.ptW (by omega) (by omega) hv ?_)))
 refine Sg.bind (sg_link _ (lok_out h2 h3) h6 h7) fun e _ => Sg.ite (fun _ => Sg.pure (by unfold I64; first | omega | (dsimp only; omega))) fun _ => Sg.bind (sg_link _ (lok_inn h4 h5) h6 h7) fun e _ => Sg.ite (fun _ => Sg.pure (by unfold I64; first | omega | (dsimp only; omega))) fun _ => ?_
 refine Sg.bind (sg_more (by omega) (by omega) 1) fun _ _ => Sg.bind (sg_more (by omega) (by omega) 1) fun _ _ => ?_
 exact Sg.bind (sg_more (by show 0 ≤ r + 2; omega) (by show r + 2 < 440; omega) 1) fun _ _ => Sg.bind (sg_more (by show 0 ≤ r + 7; omega) (by show r + 7 < 440; omega) 1) fun _ _ => Sg.pure ht.1
theorem sg_cutN (h0 : 8 ≤ r) (h1 : r ≤ 170) (h2 : 200 ≤ n) (h3 : n ≤ 432) : Sg ((aG r).cutN n) (fun _ => True) := by
 unfold Gh.cutN
 refine Sg.gtW (by omega) (by omega) fun a h4 h5 => Sg.gtW (by omega) (by omega) fun b h6 h7 => Sg.ite (fun hc => ?_) fun _ => Sg.pure trivial
 obtain ⟨h8, h9⟩ := nd_of h4 h5 hc.1
 obtain ⟨k8, k9⟩ := nd_of h6 h7 hc.2
 refine Sg.bind (sg_unlink _ (lok_out h8 h9) h2 h3) fun e _ => Sg.ite (fun _ => Sg.pure trivial) fun _ => Sg.bind (sg_unlink _ (lok_inn k8 k9) h2 h3) fun e _ => Sg.ite (fun _ => Sg.pure trivial) fun _ => ?_
 refine Sg.bind (sg_more (by omega) (by omega) _) fun _ _ => Sg.bind (sg_more (by omega) (by omega) _) fun _ _ => ?_
 refine Sg.bind (sg_more (by show 0 ≤ r + 2; omega) (by show r + 2 < 440; omega) _) fun _ _ => Sg.bind (sg_more (by show 0 ≤ r + 7; omega) (by show r + 7 < 440; omega) _) fun _ _ => ?_
 exact (sg_giveP (by omega) (by omega)).mono fun _ _ => trivial
theorem nx_gCut (h0 : 8 ≤ r) (h1 : r ≤ 170) (hn : I64 n) : Nx ((aG r).cut n) (fun e => e ≠ 0) (fun _ => True) := by
 unfold Gh.cut
 have hI : Sg ((aG r).edge n >>= fun is => if is = true then (aG r).cutN n else pure 10) (fun _ => True) :=
   Sg.bind (bg_edge hn).sg fun q hq => Sg.ite (fun hE => sg_cutN h0 h1 (hq hE).1 (hq hE).2) fun _ => Sg.pure trivial
 have e : (Pg.mk >>= fun m => (aG r).edge n >>= fun is => if is = true then ((aG r).cutN n >>= fun e => Gh.afterE m e) else Gh.afterE m 10) = (Pg.mk >>= fun m => ((aG r).edge n >>= fun is => if is = true then (aG r).cutN n else pure 10) >>= fun e => Gh.afterE m e) := by
   refine congrArg (Pg.mk >>= ·) (funext fun m => ?_)
   rw [Pg.bind_assoc]
   refine congrArg ((aG r).edge n >>= ·) (funext fun is => ?_)
   rw [Pg.ite_bind]
   rfl
 show Nx (Pg.mk >>= fun m => (aG r).edge n >>= fun is => if is = true then ((aG r).cutN n >>= fun e => Gh.afterE m e) else Gh.afterE m 10) _ _
 rw [e]
 refine Nx.roll hI fun m q hq => ?_
 unfold Gh.afterE
 by_cases he : q ≠ 0
 · exact .inl ⟨q, by rw [if_pos he], trivial⟩
 · exact .inr ⟨q, by rw [if_neg he], he, trivial⟩
theorem sg_emptyK (h0 : 8 ≤ r) (h1 : r ≤ 170) (l : GL) (hl : LOk l) : ∀ k : Nat, Sg ((aG r).emptyK l k) (fun _ => True)
 | 0 => by
   unfold Gh.emptyK
   exact Sg.gt hl.h0 hl.h1 fun n _ _ => Sg.ite (fun _ => Sg.pure trivial) fun _ => Sg.pure trivial
 | k + 1 => by
   unfold Gh.emptyK
   refine Sg.gt hl.h0 hl.h1 fun n h4 h5 => Sg.ite (fun _ => Sg.pure trivial) fun _ => Sg.iteN h4 h5 (fun h2 h3 => ?_) (Sg.pure trivial)
   exact Sg.bind (sg_cutN h0 h1 h2 h3) fun e _ => Sg.ite (fun _ => Sg.pure trivial) fun _ => sg_emptyK h0 h1 l hl k
theorem nx_gDrop (h0 : 8 ≤ r) (h1 : r ≤ 170) (hn : I64 n) : Nx ((aG r).drop n) (fun q => q.2 ≠ 0) (fun q => I64 q.1) := by
 unfold Gh.drop
 refine nx_ghAfter ?_
 unfold Gh.dropIn
 refine Sg.bind (bg_vertex hn).sg fun q hq => Sg.ite (fun hE => ?_) fun _ => Sg.pure (by unfold I64; first | omega | (dsimp only; omega))
 obtain ⟨h2, h3⟩ := hq hE
 refine Sg.gtW (by omega) (by omega) fun v h4 h5 => Sg.bind (sg_emptyK h0 h1 _ (lok_out h2 h3) _) fun e _ => Sg.ite (fun _ => Sg.pure (by unfold I64; first | omega | (dsimp only; omega))) fun _ => Sg.bind (sg_emptyK h0 h1 _ (lok_inn h2 h3) _) fun e _ => Sg.ite (fun _ => Sg.pure (by unfold I64; first | omega | (dsimp only; omega))) fun _ => ?_
 unfold Gh.dropEnd
 refine Sg.bind (sg_unlink _ (lok_all h0 h1) h2 h3) fun e _ => Sg.ite (fun _ => Sg.pure (by unfold I64; first | omega | (dsimp only; omega))) fun _ => ?_
 refine Sg.bind (sg_more (by show 0 ≤ r + 1; omega) (by show r + 1 < 440; omega) _) fun _ _ => Sg.bind (sg_more (by show 0 ≤ r + 7; omega) (by show r + 7 < 440; omega) _) fun _ _ => ?_
 exact Sg.bind (sg_giveP (by omega) (by omega)) fun e _ => Sg.ite (fun _ => Sg.pure (by unfold I64; first | omega | (dsimp only; omega))) fun _ => Sg.pure ⟨h4, h5⟩
theorem rg_gWeight (ha : I64 a) (hb : I64 b) : Rg ((aG r).weigh a b) (fun q => I64 q.1) := by
 unfold Gh.weigh
 refine Rg.bind (bg_vertex ha).rg fun va hva => Rg.ite (fun hA => ?_) fun _ => Rg.pure (by unfold I64; first | omega | (dsimp only; omega))
 refine Rg.bind (bg_vertex hb).rg fun vb _ => Rg.ite (fun _ => ?_) fun _ => Rg.pure (by unfold I64; first | omega | (dsimp only; omega))
 exact Rg.bind (bg_ghFind (hva hA).1 (hva hA).2 b).rg fun f _ => Rg.ite (fun _ => Rg.pure (by unfold I64; first | omega | (dsimp only; omega))) fun _ => Rg.gt fun w h4 h5 => Rg.pure ⟨h4, h5⟩
theorem rg_gLabel (hn : I64 n) : Rg ((aG r).label n) (fun q => I64 q.1) := by
 unfold Gh.label
 exact Rg.bind (bg_vertex hn).rg fun va _ => Rg.ite (fun _ => Rg.gt fun v h4 h5 => Rg.pure ⟨h4, h5⟩) fun _ => Rg.pure (by unfold I64; first | omega | (dsimp only; omega))
theorem rg_gEnds (hn : I64 n) (l : GL) (hl : 200 ≤ n → n ≤ 432 → LOk l) (w : Int) (hw : 0 ≤ w ∧ w ≤ 7) : Rg ((aG r).ends n l w) (fun q => q.1.length ≤ 30) := by
 unfold Gh.ends
 refine Rg.bind (bg_vertex hn).rg fun va hva => Rg.ite (fun hA => ?_) fun _ => Rg.pure (Nat.zero_le _)
 refine Rg.bind (bg_through l (hl (hva hA).1 (hva hA).2) (Gh.endsF w) (fun k acc => acc.length + k ≤ 30) (fun k acc n h4 h5 hp => ?_) [] (Nat.le_refl _)).rg fun q hq => Rg.pure ?_
 · unfold Gh.endsF
   exact Bg.gtW (by omega) (by omega) fun x _ _ => Bg.gtW (by omega) (by omega) fun y _ _ => Bg.pure (by simp only [List.length_append, List.length_singleton]; omega)
 · obtain ⟨j, hj⟩ := hq
   split
   · exact Nat.zero_le _
   · dsimp only; omega
theorem rg_gVerts (h0 : 8 ≤ r) (h1 : r ≤ 170) : Rg (aG r).verts (fun q => q.1.length ≤ 30) := by
 unfold Gh.verts
 refine Rg.bind (bg_through _ (lok_all h0 h1) Gh.vertsF (fun k acc => acc.length + k ≤ 30) (fun k acc n h4 h5 hp => ?_) [] (Nat.le_refl _)).rg fun q hq => Rg.pure ?_
 · exact Bg.pure (by simp only [List.length_append, List.length_singleton]; omega)
 · obtain ⟨j, hj⟩ := hq
   split
   · exact Nat.zero_le _
   · dsimp only; omega
end Sim
