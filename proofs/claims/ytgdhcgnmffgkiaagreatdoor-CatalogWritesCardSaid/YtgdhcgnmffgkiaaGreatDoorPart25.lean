import Derived.Test.YtgdhcgnmffgkiaaGreatDoorPart24
import Derived.Test.YtgdhcgnmffgkiaaGreatDoorPart3
import Derived.Test.YtgdhcgnmffgkiaaGreatDoorPart7
/- Own work: lemmas of this claim. -/
namespace Sim
open Go Go.Vc
variable {r v a n : Int}
theorem sg_quTail (h0 : 8 ≤ r) (h1 : r ≤ 170) (hv : I64 v) (h2 : 200 ≤ a) (h3 : a ≤ 432) : Sg (Qu.tail r v a) (fun _ => True) := by
 obtain ⟨h4, h5⟩ := hv
 unfold Qu.tail; repeat' first|with_reducible exact True.intro|with_reducible refine Sg.gtW (by omega) (by omega) (fun _ _ _ => ?_)|with_reducible refine Sg.ptW (by omega) (by omega) (by first | (unfold I64; omega)|exact i64_w _) ?_|with_reducible refine Sg.gt (by omega) (by omega) (fun _ _ _ => ?_)|with_reducible refine Sg.pt (by omega) (by omega) (by first | (unfold I64; omega)|exact i64_w _) ?_|with_reducible refine Sg.bind (sg_giveP (by omega) (by omega)) (fun _ _ => ?_)|with_reducible refine Sg.iteN (by omega) (by omega) (fun _ _ => ?_) ?_|with_reducible refine Sg.ite (fun _ => ?_) (fun _ => ?_)|with_reducible refine Sg.pure ?_
 all_goals first | trivial | (unfold I64; omega) | (unfold I64; dsimp only; omega)
theorem nx_qPut (h0 : 8 ≤ r) (h1 : r ≤ 170) (hv : I64 v) : Nx (Qu.put awP r v) (fun e => e ≠ 0) (fun _ => True) := by
 unfold Qu.put
 refine Nx.after ?_
 unfold Qu.putIn
 refine Sg.bind sg_takeP fun t ht => Sg.ite (fun _ => Sg.pure trivial) fun hE => ?_
 obtain ⟨h4, h5⟩ := ht.2 (by omega)
 repeat' first|with_reducible exact sg_quTail h0 h1 hv h4 h5|with_reducible exact True.intro|with_reducible refine Sg.gtW (by omega) (by omega) (fun _ _ _ => ?_)|with_reducible refine Sg.ptW (by omega) (by omega) (by first | (unfold I64; omega)|exact i64_w _) ?_|with_reducible refine Sg.gt (by omega) (by omega) (fun _ _ _ => ?_)|with_reducible refine Sg.pt (by omega) (by omega) (by first | (unfold I64; omega)|exact i64_w _) ?_|with_reducible refine Sg.bind (sg_giveP (by omega) (by omega)) (fun _ _ => ?_)|with_reducible refine Sg.iteN (by omega) (by omega) (fun _ _ => ?_) ?_|with_reducible refine Sg.ite (fun _ => ?_) (fun _ => ?_)|with_reducible refine Sg.pure ?_
 all_goals first | trivial | (unfold I64; omega) | (unfold I64; dsimp only; omega)
theorem nx_qTake (h0 : 8 ≤ r) (h1 : r ≤ 170) : Nx (Qu.take awP r) (fun q => q.2 ≠ 0) (fun q => I64 q.1) := by
 unfold Qu.take
 refine Nx.after2 ?_
 unfold Qu.takeIn
 repeat' first|with_reducible exact True.intro|with_reducible refine Sg.gtW (by omega) (by omega) (fun _ _ _ => ?_)|with_reducible refine Sg.ptW (by omega) (by omega) (by first | (unfold I64; omega)|exact i64_w _) ?_|with_reducible refine Sg.gt (by omega) (by omega) (fun _ _ _ => ?_)|with_reducible refine Sg.pt (by omega) (by omega) (by first | (unfold I64; omega)|exact i64_w _) ?_|with_reducible refine Sg.bind (sg_giveP (by omega) (by omega)) (fun _ _ => ?_)|with_reducible refine Sg.iteN (by omega) (by omega) (fun _ _ => ?_) ?_|with_reducible refine Sg.ite (fun _ => ?_) (fun _ => ?_)|with_reducible refine Sg.pure ?_
 all_goals first | trivial | (unfold I64; omega) | (unfold I64; dsimp only; omega)
theorem rg_qFirst : Rg (Qu.first r) (fun q => I64 q.1) := by
 unfold Qu.first; repeat' first|with_reducible refine Rg.gt (fun _ _ _ => ?_)|with_reducible refine Rg.ite (fun _ => ?_) (fun _ => ?_)|with_reducible refine Rg.pure ?_
 all_goals first | trivial | (unfold I64; omega) | (unfold I64; dsimp only; omega)
theorem side_bd (b : Bool) : 0 ≤ Dq.side b ∧ Dq.side b ≤ 1 := by cases b <;> decide
theorem sg_dqMore (h0 : 0 ≤ a) (h1 : a < 440) : Sg (Dq.more (w64 a) n) (fun _ => True) := by
 rw [w440 h0 h1]
 unfold Dq.more; repeat' first|with_reducible exact True.intro|with_reducible refine Sg.gtW (by omega) (by omega) (fun _ _ _ => ?_)|with_reducible refine Sg.ptW (by omega) (by omega) (by first | (unfold I64; omega)|exact i64_w _) ?_|with_reducible refine Sg.gt (by omega) (by omega) (fun _ _ _ => ?_)|with_reducible refine Sg.pt (by omega) (by omega) (by first | (unfold I64; omega)|exact i64_w _) ?_|with_reducible refine Sg.bind (sg_giveP (by omega) (by omega)) (fun _ _ => ?_)|with_reducible refine Sg.iteN (by omega) (by omega) (fun _ _ => ?_) ?_|with_reducible refine Sg.ite (fun _ => ?_) (fun _ => ?_)|with_reducible refine Sg.pure ?_
 all_goals first | trivial | (unfold I64; omega) | (unfold I64; dsimp only; omega)
theorem sg_dqTail (h0 : 8 ≤ r) (h1 : r ≤ 170) (hn : I64 n) (b : Bool) : Sg (Dq.tail r n b) (fun _ => True) := by
 obtain ⟨h4, h5⟩ := hn
 have := side_bd b
 unfold Dq.tail; repeat' first|with_reducible refine Sg.bind (sg_dqMore (by omega) (by omega)) (fun _ _ => ?_)|with_reducible exact True.intro|with_reducible refine Sg.gtW (by omega) (by omega) (fun _ _ _ => ?_)|with_reducible refine Sg.ptW (by omega) (by omega) (by first | (unfold I64; omega)|exact i64_w _) ?_|with_reducible refine Sg.gt (by omega) (by omega) (fun _ _ _ => ?_)|with_reducible refine Sg.pt (by omega) (by omega) (by first | (unfold I64; omega)|exact i64_w _) ?_|with_reducible refine Sg.bind (sg_giveP (by omega) (by omega)) (fun _ _ => ?_)|with_reducible refine Sg.iteN (by omega) (by omega) (fun _ _ => ?_) ?_|with_reducible refine Sg.ite (fun _ => ?_) (fun _ => ?_)|with_reducible refine Sg.pure ?_
 all_goals first | trivial | (unfold I64; omega) | (unfold I64; dsimp only; omega)
theorem nx_dPush (h0 : 8 ≤ r) (h1 : r ≤ 170) (hv : I64 v) (b : Bool) : Nx (Dq.push awP r v b) (fun e => e ≠ 0) (fun _ => True) := by
 unfold Dq.push
 refine Nx.after ?_
 obtain ⟨h2, h3⟩ := hv
 unfold Dq.pushIn
 have := side_bd b
 have := side_bd (!b)
 refine Sg.bind sg_takeP fun t ht => Sg.ite (fun _ => Sg.pure trivial) fun hE => ?_
 obtain ⟨h4, h5⟩ := ht.2 (by omega)
 repeat' first|with_reducible exact sg_dqTail h0 h1 ht.1 b|with_reducible exact True.intro|with_reducible refine Sg.gtW (by omega) (by omega) (fun _ _ _ => ?_)|with_reducible refine Sg.ptW (by omega) (by omega) (by first | (unfold I64; omega)|exact i64_w _) ?_|with_reducible refine Sg.gt (by omega) (by omega) (fun _ _ _ => ?_)|with_reducible refine Sg.pt (by omega) (by omega) (by first | (unfold I64; omega)|exact i64_w _) ?_|with_reducible refine Sg.bind (sg_giveP (by omega) (by omega)) (fun _ _ => ?_)|with_reducible refine Sg.iteN (by omega) (by omega) (fun _ _ => ?_) ?_|with_reducible refine Sg.ite (fun _ => ?_) (fun _ => ?_)|with_reducible refine Sg.pure ?_
 all_goals first | trivial | (unfold I64; omega) | (unfold I64; dsimp only; omega)
theorem sg_dqFin (h0 : 8 ≤ r) (h1 : r ≤ 170) (h2 : 200 ≤ a) (h3 : a ≤ 432) (hn : I64 n) (b : Bool) : Sg (Dq.fin awP r a n b) (fun q => I64 q.1) := by
 obtain ⟨h4, h5⟩ := hn
 have := side_bd b
 unfold Dq.fin; repeat' first|with_reducible refine Sg.bind (sg_dqMore (by omega) (by omega)) (fun _ _ => ?_)|with_reducible exact True.intro|with_reducible refine Sg.gtW (by omega) (by omega) (fun _ _ _ => ?_)|with_reducible refine Sg.ptW (by omega) (by omega) (by first | (unfold I64; omega)|exact i64_w _) ?_|with_reducible refine Sg.gt (by omega) (by omega) (fun _ _ _ => ?_)|with_reducible refine Sg.pt (by omega) (by omega) (by first | (unfold I64; omega)|exact i64_w _) ?_|with_reducible refine Sg.bind (sg_giveP (by omega) (by omega)) (fun _ _ => ?_)|with_reducible refine Sg.iteN (by omega) (by omega) (fun _ _ => ?_) ?_|with_reducible refine Sg.ite (fun _ => ?_) (fun _ => ?_)|with_reducible refine Sg.pure ?_
 all_goals first | trivial | (unfold I64; omega) | (unfold I64; dsimp only; omega)
theorem nx_dPop (h0 : 8 ≤ r) (h1 : r ≤ 170) (b : Bool) : Nx (Dq.pop awP r b) (fun q => q.2 ≠ 0) (fun q => I64 q.1) := by
 unfold Dq.pop
 refine Nx.after2 ?_
 unfold Dq.popIn
 have := side_bd b
 have := side_bd (!b)
 repeat' first|with_reducible exact sg_dqFin h0 h1 (by omega) (by omega) (by unfold I64; omega) b|with_reducible exact True.intro|with_reducible refine Sg.gtW (by omega) (by omega) (fun _ _ _ => ?_)|with_reducible refine Sg.ptW (by omega) (by omega) (by first | (unfold I64; omega)|exact i64_w _) ?_|with_reducible refine Sg.gt (by omega) (by omega) (fun _ _ _ => ?_)|with_reducible refine Sg.pt (by omega) (by omega) (by first | (unfold I64; omega)|exact i64_w _) ?_|with_reducible refine Sg.bind (sg_giveP (by omega) (by omega)) (fun _ _ => ?_)|with_reducible refine Sg.iteN (by omega) (by omega) (fun _ _ => ?_) ?_|with_reducible refine Sg.ite (fun _ => ?_) (fun _ => ?_)|with_reducible refine Sg.pure ?_
 all_goals first | trivial | (unfold I64; omega) | (unfold I64; dsimp only; omega)
theorem rg_dPeek (b : Bool) : Rg (Dq.peek r b) (fun q => I64 q.1) := by
 unfold Dq.peek; repeat' first|with_reducible refine Rg.gt (fun _ _ _ => ?_)|with_reducible refine Rg.ite (fun _ => ?_) (fun _ => ?_)|with_reducible refine Rg.pure ?_
 all_goals first | trivial | (unfold I64; omega) | (unfold I64; dsimp only; omega)
end Sim
namespace Sim
open Go Go.Vc
abbrev aT (r : Int) : Tr := ⟨awP, r, hsI, fun _ => true⟩
variable {r v a n : Int}
theorem tr_node (h0 : -9223372036854775808 ≤ n) (h1 : n ≤ 9223372036854775807) (h : (aT r).nodeB n = true) : Tr.nodeN n = n ∧ 200 ≤ n ∧ n ≤ 432 := by
 unfold Tr.nodeB at h
 split at h
 · cases h
 · rename_i hn
   exact ⟨by unfold Tr.nodeN; rw [if_neg hn], nd_of h0 h1 h⟩
theorem dig_bd2 (h : Int) (d : Nat) : 0 ≤ dig h d ∧ dig h d ≤ 7 := by unfold dig; omega
structure WGood (w : TWay) : Prop where
 c0 : 0 ≤ w.cell
 c1 : w.cell < 440
 bs : ∀ b ∈ w.bs, 200 ≤ b ∧ b ≤ 432
 cs : ∀ c ∈ w.cs, 0 ≤ c ∧ c < 440
theorem bg_downK (h : Int) : ∀ (k : Nat) (w : TWay), WGood w → Bg ((aT r).downK h k w) (fun q => WGood q.1)
 | 0, _, hw => Bg.pure hw
 | k + 1, w, hw => by
   unfold Tr.downK
   refine Bg.gt hw.c0 hw.c1 fun x _ _ => Bg.ite (fun _ => ?_) fun _ => Bg.pure hw
   refine Bg.gt hw.c0 hw.c1 fun y _ _ => Bg.ite (fun hB => ?_) fun _ => Bg.pure hw
   have hr := i64_w (0 - y)
   obtain ⟨e, h2, h3⟩ := tr_node hr.1 hr.2 hB
   have hd := dig_bd2 h w.depth
   refine Bg.ite (fun _ => Bg.pure hw) fun _ => bg_downK h k _ ?_
   rw [e]
   refine ⟨by dsimp only; omega, by dsimp only; omega, fun b hb => ?_, fun c hc => ?_⟩
   · rcases List.mem_append.1 hb with hb | hb
     · exact hw.bs b hb
     · rw [List.mem_singleton.1 hb]; exact ⟨h2, h3⟩
   · rcases List.mem_append.1 hc with hc | hc
     · exact hw.cs c hc
     · rw [List.mem_singleton.1 hc]; exact ⟨hw.c0, hw.c1⟩
theorem bg_down (h0 : 8 ≤ r) (h1 : r ≤ 170) (h : Int) : Bg ((aT r).down h) (fun q => WGood q.1) :=
 bg_downK h 5 _ ⟨by dsimp only; omega, by dsimp only; omega, fun b hb => (by cases hb), fun b hb => (by cases hb)⟩
def LGood (q : (Int × Int) × Bool) : Prop := q.2 = true → (0 ≤ q.1.1 ∧ q.1.1 < 440) ∧ (q.1.2 = 0 ∨ 200 ≤ q.1.2 ∧ q.1.2 ≤ 432)
theorem bg_leafK (n : Int) (d : Nat) : ∀ (k : Nat) (c : Int), 0 ≤ c → c < 440 → Bg ((aT r).leafK n d k c) LGood
 | 0, c, h0, h1 => by
   unfold Tr.leafK
   exact Bg.gt h0 h1 fun x _ _ => Bg.ite (fun _ => Bg.pure fun _ => ⟨⟨h0, h1⟩, .inl rfl⟩) fun _ => Bg.gt h0 h1 fun _ _ _ => Bg.pure fun h => (by cases h)
 | k + 1, c, h0, h1 => by
   unfold Tr.leafK
   refine Bg.gt h0 h1 fun x _ _ => Bg.ite (fun _ => Bg.pure fun _ => ⟨⟨h0, h1⟩, .inl rfl⟩) fun _ => ?_
   refine Bg.gt h0 h1 fun y h2 h3 => Bg.ite (fun hB => ?_) fun _ => Bg.pure fun h => (by cases h)
   obtain ⟨e, h4, h5⟩ := tr_node h2 h3 hB
   rw [e]
   refine Bg.gt (by omega) (by omega) fun z _ _ => Bg.ite (fun _ => Bg.pure fun _ => ⟨⟨h0, h1⟩, .inr ⟨h4, h5⟩⟩) fun _ => ?_
   exact Bg.ite (fun _ => Bg.pure fun _ => ⟨⟨h0, h1⟩, .inl rfl⟩) fun _ => bg_leafK n d k _ (by omega) (by omega)
theorem bg_leaf (w : TWay) (hw : WGood w) (n : Int) : Bg ((aT r).leaf w n) LGood := bg_leafK n w.depth _ _ hw.c0 hw.c1
theorem rg_mGet (h0 : 8 ≤ r) (h1 : r ≤ 170) (n h : Int) : Rg ((aT r).get n h) (fun q => I64 q.1) := by
 unfold Tr.get
 refine Rg.bind (bg_down h0 h1 h).rg fun w hw => Rg.ite (fun _ => ?_) fun _ => Rg.pure (by unfold I64; dsimp only; omega)
 refine Rg.bind (bg_leaf w.1 hw n).rg fun l hl => Rg.ite (fun _ => ?_) fun _ => Rg.pure (by unfold I64; dsimp only; omega)
 exact Rg.ite (fun _ => Rg.pure (by unfold I64; dsimp only; omega)) fun _ => Rg.gt fun v h2 h3 => Rg.pure ⟨h2, h3⟩
theorem sg_trAdd (h0 : 8 ≤ r) (h1 : r ≤ 170) (c n : Int) (hc : 0 ≤ c ∧ c ≤ 7) : Sg ((aT r).add c n) (fun _ => True) := by
 unfold Tr.add
 exact Sg.gt (by show 0 ≤ r + c; omega) (by show r + c < 440; omega) fun v _ _ => Sg.pt (by show 0 ≤ r + c; omega) (by show r + c < 440; omega) (i64_w _) (Sg.pure trivial)
theorem sg_putsL (h2 : 200 ≤ a) (h3 : a ≤ 432) : ∀ (l : List Int) (i : Int), 0 ≤ i → i + l.length ≤ 8 → (∀ x ∈ l, I64 x) → Sg (Tr.putsL a i l) (fun _ => True)
 | [], _, _, _, _ => Sg.pure trivial
 | x :: l, i, h4, h5, h6 => by
   simp only [List.length_cons] at h5
   unfold Tr.putsL
   exact Sg.ptW (by omega) (by omega) (h6 x (.head _)) (sg_putsL h2 h3 l (i + 1) (by omega) (by omega) fun y hy => h6 y (.tail _ hy))
theorem sg_trTake (h0 : 8 ≤ r) (h1 : r ≤ 170) (l : List Int) (hl : l.length ≤ 8) (hx : ∀ x ∈ l, I64 x) : Sg ((aT r).take l) (fun q => I64 q.1 ∧ (q.2 = 0 → 200 ≤ q.1 ∧ q.1 ≤ 432)) := by
 unfold Tr.take
 refine Sg.bind sg_takeP fun t ht => Sg.ite (fun hE => Sg.pure ⟨by unfold I64; dsimp only; omega, fun h => absurd h hE⟩) fun hE => ?_
 obtain ⟨h4, h5⟩ := ht.2 (by omega)
 exact Sg.bind (sg_putsL h4 h5 l 0 (by omega) (by omega) hx) fun _ _ => Sg.bind (sg_trAdd h0 h1 7 1 (by omega)) fun _ _ => Sg.pure ⟨ht.1, fun _ => ⟨h4, h5⟩⟩
def SGood (q : TWay × Int) : Prop := q.2 = 0 → 0 ≤ q.1.cell ∧ q.1.cell < 440
theorem sg_splitK (h0 : 8 ≤ r) (h1 : r ≤ 170) (h : Int) : ∀ (k : Nat) (w : TWay), 0 ≤ w.cell → w.cell < 440 → Sg ((aT r).splitK h k w) SGood
 | 0, w, h2, h3 => Sg.pure fun _ => ⟨h2, h3⟩
 | k + 1, w, h2, h3 => by
   unfold Tr.splitK
   refine Sg.gt h2 h3 fun x _ _ => Sg.ite (fun _ => Sg.pure fun _ => ⟨h2, h3⟩) fun _ => ?_
   refine Sg.gt h2 h3 fun old h4 h5 => Sg.ite (fun hB => ?_) fun _ => Sg.pure fun h => (by cases h)
   obtain ⟨e, h6, h7⟩ := tr_node h4 h5 hB
   rw [e]
   refine Sg.gt (by omega) (by omega) fun o _ _ => Sg.ite (fun _ => ?_) fun _ => Sg.pure fun h => (by cases h)
   refine Sg.bind (sg_trTake h0 h1 _ (by decide) (fun x hx => by rw [List.eq_of_mem_replicate hx]; unfold I64; omega)) fun b hb => Sg.ite (fun hE => Sg.pure fun h => absurd h hE) fun hE => ?_
   obtain ⟨h8, h9⟩ := hb.2 (by omega)
   have hd := dig_bd2 ((aT r).hash o) w.depth
   have hd2 := dig_bd2 h w.depth
   refine Sg.ptW (by omega) (by omega) ⟨h4, h5⟩ (Sg.pt h2 h3 (i64_w _) (sg_splitK h0 h1 h k _ ?_ ?_))
   · show 0 ≤ w64 (b.1 + dig h w.depth); rw [w64_in (by omega) (by omega)]; omega
   · show w64 (b.1 + dig h w.depth) < 440; rw [w64_in (by omega) (by omega)]; omega
theorem sg_newIn (h0 : 8 ≤ r) (h1 : r ≤ 170) (hn : I64 n) (hv : I64 v) (w : TWay) (h2 : 0 ≤ w.cell) (h3 : w.cell < 440) : Sg ((aT r).newIn n v w) (fun q => I64 q.1.1) := by
 unfold Tr.newIn
 refine Sg.gt h2 h3 fun x h4 h5 => Sg.bind (sg_trTake h0 h1 [n, v, x] (show 3 ≤ 8 by decide) (fun y hy => ?_)) fun a ha => Sg.ite (fun _ => Sg.pure (by unfold I64; dsimp only; omega)) fun _ => ?_
 · simp only [List.mem_cons, List.not_mem_nil, or_false] at hy
   rcases hy with rfl | rfl | rfl
   · exact hn
   · exact hv
   · exact ⟨h4, h5⟩
 · exact Sg.pt h2 h3 ha.1 (Sg.bind (sg_trAdd h0 h1 1 1 (by omega)) fun _ _ => Sg.pure (by unfold I64; dsimp only; omega))
theorem sg_trPutIn (h0 : 8 ≤ r) (h1 : r ≤ 170) (hn : I64 n) (hv : I64 v) (h : Int) : Sg ((aT r).putIn n h v) (fun q => I64 q.1.1) := by
 unfold Tr.putIn
 refine Sg.bind (bg_down h0 h1 h).sg fun w hw => Sg.ite (fun _ => ?_) fun _ => Sg.pure (by unfold I64; dsimp only; omega)
 refine Sg.bind (bg_leaf w.1 hw n).sg fun l hl => Sg.ite (fun hE => ?_) fun _ => Sg.pure (by unfold I64; dsimp only; omega)
 obtain ⟨hc, ha⟩ := hl hE
 refine Sg.ite (fun _ => ?_) fun hz => ?_
 · exact Sg.bind (sg_splitK h0 h1 h _ w.1 hw.c0 hw.c1) fun w hw => Sg.ite (fun _ => Sg.pure (by unfold I64; dsimp only; omega)) fun hE => sg_newIn h0 h1 hn hv w.1 (hw (by omega)).1 (hw (by omega)).2
 · have ha := ha.resolve_left hz
   exact Sg.gt (by omega) (by omega) fun was h4 h5 => Sg.pt (by omega) (by omega) hv (Sg.pure ⟨h4, h5⟩)
theorem nx_mPut (h0 : 8 ≤ r) (h1 : r ≤ 170) (hn : I64 n) (hv : I64 v) (h : Int) : Nx ((aT r).put n h v) (fun q => q.2 ≠ 0) (fun q => I64 q.1.1) := by
 unfold Tr.put
 refine Nx.roll (sg_trPutIn h0 h1 hn hv h) fun m q hq => ?_
 unfold Tr.afterP
 by_cases he : q.2 ≠ 0
 · exact .inl ⟨q, by rw [if_pos he], hq⟩
 · exact .inr ⟨q, by rw [if_neg he], he, hq⟩
theorem sg_trGive (h0 : 8 ≤ r) (h1 : r ≤ 170) (ha : I64 a) : Sg ((aT r).give a) I64 := by
 unfold Tr.give
 exact Sg.bind (sg_giveP ha.1 ha.2) fun e he => Sg.ite (fun _ => Sg.pure he) fun _ => Sg.bind (sg_trAdd h0 h1 7 (-1) (by omega)) fun _ _ => Sg.pure (by unfold I64; omega)
theorem bg_aloneK (h2 : 200 ≤ a) (h3 : a ≤ 432) : ∀ (k : Nat) (i one : Int), 0 ≤ i → i + k ≤ 8 → I64 one → Bg ((aT r).aloneK a k i one) (fun q => I64 q.1)
 | 0, _, one, _, _, ho => by
   unfold Tr.aloneK
   refine Bg.ite (fun _ => Bg.pure (by unfold I64; dsimp only; omega)) fun _ => Bg.ite (fun hB => ?_) fun _ => Bg.pure ho
   obtain ⟨e, h6, h7⟩ := tr_node ho.1 ho.2 hB
   rw [e]
   exact Bg.gt (by omega) (by omega) fun _ _ _ => Bg.pure ho
 | k + 1, i, one, h4, h5, ho => by
   unfold Tr.aloneK
   refine Bg.gt (by omega) (by omega) fun x h6 h7 => Bg.ite (fun _ => Bg.pure (by unfold I64; dsimp only; omega)) fun _ => ?_
   exact Bg.ite (fun _ => bg_aloneK h2 h3 k _ _ (by omega) (by omega) ho) fun _ => Bg.ite (fun _ => bg_aloneK h2 h3 k _ _ (by omega) (by omega) ⟨h6, h7⟩) fun _ => Bg.pure (by unfold I64; dsimp only; omega)
theorem sg_fold (h0 : 8 ≤ r) (h1 : r ≤ 170) (hv : I64 v) : ∀ l : List (Int × Int), (∀ x ∈ l, (200 ≤ x.1 ∧ x.1 ≤ 432) ∧ 0 ≤ x.2 ∧ x.2 < 440) → Sg ((aT r).fold v l) (fun q => I64 q.1.1 ∧ (q.2 = 0 → q.1.2 = true))
 | [], _ => Sg.pure ⟨hv, fun _ => rfl⟩
 | (b, c) :: l, hl => by
   unfold Tr.fold
   obtain ⟨⟨h2, h3⟩, h4, h5⟩ := hl (b, c) (.head _)
   dsimp only at h2 h3 h4 h5
   refine Sg.bind (bg_aloneK h2 h3 8 0 0 (by omega) (by omega) (by unfold I64; omega)).sg fun o ho => Sg.ite (fun _ => ?_) fun _ => Sg.pure ⟨hv, fun _ => rfl⟩
   refine Sg.pt h4 h5 ho (Sg.bind (sg_trGive h0 h1 (by unfold I64; omega)) fun e _ => Sg.ite (fun he => Sg.pure ⟨by unfold I64; dsimp only; omega, fun h => absurd h he⟩) fun _ => ?_)
   exact sg_fold h0 h1 hv l fun x hx => hl x (.tail _ hx)
theorem sg_dropAt (h0 : 8 ≤ r) (h1 : r ≤ 170) (w : TWay) (hw : WGood w) (c : Int) (h2 : 0 ≤ c) (h3 : c < 440) (h4 : 200 ≤ a) (h5 : a ≤ 432) : Sg ((aT r).dropAt w c a) (fun q => I64 q.1.1 ∧ (q.2 = 0 → q.1.2 = true)) := by
 unfold Tr.dropAt
 refine Sg.gt (by omega) (by omega) fun was h6 h7 => Sg.gt (by omega) (by omega) fun x h8 h9 => Sg.pt h2 h3 ⟨h8, h9⟩ (Sg.bind (sg_trGive h0 h1 (by unfold I64; omega)) fun e _ => Sg.ite (fun he => Sg.pure ⟨by unfold I64; dsimp only; omega, fun h => absurd h he⟩) fun _ => ?_)
 refine Sg.bind (sg_trAdd h0 h1 1 (-1) (by omega)) fun _ _ => sg_fold h0 h1 ⟨h6, h7⟩ _ fun y hy => ?_
 have hy := List.mem_reverse.1 hy
 obtain ⟨y1, y2⟩ := y
 exact ⟨hw.bs _ (List.of_mem_zip hy).1, hw.cs _ (List.of_mem_zip hy).2⟩
theorem nx_mDrop (h0 : 8 ≤ r) (h1 : r ≤ 170) (n h : Int) : Nx ((aT r).drop n h) (fun q => q.2 ≠ 0 ∨ q.1.2 = false) (fun q => I64 q.1.1) := by
 unfold Tr.drop
 have hI : Sw ((aT r).dropIn n h) (fun q => q.2 = 0 ∧ q.1.2 = false) (fun q => I64 q.1.1) := by
   unfold Tr.dropIn
   refine Sw.bg (bg_down h0 h1 h) fun w hw => Sw.ite (fun _ => ?_) fun _ => Sw.pure (by unfold I64; dsimp only; omega)
   refine Sw.bg (bg_leaf w.1 hw n) fun l hl => Sw.ite (fun hE => ?_) fun _ => Sw.pure (by unfold I64; dsimp only; omega)
   obtain ⟨hc, ha⟩ := hl hE
   refine Sw.ite (fun _ => Sw.pure (by unfold I64; dsimp only; omega)) fun hz => ?_
   have ha := ha.resolve_left hz
   have hd := Sw.sg (silent := fun q => q.2 = 0 ∧ q.1.2 = false) (sg_dropAt h0 h1 w.1 hw l.1.1 hc.1 hc.2 ha.1 ha.2) fun q hq h => by
     rw [hq.2 h.1] at h; cases h.2
   exact fun s hs => let ⟨k1, k2, k3⟩ := hd s hs; ⟨k1, k2.1, k3⟩
 refine Nx.rollW hI fun m q hq => ?_
 unfold Tr.afterD
 by_cases he : q.2 ≠ 0
 · exact .inl ⟨((0, false), q.2), by rw [if_pos he], by unfold I64; dsimp only; omega⟩
 · exact .inr ⟨q, by rw [if_neg he], fun hb => ⟨by omega, hb.resolve_left he⟩, hq⟩
theorem rg_mLen : Rg ((aT r).len) I64 := Rg.gt1 _
end Sim
namespace Sim
open Go Go.Vc
abbrev aE (r : Int) : Te := ⟨awP, r⟩
variable {r v a b k n : Int}
theorem te_is {w : Wk} (ha : I64 a) (h : ((aE r).is a w).1 = true) : 200 ≤ a ∧ a ≤ 432 := by
 unfold Te.is at h
 split at h
 · cases h
 · by_cases hn : awP.node a = true
   · exact nd_of ha.1 ha.2 hn
   · simp only [hn] at h
     cases h
theorem bg_ofW (ha : I64 a) (c : Int) (hc : 0 ≤ c ∧ c ≤ 7) (w : Wk) : Bg ((aE r).ofW a c w) (fun q => I64 q.1) := by
 unfold Te.ofW
 refine Bg.ite (fun h => ?_) fun _ => Bg.pure (by unfold I64; first | omega | (dsimp only; omega))
 obtain ⟨h2, h3⟩ := te_is ha h
 exact Bg.gtW (by omega) (by omega) fun v h4 h5 => Bg.pure ⟨h4, h5⟩
theorem sg_refresh (h2 : 200 ≤ a) (h3 : a ≤ 432) (w : Wk) : Sg ((aE r).refresh a w) (fun _ => True) := by
 unfold Te.refresh
 refine Sg.gtW (by omega) (by omega) fun x h4 h5 => Sg.gtW (by omega) (by omega) fun y h6 h7 => ?_
 refine Sg.bind (bg_ofW ⟨h4, h5⟩ 4 (by omega) w).sg fun p _ => Sg.bind (bg_ofW ⟨h6, h7⟩ 4 (by omega) _).sg fun q _ => Sg.ptW (by omega) (by omega) (i64_w _) ?_
 refine Sg.gtW (by omega) (by omega) fun u _ _ => Sg.bind (bg_ofW ⟨h4, h5⟩ 5 (by omega) _).sg fun p _ => Sg.bind (bg_ofW ⟨h6, h7⟩ 5 (by omega) _).sg fun q _ => ?_
 exact Sg.ptW (by omega) (by omega) (i64_w _) (Sg.pure trivial)
def PGood (l : List (Int × Int)) : Prop := ∀ x ∈ l, (200 ≤ x.1 ∧ x.1 ≤ 432) ∧ I64 x.2
theorem bg_wayP (k : Int) : ∀ (j : Nat) (a : Int) (w : Wk) (acc : List (Int × Int)), I64 a → PGood acc → Bg ((aE r).wayK Te.pathF k j a w acc) (fun q => PGood q.1.1)
 | 0, _, _, acc, _, hp => Bg.pure hp
 | j + 1, a, w, acc, ha, hp => by
   unfold Te.wayK
   refine Bg.ite (fun h => ?_) fun _ => Bg.pure hp
   obtain ⟨h2, h3⟩ := te_is ha h
   refine Bg.gtW (by omega) (by omega) fun key h4 h5 => ?_
   have e : Te.pathF acc (a, key) = pure (acc ++ [(a, key)], true) := rfl
   rw [e, Pg.pure_bind]
   dsimp only
   rw [if_neg (by decide)]
   have hp2 : PGood (acc ++ [(a, key)]) := fun x hx => by
     rcases List.mem_append.1 hx with hx | hx
     · exact hp x hx
     · rw [List.mem_singleton.1 hx]; exact ⟨⟨h2, h3⟩, h4, h5⟩
   refine Bg.ite (fun _ => Bg.pure hp2) fun _ => Bg.gtW ?_ ?_ fun b h6 h7 => bg_wayP k j b _ _ ⟨h6, h7⟩ hp2
   · unfold Te.kid; split <;> omega
   · unfold Te.kid; split <;> omega
theorem bg_path (h0 : 8 ≤ r) (h1 : r ≤ 170) (k : Int) (w : Wk) : Bg ((aE r).path k w) (fun q => PGood q.1.1) := by
 unfold Te.path Te.way
 rw [Pg.bind_assoc]
 refine Bg.gt (by show 0 ≤ r; omega) (by show r < 440; omega) fun a h2 h3 => Bg.bind (bg_wayP k _ a w [] ⟨h2, h3⟩ (fun x hx => (by cases hx))) fun q hq => Bg.pure hq
theorem sg_teAdd : ∀ (l : List (Int × Int)) (n v : Int), PGood l → Sg (Te.add l n v) (fun _ => True)
 | [], _, _, _ => Sg.pure trivial
 | x :: l, n, v, hp => by
   obtain ⟨⟨h2, h3⟩, _⟩ := hp x (.head _)
   unfold Te.add
   refine Sg.bind (Q1 := fun _ => True) (Sg.ite (fun _ => Sg.gtW (by omega) (by omega) fun c _ _ => Sg.pt1W (by omega) (by omega) (i64_w _)) fun _ => Sg.pure trivial) fun _ _ => ?_
   refine Sg.bind (Q1 := fun _ => True) (Sg.ite (fun _ => Sg.gtW (by omega) (by omega) fun c _ _ => Sg.pt1W (by omega) (by omega) (i64_w _)) fun _ => Sg.pure trivial) fun _ _ => ?_
   exact sg_teAdd l n v fun y hy => hp y (.tail _ hy)
theorem sg_split (k : Int) : ∀ (j : Nat) (a : Int) (w : Wk), I64 a → Sg ((aE r).split k j a w) (fun q => I64 q.1.1 ∧ I64 q.1.2)
 | 0, _, _, _ => Sg.pure ⟨(by unfold I64; first | omega | (dsimp only; omega)), (by unfold I64; first | omega | (dsimp only; omega))⟩
 | j + 1, a, w, ha => by
   unfold Te.split
   refine Sg.ite (fun h => ?_) fun _ => Sg.pure ⟨(by unfold I64; first | omega | (dsimp only; omega)), (by unfold I64; first | omega | (dsimp only; omega))⟩
   obtain ⟨h2, h3⟩ := te_is ha h
   refine Sg.gtW (by omega) (by omega) fun key _ _ => Sg.ite (fun _ => ?_) fun _ => ?_
   · exact Sg.gtW (by omega) (by omega) fun b h4 h5 => Sg.bind (sg_split k j b _ ⟨h4, h5⟩) fun q hq => Sg.ptW (by omega) (by omega) hq.1 (Sg.bind (sg_refresh h2 h3 _) fun u _ => Sg.pure ⟨ha, hq.2⟩)
   · exact Sg.gtW (by omega) (by omega) fun b h4 h5 => Sg.bind (sg_split k j b _ ⟨h4, h5⟩) fun q hq => Sg.ptW (by omega) (by omega) hq.2 (Sg.bind (sg_refresh h2 h3 _) fun u _ => Sg.pure ⟨hq.1, ha⟩)
theorem sg_merge : ∀ (j : Nat) (a b : Int) (w : Wk), I64 a → I64 b → Sg ((aE r).merge j a b w) (fun q => I64 q.1)
 | 0, a, b, w, ha, hb => Sg.pure (by dsimp only; split <;> assumption)
 | j + 1, a, b, w, ha, hb => by
   unfold Te.merge
   refine Sg.ite (fun h => ?_) fun _ => Sg.pure hb
   obtain ⟨h2, h3⟩ := te_is ha h
   refine Sg.ite (fun h => ?_) fun _ => Sg.pure ha
   obtain ⟨h4, h5⟩ := te_is hb h
   refine Sg.gtW (by omega) (by omega) fun x _ _ => Sg.gtW (by omega) (by omega) fun y _ _ => Sg.ite (fun _ => ?_) fun _ => ?_
   · exact Sg.gtW (by omega) (by omega) fun c h6 h7 => Sg.bind (sg_merge j c b _ ⟨h6, h7⟩ hb) fun q hq => Sg.ptW (by omega) (by omega) hq (Sg.bind (sg_refresh h2 h3 _) fun u _ => Sg.pure ha)
   · exact Sg.gtW (by omega) (by omega) fun c h6 h7 => Sg.bind (sg_merge j a c _ ha ⟨h6, h7⟩) fun q hq => Sg.ptW (by omega) (by omega) hq (Sg.bind (sg_refresh h4 h5 _) fun u _ => Sg.pure hb)
theorem kid_bd (k key : Int) : 2 ≤ Te.kid k key ∧ Te.kid k key ≤ 3 := by unfold Te.kid; split <;> omega
theorem sg_hang (h0 : 8 ≤ r) (h1 : r ≤ 170) (l : List (Int × Int)) (hp : PGood l) (k : Int) (ha : I64 a) : Sg ((aE r).hang l k a) (fun _ => True) := by
 unfold Te.hang
 cases hl : l.getLast? with
 | none => exact Sg.pt1 (by show 0 ≤ r; omega) (by show r < 440; omega) ha
 | some x =>
   obtain ⟨⟨h2, h3⟩, _⟩ := hp x (List.mem_of_getLast? hl)
   have := kid_bd k x.2
   exact Sg.pt1W (by omega) (by omega) ha
theorem sg_cutAt (k : Int) (w : Wk) : ∀ o : Option (Int × Int), (∀ x, o = some x → I64 x.1) → Sg ((aE r).cutAt k o w) (fun q => I64 q.1.1 ∧ I64 q.1.2)
 | none, _ => Sg.pure ⟨(by unfold I64; first | omega | (dsimp only; omega)), (by unfold I64; first | omega | (dsimp only; omega))⟩
 | some x, h => sg_split k 8258 x.1 w (h x rfl)
theorem sg_putEnd (h0 : 8 ≤ r) (h1 : r ≤ 170) (k v : Int) (l : List (Int × Int)) (hp : PGood l) (h2 : 200 ≤ a) (h3 : a ≤ 432) (q : (Int × Int) × Wk) (hq : I64 q.1.1 ∧ I64 q.1.2) : Sg ((aE r).putEnd k v l a q) (fun q => I64 q.1.1) := by
 unfold Te.putEnd
 have hp2 : PGood (l.take (Te.above k l)) := fun x hx => hp x (List.mem_of_mem_take hx)
 refine Sg.ptW (by omega) (by omega) hq.1 (Sg.ptW (by omega) (by omega) hq.2 (Sg.bind (sg_refresh h2 h3 _) fun u _ => Sg.bind (sg_teAdd _ 1 v hp2) fun _ _ => Sg.bind (sg_hang h0 h1 _ hp2 k (by unfold I64; first | omega | (dsimp only; omega))) fun _ _ => ?_))
 refine Sg.gtW (by show 0 ≤ r + 7; omega) (by show r + 7 < 440; omega) fun c _ _ => Sg.ptW (by show 0 ≤ r + 7; omega) (by show r + 7 < 440; omega) (i64_w _) (Sg.pure ?_)
 split <;> exact (by unfold I64; first | omega | (dsimp only; omega))
theorem sg_putNew (h0 : 8 ≤ r) (h1 : r ≤ 170) (hk : I64 k) (hv : I64 v) (l : List (Int × Int)) (hp : PGood l) (w : Wk) : Sg ((aE r).putNew k v l w) (fun q => I64 q.1.1) := by
 unfold Te.putNew
 refine Sg.bind sg_takeP fun t ht => Sg.ite (fun _ => Sg.pure (by unfold I64; first | omega | (dsimp only; omega))) fun hE => ?_
 obtain ⟨h2, h3⟩ := ht.2 (by omega)
 refine Sg.ptW (by omega) (by omega) hk (Sg.ptW (by omega) (by omega) hv (Sg.bind (sg_cutAt k w _ fun x hx => ?_) fun q hq => sg_putEnd h0 h1 k v l hp h2 h3 q hq))
 obtain ⟨⟨h4, h5⟩, _⟩ := hp x (List.mem_of_getElem? hx)
 exact (by unfold I64; first | omega | (dsimp only; omega))
theorem sg_putAs (h0 : 8 ≤ r) (h1 : r ≤ 170) (hk : I64 k) (hv : I64 v) (l : List (Int × Int)) (hp : PGood l) (w : Wk) : ∀ (b : Bool) (o : Option (Int × Int)), (∀ x, o = some x → x ∈ l) → Sg ((aE r).putAs k v l w b o) (fun q => I64 q.1.1)
 | true, some x, h => by
   obtain ⟨⟨h4, h5⟩, _⟩ := hp x (h x rfl)
   exact Sg.gtW (by omega) (by omega) fun old h6 h7 => Sg.ptW (by omega) (by omega) hv (Sg.bind (sg_teAdd l 0 _ hp) fun _ _ => Sg.pure ⟨h6, h7⟩)
 | true, none, _ => sg_putNew h0 h1 hk hv l hp w
 | false, some _, _ => sg_putNew h0 h1 hk hv l hp w
 | false, none, _ => sg_putNew h0 h1 hk hv l hp w
theorem sg_tePutIn (h0 : 8 ≤ r) (h1 : r ≤ 170) (hk : I64 k) (hv : I64 v) : Sg ((aE r).putIn k v) (fun q => I64 q.1.1) := by
 unfold Te.putIn
 exact Sg.bind (bg_path h0 h1 k _).sg fun q hq => Sg.ite (fun _ => Sg.pure (by unfold I64; first | omega | (dsimp only; omega))) fun _ => sg_putAs h0 h1 hk hv _ hq _ _ _ fun x hx => List.mem_of_getLast? hx
theorem nx_tPut (h0 : 8 ≤ r) (h1 : r ≤ 170) (hk : I64 k) (hv : I64 v) : Nx ((aE r).put k v) (fun q => q.2 ≠ 0) (fun q => I64 q.1.1) := by
 unfold Te.put
 refine Nx.roll (sg_tePutIn h0 h1 hk hv) fun m q hq => ?_
 unfold Te.after
 by_cases he : q.2 ≠ 0
 · exact .inl ⟨q, by rw [if_pos he], hq⟩
 · exact .inr ⟨q, by rw [if_neg he], he, hq⟩
theorem sg_teDropAt (h0 : 8 ≤ r) (h1 : r ≤ 170) (k : Int) (l : List (Int × Int)) (hp : PGood l) (x : Int × Int) (h2 : 200 ≤ x.1) (h3 : x.1 ≤ 432) (w : Wk) : Sg ((aE r).dropAt k l x w) (fun q => I64 q.1.1 ∧ (q.2 = 0 → q.1.2 = true)) := by
 unfold Te.dropAt
 refine Sg.gtW (by omega) (by omega) fun old h4 h5 => Sg.gtW (by omega) (by omega) fun a h6 h7 => Sg.gtW (by omega) (by omega) fun b h8 h9 => ?_
 refine Sg.bind (sg_merge 8258 a b w ⟨h6, h7⟩ ⟨h8, h9⟩) fun q hq => Sg.bind (sg_hang h0 h1 l hp k hq) fun _ _ => Sg.bind (sg_teAdd l _ _ hp) fun _ _ => ?_
 refine Sg.gtW (by show 0 ≤ r + 7; omega) (by show r + 7 < 440; omega) fun c _ _ => Sg.ptW (by show 0 ≤ r + 7; omega) (by show r + 7 < 440; omega) (i64_w _) (Sg.ite (fun _ => Sg.pure ⟨(by unfold I64; first | omega | (dsimp only; omega)), fun h => (by cases h)⟩) fun _ => ?_)
 exact Sg.bind (sg_giveP (by omega) (by omega)) fun e _ => Sg.ite (fun he => Sg.pure ⟨(by unfold I64; first | omega | (dsimp only; omega)), fun h => absurd h he⟩) fun _ => Sg.pure ⟨⟨h4, h5⟩, fun _ => rfl⟩
theorem sw_dropAs (h0 : 8 ≤ r) (h1 : r ≤ 170) (k : Int) (l : List (Int × Int)) (hp : PGood l) (w : Wk) : ∀ (b : Bool) (o : Option (Int × Int)), (∀ x, o = some x → x ∈ l) → Sw ((aE r).dropAs k l w b o) (fun q => q.2 = 0 ∧ q.1.2 = false) (fun q => I64 q.1.1)
 | true, some x, h => by
   obtain ⟨⟨h4, h5⟩, _⟩ := hp x (h x rfl)
   have hd := Sw.sg (silent := fun q => q.2 = 0 ∧ q.1.2 = false) (sg_teDropAt h0 h1 k l.dropLast (fun y hy => hp y ((List.dropLast_sublist l).subset hy)) x h4 h5 w) fun q hq h => by
     rw [hq.2 h.1] at h; cases h.2
   exact fun s hs => let ⟨k1, k2, k3⟩ := hd s hs; ⟨k1, k2.1, k3⟩
 | true, none, _ => Sw.pure (by unfold I64; first | omega | (dsimp only; omega))
 | false, some _, _ => Sw.pure (by unfold I64; first | omega | (dsimp only; omega))
 | false, none, _ => Sw.pure (by unfold I64; first | omega | (dsimp only; omega))
theorem nx_tDrop (h0 : 8 ≤ r) (h1 : r ≤ 170) (k : Int) : Nx ((aE r).drop k) (fun q => q.2 ≠ 0 ∨ q.1.2 = false) (fun q => I64 q.1.1) := by
 unfold Te.drop
 have hI : Sw ((aE r).dropIn k) (fun q => q.2 = 0 ∧ q.1.2 = false) (fun q => I64 q.1.1) := by
   unfold Te.dropIn
   exact Sw.bg (bg_path h0 h1 k _) fun q hq => Sw.ite (fun _ => Sw.pure (by unfold I64; first | omega | (dsimp only; omega))) fun _ => sw_dropAs h0 h1 k _ hq _ _ _ fun x hx => List.mem_of_getLast? hx
 refine Nx.rollW hI fun m q hq => ?_
 unfold Te.after
 by_cases he : q.2 ≠ 0
 · exact .inl ⟨q, by rw [if_pos he], hq⟩
 · exact .inr ⟨q, by rw [if_neg he], fun hb => ⟨by omega, hb.resolve_left he⟩, hq⟩
theorem rg_ofW (c : Int) (w : Wk) : Rg ((aE r).ofW a c w) (fun _ => True) := by
 unfold Te.ofW
 exact Rg.ite (fun _ => Rg.gt fun v _ _ => Rg.pure trivial) fun _ => Rg.pure trivial
theorem rg_wayK {β : Type} (f : β → Int × Int → Pg (β × Bool)) (φ : β → Prop) (hf : ∀ acc x, φ acc → I64 x.2 → Rg (f acc x) (fun q => φ q.1)) (k : Int) : ∀ (j : Nat) (a : Int) (w : Wk) (acc : β), φ acc → Rg ((aE r).wayK f k j a w acc) (fun q => φ q.1.1)
 | 0, _, _, _, hp => Rg.pure hp
 | j + 1, a, w, acc, hp => by
   unfold Te.wayK
   refine Rg.ite (fun _ => Rg.gt fun key h4 h5 => Rg.bind (hf acc (a, key) hp ⟨h4, h5⟩) fun q hq => ?_) fun _ => Rg.pure hp
   exact Rg.ite (fun _ => Rg.pure hq) fun _ => Rg.ite (fun _ => Rg.pure hq) fun _ => Rg.gt fun b _ _ => rg_wayK f φ hf k j b _ _ hq
theorem rg_tGet (k : Int) : Rg ((aE r).get k) (fun q => I64 q.1) := by
 unfold Te.get Te.way
 rw [Pg.bind_assoc]
 refine Rg.gt fun a _ _ => Rg.bind (rg_wayK (Te.getF k) I64 (fun acc x hp hx => ?_) k _ a _ 0 (by unfold I64; first | omega | (dsimp only; omega))) fun q hq => Rg.pure (by split; exact hq; exact (by unfold I64; first | omega | (dsimp only; omega)))
 unfold Te.getF
 exact Rg.ite (fun _ => Rg.gt fun v h4 h5 => Rg.pure ⟨h4, h5⟩) fun _ => Rg.pure hp
theorem rg_tNext (k : Int) : Rg ((aE r).next k) (fun q => I64 q.1) := by
 unfold Te.next Te.way
 rw [Pg.bind_assoc]
 refine Rg.gt fun a _ _ => Rg.bind (rg_wayK (Te.nextF k) (fun p => I64 p.1) (fun acc x hp hx => ?_) k _ a _ (0, false) (by unfold I64; first | omega | (dsimp only; omega))) fun q hq => Rg.pure hq
 unfold Te.nextF
 refine Rg.pure ?_
 dsimp only
 split
 · exact hx
 · exact hp
theorem rg_untilK (k : Int) (inc : Bool) (cell : Int) (own : Int → Pg Int) (ho : ∀ a, Rg (own a) (fun _ => True)) : ∀ (j : Nat) (a : Int) (w : Wk) (t : Int), I64 t → Rg ((aE r).untilK k inc cell own j a w t) I64
 | 0, _, _, _, ht => Rg.pure ht
 | j + 1, a, w, t, ht => by
   unfold Te.untilK
   refine Rg.ite (fun _ => Rg.gt fun key _ _ => Rg.ite (fun _ => Rg.gt fun b _ _ => rg_untilK k inc cell own ho j b _ _ ht) fun _ => ?_) fun _ => Rg.pure ht
   exact Rg.bind (ho a) fun o _ => Rg.gt fun b _ _ => Rg.bind (rg_ofW cell _) fun x _ => Rg.gt fun c _ _ => rg_untilK k inc cell own ho j c _ _ (i64_w _)
theorem rg_tBetween (x y cell : Int) (own : Int → Pg Int) (ho : ∀ a, Rg (own a) (fun _ => True)) : Rg ((aE r).between x y cell own) I64 := by
 unfold Te.between Te.until_
 refine Rg.ite (fun _ => Rg.pure (by unfold I64; first | omega | (dsimp only; omega))) fun _ => ?_
 refine Rg.bind (Q1 := fun _ => True) (Rg.gt fun a _ _ => (rg_untilK y true cell own ho _ a _ 0 (by unfold I64; first | omega | (dsimp only; omega))).mono fun _ _ => trivial) fun u _ => ?_
 exact Rg.bind (Q1 := fun _ => True) (Rg.gt fun a _ _ => (rg_untilK x false cell own ho _ a _ 0 (by unfold I64; first | omega | (dsimp only; omega))).mono fun _ _ => trivial) fun v _ => Rg.pure (i64_w _)
theorem rg_sumO (a : Int) : Rg (Te.sumO a) (fun _ => True) := (Rg.gt1 _).mono fun _ _ => trivial
theorem rg_countO (a : Int) : Rg (Te.countO a) (fun _ => True) := Rg.pure trivial
theorem rg_nthK : ∀ (j : Nat) (a : Int) (w : Wk) (n : Int), Rg ((aE r).nthK j a w n) (fun q => I64 q.1)
 | 0, _, _, _ => Rg.pure (by unfold I64; first | omega | (dsimp only; omega))
 | j + 1, a, w, n => by
   unfold Te.nthK
   refine Rg.ite (fun _ => Rg.gt fun l _ _ => Rg.bind (rg_ofW 4 _) fun x _ => Rg.ite (fun _ => Rg.gt fun key h4 h5 => Rg.pure ⟨h4, h5⟩) fun _ => ?_) fun _ => Rg.pure (by unfold I64; first | omega | (dsimp only; omega))
   exact Rg.ite (fun _ => rg_nthK j l _ n) fun _ => Rg.gt fun c _ _ => rg_nthK j c _ _
theorem rg_tNth (n : Int) : Rg ((aE r).nth n) (fun q => I64 q.1) := by
 unfold Te.nth
 exact Rg.ite (fun _ => Rg.pure (by unfold I64; first | omega | (dsimp only; omega))) fun _ => Rg.gt fun a _ _ => rg_nthK _ a _ n
end Sim
