import Derived.Test.YtikackodhiollaaGreatDoorPart3
import Derived.Test.YtikackodhiollaaGreatDoorPart9
import Derived.Test.YtikackodhiollaaGreatDoorPart5
/- Own work: lemmas of this claim. -/
namespace Sim.Tx
open Go Go.Vc Sim
theorem wd_ext {a b : Wd} (h0 : a.w0 = b.w0) (h1 : a.w1 = b.w1) (h2 : a.ts = b.ts) : a = b := by
 cases a; cases b; cases h0; cases h1; cases h2; rfl
theorem put_tell (a : Wd) (b : Bool) (v : Int) (i : Nat) (o : AO) (g : Gots) : (a.tell i o g).put b v = (a.put b v).tell i o g := by
 unfold Wd.put Wd.tell; split <;> rfl
theorem tell_comm (a : Wd) {i j : Nat} (h : i ≠ j) (o o' : AO) (g g' : Gots) : (a.tell i o g).tell j o' g' = (a.tell j o' g').tell i o g :=
 wd_ext rfl rfl (List.set_comm _ _ h)
theorem tell_at (a : Wd) {i j : Nat} (h : i ≠ j) (o : AO) (g : Gots) : (a.tell i o g).ts[j]? = a.ts[j]? := List.getElem?_set_ne h
theorem aft_at (a : Wd) {i j : Nat} (h : i ≠ j) : (a.aft i).ts[j]? = a.ts[j]? := by
 unfold Wd.aft
 split
 · rfl
 · split
   · exact tell_at a h _ _
   · split
     · exact (tell_at _ h _ _).trans (by rw [put_ts])
     · exact tell_at a h _ _
   · rfl
theorem com_look {a : Wd} {i j : Nat} (hij : i ≠ j) {o o' : AO} {g g' : Gots} (hi : a.ts[i]? = some (o, g)) (hj : a.ts[j]? = some (o', g')) (hs : stt o g = .look) (h : stt o' g' = .look ∨ o.pl ≠ o'.pl) :
   (a.aft i).aft j = (a.aft j).aft i := by
 have e1 := aft_look hi hs
 have hj1 : (a.aft i).ts[j]? = some (o', g') := (aft_at a hij).trans hj
 have hi1 : (a.aft j).ts[i]? = some (o, g) := (aft_at a (Ne.symm hij)).trans hi
 have e2 := aft_look hi1 hs
 rw [e2]
 cases hs' : stt o' g' with
 | look =>
   rw [aft_look hj1 hs', aft_look hj hs', e1, tell_get, tell_get]
   exact tell_comm a hij _ _ _ _
 | done =>
   have d1 : ∀ b : Wd, b.ts[j]? = some (o', g') → b.aft j = b := fun b hb => by unfold Wd.aft; rw [hb]; dsimp only; rw [hs']
   rw [d1 _ hj1, d1 _ hj, e1]
 | swap v =>
   have hp : o.pl ≠ o'.pl := h.resolve_left (fun e => by rw [hs'] at e; cases e)
   by_cases hv : a.get o'.pl = v
   · rw [aft_good hj1 hs' (by rw [e1, tell_get]; exact hv), aft_good hj hs' hv, e1, put_tell, tell_get, put_get, if_neg (Ne.symm hp)]
     exact tell_comm _ hij _ _ _ _
   · rw [aft_bad hj1 hs' (by rw [e1, tell_get]; exact hv), aft_bad hj hs' hv, e1, tell_get, tell_get]
     exact tell_comm _ hij _ _ _ _
theorem gr_ok (L : List AO) : gr.Ok (Of L) where
 next := fun _ _ ha hs => aft_next ha hs
 key := fun x a b ha hb h1 h2 => by
   obtain ⟨e0, e1, e2⟩ := KeyT.inj (show KeyT a.w0 a.w1 (a.ts.map (·.2)) x from h1) (show KeyT b.w0 b.w1 (b.ts.map (·.2)) x from h2)
   exact wd_ext e0 e1 (pairs_ext (ha.1.trans hb.1.symm) e2)
 com := fun a s o ha hs ho hne hi => by
   obtain ⟨p, g, hx, hd⟩ := mem_steps.1 (show s ∈ a.steps from hs)
   obtain ⟨p', g', hx', hd'⟩ := mem_steps.1 (show o ∈ a.steps from ho)
   refine ⟨mem_steps.2 ⟨p, g, (aft_at a hne).trans hx, hd⟩, ?_⟩
   have h1 : a.stt s = stt p g := by unfold Wd.stt; rw [hx]
   have h2 : a.stt o = stt p' g' := by unfold Wd.stt; rw [hx']
   have h3 : a.pl s = p.pl := by unfold Wd.pl; rw [hx]
   have h4 : a.pl o = p'.pl := by unfold Wd.pl; rw [hx']
   have hi : Wd.ind a s o = true := hi
   unfold Wd.ind at hi
   rw [h1, h2, h3, h4] at hi
   show (a.aft s).aft o = (a.aft o).aft s
   cases e1 : stt p g with
   | done => exact absurd e1 hd
   | look =>
     refine com_look (Ne.symm hne) hx hx' e1 ?_
     cases e2 : stt p' g' with
     | done => exact absurd e2 hd'
     | look => exact .inl rfl
     | swap v =>
       rw [e1, e2] at hi
       exact .inr (of_decide_eq_true hi)
   | swap v =>
     cases e2 : stt p' g' with
     | done => exact absurd e2 hd'
     | look =>
       rw [e1, e2] at hi
       exact (com_look hne hx' hx e2 (.inr (Ne.symm (of_decide_eq_true hi)))).symm
     | swap v' =>
       rw [e1, e2] at hi
       cases hi
def ap (o : AO) (w : Int × Int) : Int × Int := if o.pl = true then (w.1, o.fn w.2) else (o.fn w.1, w.2)
inductive Ord (L : List AO) : List Bool → Int × Int → Int × Int → Prop where
 | last {d : List Bool} {w : Int × Int} : (∀ i, i < L.length → d[i]? = some true) → Ord L d w w
 | step {d : List Bool} {w f : Int × Int} {i : Nat} {o : AO} : L[i]? = some o → d[i]? = some false → Ord L (d.set i true) (ap o w) f → Ord L d w f
def dn (x : AO × Gots) : Bool := match stt x.1 x.2 with | .done => true | _ => false
theorem dn_true {o : AO} {g : Gots} (h : stt o g = .done) : dn (o, g) = true := by unfold dn; dsimp only; rw [h]
theorem dn_false {o : AO} {g : Gots} (h : stt o g ≠ .done) : dn (o, g) = false := by
 unfold dn
 split
 · rename_i e; exact absurd e h
 · rfl
theorem ap_get (a : Wd) (o : AO) : ap o (a.w0, a.w1) = ((a.put o.pl (o.fn (a.get o.pl))).w0, (a.put o.pl (o.fn (a.get o.pl))).w1) := by
 unfold ap Wd.put Wd.get
 cases o.pl <;> rfl
theorem ap_same {a : Wd} {o : AO} (h : o.fn (a.get o.pl) = a.get o.pl) : ap o (a.w0, a.w1) = (a.w0, a.w1) := by
 rw [ap_get, h]
 unfold Wd.put Wd.get
 cases o.pl <;> rfl
theorem task_form (x : AO × Gots) (s : ByteArray) : ∃ q, taskB s x = s ++ (bs [59] ++ q) := by
 have key : ∀ (g : Gots) (s : ByteArray), ∃ q, g.foldl gotB s = s ++ q := by
   intro g
   induction g with
   | nil => exact fun s => ⟨bs [], (ByteArray.append_empty (b := s)).symm⟩
   | cons x g ih =>
     intro s
     obtain ⟨q, hq⟩ := ih (gotB s x)
     have : ∃ r, gotB s x = s ++ r := by
       unfold gotB
       split
       · exact ⟨_, rfl⟩
       · exact ⟨_, ByteArray.append_assoc⟩
     obtain ⟨r, hr⟩ := this
     exact ⟨r ++ q, by rw [List.foldl_cons, hq, hr, ByteArray.append_assoc]⟩
 obtain ⟨q, hq⟩ := key x.2 (s ++ bs [59])
 exact ⟨q, by unfold taskB; rw [hq, ByteArray.append_assoc]⟩
def Rest (r : ByteArray) : Prop := r = bs [] ∨ ∃ q, r = bs [59] ++ q
theorem out_form : ∀ (l : List (AO × Gots)) (s : ByteArray), ∃ r, l.foldl taskB s = s ++ r ∧ Rest r
 | [], s => ⟨bs [], (ByteArray.append_empty (b := s)).symm, .inl rfl⟩
 | x :: l, s => by
   obtain ⟨q, hq⟩ := task_form x s
   obtain ⟨r, hr, _⟩ := out_form l (taskB s x)
   exact ⟨bs [59] ++ q ++ r, by rw [List.foldl_cons, hr, hq, ByteArray.append_assoc], .inr ⟨q ++ r, ByteArray.append_assoc⟩⟩
theorem ops_at {L : List AO} {a : Wd} (ha : Of L a) {i : Nat} {o : AO} {g : Gots} (h : a.ts[i]? = some (o, g)) : L[i]? = some o := by
 rw [← ha.1, List.getElem?_map, h]; rfl
theorem dn_at {a : Wd} {i : Nat} {o : AO} {g : Gots} (h : a.ts[i]? = some (o, g)) : (a.ts.map dn)[i]? = some (dn (o, g)) := by
 rw [List.getElem?_map, h]; rfl
theorem dn_set (l : List (AO × Gots)) (i : Nat) (x : AO × Gots) : (l.set i x).map dn = (l.map dn).set i (dn x) := List.map_set
theorem set_same {l : List Bool} {i : Nat} {b : Bool} (h : l[i]? = some b) : l.set i b = l := by
 refine List.ext_getElem? fun j => ?_
 rw [List.getElem?_set]
 split
 · rename_i e; subst e
   rw [if_pos (List.getElem?_eq_some_iff.1 h).1, h]
 · rfl
theorem ends_ord {L : List AO} {a : Wd} {x : ByteArray} (h : Ends gr a x) : Of L a → ∃ f r, Ord L (a.ts.map dn) (a.w0, a.w1) f ∧ x = wtext f.1 f.2 ++ r ∧ Rest r := by
 induction h with
 | @here a h =>
   intro ha
   obtain ⟨r, hr, hR⟩ := out_form a.ts (wtext a.w0 a.w1)
   refine ⟨(a.w0, a.w1), r, .last (fun i hi => ?_), hr, hR⟩
   have hi2 : i < a.ts.length := by rw [← List.length_map (f := (·.1)), ha.1]; exact hi
   obtain ⟨⟨o, g⟩, hx⟩ : ∃ x, a.ts[i]? = some x := ⟨_, List.getElem?_eq_getElem hi2⟩
   rw [dn_at hx]
   by_cases hd : stt o g = .done
   · rw [dn_true hd]
   · have : i ∈ a.steps := mem_steps.2 ⟨o, g, hx, hd⟩
     have h : a.steps = [] := h
     rw [h] at this
     cases this
 | @step a s x hs _ ih =>
   intro ha
   have hs : s ∈ a.steps := hs
   obtain ⟨f, r, h1, h2, h3⟩ := ih (aft_next ha hs).1
   have h1 : Ord L ((a.aft s).ts.map dn) ((a.aft s).w0, (a.aft s).w1) f := h1
   refine ⟨f, r, ?_, h2, h3⟩
   obtain ⟨o, g, hx, hd⟩ := mem_steps.1 hs
   have hf : (a.ts.map dn)[s]? = some false := by rw [dn_at hx, dn_false hd]
   -- a read: it is done if the operation does nothing there
   have read : ∀ b : Bool, (b = false ∨ g = []) → Ord L ((a.tell s o (g ++ [(a.get o.pl, b)])).ts.map dn) (a.w0, a.w1) f → Ord L (a.ts.map dn) (a.w0, a.w1) f := fun b hb h => by
     have e : ((a.tell s o (g ++ [(a.get o.pl, b)])).ts.map dn) = (a.ts.map dn).set s (dn (o, g ++ [(a.get o.pl, b)])) := dn_set _ _ _
     rw [e] at h
     by_cases hn : o.fn (a.get o.pl) = a.get o.pl
     · rw [dn_true (by rw [stt_snoc, if_pos (.inr hn)])] at h
       exact .step (ops_at ha hx) hf (by rw [ap_same hn]; exact h)
     · rw [dn_false (by
         rw [stt_snoc, if_neg]
         · intro e; cases e
         · rintro (⟨h5, h6⟩ | h5)
           · rcases hb with rfl | rfl
             · cases h5
             · exact absurd h6 (by decide)
           · exact hn h5), set_same hf] at h
       exact h
   cases e1 : stt o g with
   | done => exact absurd e1 hd
   | look =>
     rw [aft_look hx e1] at h1
     exact read true (.inr (stt_look e1)) h1
   | swap v =>
     by_cases hv : a.get o.pl = v
     · rw [aft_good hx e1 hv] at h1
       have e : (((a.put o.pl (o.fn v)).tell s o (g ++ [(v, true)])).ts.map dn) = (a.ts.map dn).set s true := by
         show (((a.put o.pl (o.fn v)).ts.set s (o, g ++ [(v, true)])).map dn) = _
         rw [put_ts, dn_set, dn_true]
         rw [stt_snoc, if_pos (.inl ⟨rfl, (stt_swap e1).2⟩)]
       rw [e] at h1
       refine .step (ops_at ha hx) hf ?_
       rw [ap_get, hv]
       exact h1
     · rw [aft_bad hx e1 hv] at h1
       exact read false (.inl rfl) h1
theorem ord_ends {L : List AO} {d : List Bool} {w f : Int × Int} (h : Ord L d w f) : ∀ a : Wd, Of L a → (a.w0, a.w1) = w → a.ts.map dn = d → (∀ (i : Nat) (o : AO) (g : Gots), a.ts[i]? = some (o, g) → stt o g ≠ .done → g = []) →
   ∃ x r, Ends gr a x ∧ x = wtext f.1 f.2 ++ r ∧ Rest r := by
 induction h with
 | @last d w hl =>
   intro a ha hw hd _
   obtain ⟨r, hr, hR⟩ := out_form a.ts (wtext a.w0 a.w1)
   refine ⟨a.out, r, .here ?_, ?_, hR⟩
   · show a.steps = []
     refine List.eq_nil_iff_forall_not_mem.2 fun i hi => ?_
     obtain ⟨o, g, hx, hdn⟩ := mem_steps.1 hi
     have h1 := hl i (List.getElem?_eq_some_iff.1 (ops_at ha hx)).1
     rw [← hd, dn_at hx, dn_false hdn] at h1
     cases h1
   · rw [← hw]; exact hr
 | @step d w f i o hL hdi _ ih =>
   intro a ha hw hd hg
   have hi : i < a.ts.length := by rw [← List.length_map (f := (·.1)), ha.1]; exact (List.getElem?_eq_some_iff.1 hL).1
   obtain ⟨⟨o', g⟩, hx⟩ : ∃ x, a.ts[i]? = some x := ⟨_, List.getElem?_eq_getElem hi⟩
   have := ops_at ha hx
   rw [hL] at this
   cases this
   have hnd : stt o g ≠ .done := fun e => by
     rw [← hd, dn_at hx, dn_true e] at hdi
     cases hdi
   have := hg i o g hx hnd
   subst this
   have e1 := aft_look hx (stt_nil o)
   have hs : i ∈ a.steps := mem_steps.2 ⟨o, [], hx, hnd⟩
   have ha1 := (aft_next ha hs).1
   have hx1 : (a.aft i).ts[i]? = some (o, [(a.get o.pl, true)]) := by
     rw [e1]
     show (a.ts.set i _)[i]? = _
     rw [List.getElem?_set_self hi]; rfl
   by_cases hn : o.fn (a.get o.pl) = a.get o.pl
   · have hdone : stt o [(a.get o.pl, true)] = .done := (stt_snoc o [] _ _).trans (if_pos (.inr hn))
     obtain ⟨x, r, h1, h2, h3⟩ := ih (a.aft i) ha1 (by rw [e1, ← hw, ap_same hn]; rfl) (by
       rw [e1]
       show (a.ts.set i _).map dn = _
       rw [dn_set, ← hd]
       exact congrArg _ (dn_true hdone)) (fun j o2 g2 hj hne => by
       by_cases hji : i = j
       · subst hji
         rw [hx1] at hj
         cases hj
         exact absurd hdone hne
       · rw [aft_at a hji] at hj
         exact hg j o2 g2 hj hne)
     exact ⟨x, r, .step hs h1, h2, h3⟩
   · have hsw : stt o [(a.get o.pl, true)] = .swap (a.get o.pl) := (stt_snoc o [] _ _).trans (if_neg (by
       rintro (⟨_, h5⟩ | h5)
       · exact absurd h5 (by decide)
       · exact hn h5))
     have hget : (a.aft i).get o.pl = a.get o.pl := by rw [e1]; rfl
     have e2 := aft_good hx1 hsw hget
     have hs1 : i ∈ (a.aft i).steps := mem_steps.2 ⟨o, _, hx1, fun e => by rw [hsw] at e; cases e⟩
     have ha2 := (aft_next ha1 hs1).1
     have hdone : stt o ([(a.get o.pl, true)] ++ [(a.get o.pl, true)]) = .done := (stt_snoc o [(a.get o.pl, true)] _ _).trans (if_pos (.inl ⟨rfl, Nat.le_refl _⟩))
     have hts : ((a.aft i).aft i).ts = a.ts.set i (o, [(a.get o.pl, true)] ++ [(a.get o.pl, true)]) := by
       rw [e2]
       show ((a.aft i).put _ _).ts.set i _ = _
       rw [put_ts, e1]
       show (a.ts.set i _).set i _ = _
       rw [List.set_set]
     obtain ⟨x, r, h1, h2, h3⟩ := ih ((a.aft i).aft i) ha2 (by
       rw [e2, ← hw, ap_get, e1]
       unfold Wd.put Wd.tell
       cases o.pl <;> rfl) (by
       rw [hts, dn_set, ← hd]
       exact congrArg _ (dn_true hdone)) (fun j o2 g2 hj hne => by
       by_cases hji : i = j
       · subst hji
         rw [hts, List.getElem?_set_self hi] at hj
         cases hj
         exact absurd hdone hne
       · rw [aft_at _ hji, aft_at a hji] at hj
         exact hg j o2 g2 hj hne)
     exact ⟨x, r, .step hs (.step hs1 h1), h2, h3⟩
end Sim.Tx
namespace Sim.Tx
open Go Go.Vc Sim
def begin (w : Int × Int) (L : List AO) : Wd := ⟨w.1, w.2, L.map fun o => (o, [])⟩
theorem begin_of (w : Int × Int) {L : List AO} (h : L.length ≤ 3) : Of L (begin w L) := by
 refine ⟨?_, h⟩
 unfold begin
 rw [List.map_map]
 exact List.map_id' L
def none' (L : List AO) : List Bool := List.replicate L.length false
theorem begin_dn (w : Int × Int) (L : List AO) : (begin w L).ts.map dn = none' L := by
 unfold begin none'
 rw [List.map_map]
 induction L with
 | nil => rfl
 | cons o L ih =>
   rw [List.map_cons, ih, List.length_cons, List.replicate_succ]
   rfl
theorem explored {w : Int × Int} {L : List AO} (hL : L.length ≤ 3) {n m : Nat} {S : List ByteArray × List ByteArray} {T : List (ByteArray × List Nat) × List ByteArray}
   (h1 : All gr n (begin w L) ([], []) S) (h2 : Some' gr m (begin w L) [] ([], []) T) :
   (∀ o, o ∈ S.2 ↔ o ∈ T.2) ∧ (∀ o ∈ S.2, ∃ f r, Ord L (none' L) w f ∧ o = wtext f.1 f.2 ++ r ∧ Rest r) ∧ ∀ f, Ord L (none' L) w f → ∃ o ∈ S.2, ∃ r, o = wtext f.1 f.2 ++ r ∧ Rest r := by
 obtain ⟨e1, e2⟩ := both (gr_ok L) (begin_of w hL) h1 h2
 refine ⟨fun o => (e1 o).trans (e2 o).symm, fun o ho => ?_, fun f hf => ?_⟩
 · obtain ⟨f, r, h3, h4, h5⟩ := ends_ord ((e1 o).1 ho) (begin_of w hL)
   rw [begin_dn] at h3
   exact ⟨f, r, h3, h4, h5⟩
 · obtain ⟨x, r, h3, h4, h5⟩ := ord_ends hf (begin w L) (begin_of w hL) rfl (begin_dn w L) (fun i o g hx _ => by
     have hx : (L.map fun o => (o, ([] : Gots)))[i]? = some (o, g) := hx
     rw [List.getElem?_map] at hx
     cases hl : L[i]? with
     | none => rw [hl] at hx; cases hx
     | some z => rw [hl] at hx; cases hx; rfl)
   exact ⟨x, (e1 x).2 h3, r, h4, h5⟩
end Sim.Tx
namespace Sim.Tx
variable {A : Type} (g : Gr A)
def AllF (most : Nat) : Nat → A → List ByteArray × List ByteArray → Prop
 | 0, _, _ => False
 | n + 1, a, S => ∃ x, g.fit x a ∧ x ∉ S.1 ∧ (most < S.1.length + 1 ∨ ∃ l1 s l2 S1, g.st a = l1 ++ s :: l2 ∧ Kids g (All g n) a l1 (x :: S.1, toldBy g a S.2) S1 ∧ AllF most n (g.aft a s) S1)
variable {g}
theorem Kids.snoc {R : A → List ByteArray × List ByteArray → List ByteArray × List ByteArray → Prop} {a : A} {s : Nat} {S1 S' : List ByteArray × List ByteArray} (h2 : R (g.aft a s) S1 S') : ∀ {l : List Nat} {S : List ByteArray × List ByteArray}, Kids g R a l S S1 → Kids g R a (l ++ [s]) S S'
 | [], S, h => by
   have h : S1 = S := h
   subst h
   exact ⟨S', h2, rfl⟩
 | _ :: _, _, ⟨S2, h3, h4⟩ => ⟨S2, h3, Kids.snoc h2 h4⟩
end Sim.Tx
namespace Sim.Tx
open Go Go.Vc Sim
theorem lookG_isSome {κ : Type} [DecidableEq κ] : ∀ (ml : GM κ) (x : κ), (lookG ml x).isSome = decide (x ∈ ml.map (·.1))
 | [], _ => rfl
 | (k, v) :: l, x => by
   simp only [lookG]
   by_cases e : k = x
   · subst e; simp
   · have e' : ¬ x = k := fun h => e h.symm
     rw [if_neg e, lookG_isSome l x]
     simp [e']
theorem lookG_in {κ : Type} [DecidableEq κ] {ml : GM κ} {x : κ} (h : x ∈ ml.map (·.1)) : (lookG ml x).isSome = true := by rw [lookG_isSome]; exact decide_eq_true h
theorem lookG_out {κ : Type} [DecidableEq κ] {ml : GM κ} {x : κ} (h : x ∉ ml.map (·.1)) : (lookG ml x).isSome = false := by rw [lookG_isSome]; exact decide_eq_false h
theorem insG_new_len {κ : Type} [DecidableEq κ] {ml : GM κ} {x : κ} {v : Value} (h : x ∉ ml.map (·.1)) : (insG ml x v).length = ml.length + 1 := by
 have h1 := insG_fst v ml x
 rw [if_neg h] at h1
 have := congrArg List.length h1
 simpa using this
theorem insG_len {κ : Type} [DecidableEq κ] (ml : GM κ) (x : κ) (v : Value) : (insG ml x v).length ≤ ml.length + 1 := by
 by_cases h : x ∈ ml.map (·.1)
 · have h1 := insG_fst v ml x
   rw [if_pos h] at h1
   have := congrArg List.length h1
   simp at this
   omega
 · rw [insG_new_len h]; exact Nat.le_refl _
theorem insG_keys {κ : Type} [DecidableEq κ] (ml : GM κ) (x : κ) (v : Value) (y : κ) : y ∈ (insG ml x v).map (·.1) ↔ y = x ∨ y ∈ ml.map (·.1) := by
 rw [insG_fst]
 split
 · rename_i h
   exact ⟨.inr, fun hy => hy.elim (fun e => e ▸ h) id⟩
 · rw [List.mem_append, List.mem_singleton]
   exact Or.comm
theorem insG_nodup {κ : Type} [DecidableEq κ] {ml : GM κ} (h : (ml.map (·.1)).Nodup) (x : κ) (v : Value) : ((insG ml x v).map (·.1)).Nodup := by
 rw [insG_fst]
 split
 · exact h
 · rename_i hn
   exact List.nodup_append.2 ⟨h, List.nodup_cons.2 ⟨by simp, List.nodup_nil⟩, fun a ha b hb e => by
     rw [List.mem_singleton.1 hb] at e; subst e; exact hn ha⟩
theorem split_at {α : Type} : ∀ {l : List α} {i : Nat} {x : α}, l[i]? = some x → l = l.take i ++ x :: l.drop (i + 1)
 | [], _, _, h => by simp at h
 | y :: l, 0, x, h => by simp at h; subst h; rfl
 | y :: l, i + 1, x, h => by
   have h : l[i]? = some x := by simpa using h
   have := split_at h
   simp only [List.take_succ_cons, List.drop_succ_cons, List.cons_append]
   rw [← this]
structure Rel (ml mf : GM ByteArray) (S : List ByteArray × List ByteArray) : Prop where
 seen : ∀ x, x ∈ ml.map (·.1) ↔ x ∈ S.1
 len : ml.length = S.1.length
 found : ∀ o, o ∈ mf.map (·.1) ↔ o ∈ S.2
 nd : (mf.map (·.1)).Nodup
 few : mf.length ≤ ml.length
theorem Rel.nil : Rel [] [] ([], []) := ⟨fun _ => Iff.rfl, rfl, fun _ => Iff.rfl, List.nodup_nil, Nat.le_refl _⟩
theorem Rel.add {ml mf : GM ByteArray} {S : List ByteArray × List ByteArray} (h : Rel ml mf S) {x : ByteArray} (hx : x ∉ S.1) (v : Value) : Rel (insG ml x v) mf (x :: S.1, S.2) := by
 have hn : x ∉ ml.map (·.1) := fun hm => hx ((h.seen x).1 hm)
 refine ⟨fun y => ?_, ?_, h.found, h.nd, ?_⟩
 · rw [insG_keys, List.mem_cons, h.seen]
 · rw [insG_new_len hn, h.len]; rfl
 · rw [insG_new_len hn]; have := h.few; omega
theorem Rel.tell {ml mf : GM ByteArray} {S : List ByteArray × List ByteArray} (h : Rel ml mf S) {x : ByteArray} (hx : x ∉ S.1) (v : Value) (o : ByteArray) : Rel (insG ml x v) (insG mf o (.bool true)) (x :: S.1, o :: S.2) := by
 have hn : x ∉ ml.map (·.1) := fun hm => hx ((h.seen x).1 hm)
 refine ⟨fun y => ?_, ?_, fun y => ?_, insG_nodup h.nd _ _, ?_⟩
 · rw [insG_keys, List.mem_cons, h.seen]
 · rw [insG_new_len hn, h.len]; rfl
 · rw [insG_keys, List.mem_cons, h.found]
 · rw [insG_new_len hn]; have := h.few; have := insG_len mf o (.bool true); omega
end Sim.Tx
namespace Go.Proofs.YtikackodhiollaaGreatDoor
open Go.Vc Sim Sim.Tx
set_option maxHeartbeats 8000000
def AllFn (w0 : World) (sh : Shared) (kb rs rf most : Nat) (n : Nat) (W : WoS) (a : Tx.Wd) (ml mf : GM ByteArray) (S : List ByteArray × List ByteArray) : Prop :=
 Vc.Fn PP w0 sh 17 [.pointer (some ⟨kb, 0, none⟩), woV W] [MapG kvS rs ml, MapG kvS rf mf]
   (fun r Γ => ∃ q ml' mf' S', r = .bool q ∧ (q = true → Tx.All gr n a S S' ∧ Rel ml' mf' S' ∧ ml'.length ≤ most) ∧ (q = false → AllF gr most n a S) ∧ Γ = [MapG kvS rs ml', MapG kvS rf mf'])
theorem exAll (w0 : World) (ht : TabOk w0) (L : List AO) (kb rs rf most : Nat) (hmost : most ≤ 10000) : ∀ (n : Nat) (sh : Shared) (W : WoS) (a : Tx.Wd) (cnt : Nat) (ml mf : GM ByteArray) (S : List ByteArray × List ByteArray), Of L a → a.mu < n → cnt + 2 * n ≤ 900 →
   RdWo w0 sh W a cnt → (kb, wkO most rs rf) ∈ sh → Rel ml mf S → ml.length ≤ most → AllFn w0 sh kb rs rf most n W a ml mf S
 | 0, _, _, _, _, _, _, _, _, h, _, _, _, _, _ => absurd h (Nat.not_lt_zero _)
 | n + 1, sh, W, a, cnt, ml, mf, S, hL, hmu, hcn, hW, hk, hR, hml => by
   unfold AllFn
   have hK := exKey w0 ht sh W a cnt (by omega) hW
   unfold KeyF at hK
   have hSt := exSteps w0 sh W a cnt hW
   have hO := exOutcome w0 ht sh W a cnt (by omega) hW
   have hA := fun i hi => exAfter w0 sh W a cnt (by omega) hW i hi
   dsimp only [woV] at hK hSt hO hA ⊢
   refine zep en17 fn17 rfl rfl rfl ?_
   repeat (first|refine zck ?_|refine zcl ?_|refine zcm ?_|refine zcn ?_)
   first|refine zcp (by kernel_rfl) ?_|refine zcq PP_mixed (by kernel_rfl) (by kernel_rfl) ?_
   repeat' (refine zap rfl ?_; first|refine zaq (cs := [_, _, _, _, _, _, _, _, _]) rfl (fun t3 => ?_)|refine zan rfl ?_)
   all_goals (refine zch ?_; repeat (first|refine zck ?_|refine zcl ?_|refine zcm ?_|refine zcn ?_))
   refine zeb [2] rfl ?_
   repeat (first|refine zck ?_|refine zcl ?_|refine zcm ?_|refine zcn ?_)
   first|refine zcp (by kernel_rfl) ?_|refine zcq PP_mixed (by kernel_rfl) (by kernel_rfl) ?_
   repeat' (refine zap rfl ?_; first|refine zan rfl ?_|refine zaa 0 rfl rfl rfl ?_|(refine zai [] hK rfl rfl rfl (fun p hp => .tail _ hp) ?_; rintro v Γ ⟨x, hx, rfl, rfl⟩))
   all_goals (refine zch ?_; repeat (first|refine zck ?_|refine zcl ?_|refine zcm ?_|refine zcn ?_))
   repeat (first|refine zck ?_|refine zcl ?_|refine zcm ?_|refine zcn ?_|refine zco ?_)
   repeat (first|refine zck ?_|refine zcl ?_|refine zcm ?_|refine zcn ?_)
   first|refine zcp (by kernel_rfl) ?_|refine zcq PP_mixed (by kernel_rfl) (by kernel_rfl) ?_
   repeat' (refine zap rfl ?_; first|refine zad rfl (fun hF Γ w g1 g2 => (g2.frame (g1 _ (.tail _ hk))).2) (show rd false 1 [Value.int .i64 most, Value.map (some rs), Value.map (some rf)] 1 = some _ from rfl) ?_|refine reg_lookupG (kv := kvS) (a := x) 0 rfl rfl rfl rfl ?_|refine zan rfl ?_|refine zao rfl ?_)
   all_goals (refine zch ?_; repeat (first|refine zck ?_|refine zcl ?_|refine zcm ?_|refine zcn ?_))
   repeat (first|refine zck ?_|refine zcl ?_|refine zcm ?_|refine zcn ?_|refine zco ?_)
   repeat (first|refine zck ?_|refine zcl ?_|refine zcm ?_|refine zcn ?_)
   first|refine zcp (by kernel_rfl) ?_|refine zcq PP_mixed (by kernel_rfl) (by kernel_rfl) ?_
   repeat' (refine zap rfl ?_; first|refine zan rfl ?_)
   all_goals (refine zch ?_; repeat (first|refine zck ?_|refine zcl ?_|refine zcm ?_|refine zcn ?_))
   by_cases hxs : x ∈ S.1
   · refine zci (by show Value.bool (lookG ml x).isSome = _; rw [lookG_in ((hR.seen x).2 hxs)]) ?_
     repeat (first|refine zck ?_|refine zcl ?_|refine zcm ?_|refine zcn ?_|refine zco ?_)
     repeat (first|refine zck ?_|refine zcl ?_|refine zcm ?_|refine zcn ?_)
     first|refine zcp (by kernel_rfl) ?_|refine zcq PP_mixed (by kernel_rfl) (by kernel_rfl) ?_
     repeat' (refine zap rfl ?_; first|refine zan rfl ?_)
     all_goals (refine zch ?_; repeat (first|refine zck ?_|refine zcl ?_|refine zcm ?_|refine zcn ?_))
     exact zej rfl ⟨true, ml, mf, S, rfl, (fun _ => ⟨⟨x, hx, .inl ⟨hxs, rfl⟩⟩, hR, hml⟩), (fun h => by cases h), rfl⟩
   · have hxm : x ∉ ml.map (·.1) := fun hm => hxs ((hR.seen x).1 hm)
     refine zcj (by show Value.bool (lookG ml x).isSome = _; rw [lookG_out hxm]) ?_
     repeat (first|refine zck ?_|refine zcl ?_|refine zcm ?_|refine zcn ?_|refine zco ?_)
     repeat (first|refine zck ?_|refine zcl ?_|refine zcm ?_|refine zcn ?_)
     first|refine zcp (by kernel_rfl) ?_|refine zcq PP_mixed (by kernel_rfl) (by kernel_rfl) ?_
     repeat' (refine zap rfl ?_; first|refine zad rfl (fun hF Γ w g1 g2 => (g2.frame (g1 _ (.tail _ hk))).2) (show rd false 1 [Value.int .i64 most, Value.map (some rs), Value.map (some rf)] 1 = some _ from rfl) ?_|refine reg_mapUpdateG (kv := kvS) (a := x) 0 rfl rfl rfl rfl rfl ?_|refine zan rfl ?_|refine zao rfl ?_)
     all_goals (refine zch ?_; repeat (first|refine zck ?_|refine zcl ?_|refine zcm ?_|refine zcn ?_))
     repeat (first|refine zck ?_|refine zcl ?_|refine zcm ?_|refine zcn ?_|refine zco ?_)
     refine run_draw [.quiet, .quiet, .quiet, .quiet, .read, .quiet, .quiet, .quiet, .quiet, .quiet] PP_mixed (by kernel_rfl) (by kernel_rfl) ?_
     repeat' (refine zap rfl ?_; first|refine zad rfl (fun hF Γ w g1 g2 => (g2.frame (g1 _ (.tail _ hk))).2) (show rd false 1 [Value.int .i64 most, Value.map (some rs), Value.map (some rf)] 1 = some _ from rfl) ?_|refine zad rfl (fun hF Γ w g1 g2 => (g2.frame (g1 _ (.tail _ hk))).2) (show rd false 1 [Value.int .i64 most, Value.map (some rs), Value.map (some rf)] 0 = some _ from rfl) ?_|refine zbs rfl rfl ?_|refine zan rfl ?_|refine reg_lenG (kv := kvS) 0 rfl rfl ?_|refine zao rfl ?_)
     refine zch ?_
     rw [insG_new_len hxm]
     by_cases hbig : most < ml.length + 1
     · have hbig2 : (most : Int) < ((ml.length + 1 : Nat) : Int) := by omega
       refine zci (congrArg Value.bool (decide_eq_true hbig2)) ?_
       repeat (first|refine zck ?_|refine zcl ?_|refine zcm ?_|refine zcn ?_|refine zco ?_)
       repeat (first|refine zck ?_|refine zcl ?_|refine zcm ?_|refine zcn ?_)
       first|refine zcp (by kernel_rfl) ?_|refine zcq PP_mixed (by kernel_rfl) (by kernel_rfl) ?_
       repeat' (refine zap rfl ?_; first|refine zan rfl ?_)
       all_goals (refine zch ?_; repeat (first|refine zck ?_|refine zcl ?_|refine zcm ?_|refine zcn ?_))
       have hlen := hR.len
       exact zej rfl ⟨false, _, mf, S, rfl, (fun h => by cases h), (fun _ => ⟨x, hx, hxs, .inl (by rw [← hlen]; exact hbig)⟩), rfl⟩
     have hbig2 : ¬ (most : Int) < ((ml.length + 1 : Nat) : Int) := by omega
     refine zcj (congrArg Value.bool (decide_eq_false hbig2)) ?_
     repeat (first|refine zck ?_|refine zcl ?_|refine zcm ?_|refine zcn ?_|refine zco ?_)
     repeat (first|refine zck ?_|refine zcl ?_|refine zcm ?_|refine zcn ?_)
     first|refine zcp (by kernel_rfl) ?_|refine zcq PP_mixed (by kernel_rfl) (by kernel_rfl) ?_
     repeat' (refine zap rfl ?_; first|refine zan rfl ?_|refine zaa 0 rfl rfl rfl ?_|(refine zai [] hSt rfl rfl rfl (fun p hp => .tail _ hp) ?_; rintro v Γ ⟨ad, c, rfl, rfl⟩))
     all_goals (refine zch ?_; repeat (first|refine zck ?_|refine zcl ?_|refine zcm ?_|refine zcn ?_))
     repeat (first|refine zck ?_|refine zcl ?_|refine zcm ?_|refine zcn ?_|refine zco ?_)
     repeat (first|refine zck ?_|refine zcl ?_|refine zcm ?_|refine zcn ?_)
     first|refine zcp (by kernel_rfl) ?_|refine zcq PP_mixed (by kernel_rfl) (by kernel_rfl) ?_
     repeat' (refine zap rfl ?_; first|refine zan rfl ?_|refine zce rfl ?_|refine zbo rfl rfl ?_)
     all_goals (refine zch ?_; repeat (first|refine zck ?_|refine zcl ?_|refine zcm ?_|refine zcn ?_))
     have hS1 := hR
     cases hst : a.steps with
     | nil =>
       refine zci (congrArg Value.bool (decide_eq_true (by show ((0 : Nat) : Int) = 0; rfl))) ?_
       repeat (first|refine zck ?_|refine zcl ?_|refine zcm ?_|refine zcn ?_|refine zco ?_)
       refine run_draw [.quiet, .quiet, .quiet, .quiet, .quiet, .loud, .loud] PP_mixed (by kernel_rfl) (by kernel_rfl) ?_
       repeat' (refine zap rfl ?_; first|refine zad rfl (fun hF Γ w g1 g2 => (g2.frame (g1 _ (.tail _ hk))).2) (show rd false 1 [Value.int .i64 most, Value.map (some rs), Value.map (some rf)] 2 = some _ from rfl) ?_|refine reg_mapUpdateG (kv := kvS) (a := a.out) 2 rfl rfl rfl rfl rfl ?_|refine zan rfl ?_|refine zaa 0 rfl rfl rfl ?_|refine zah [] hO rfl rfl rfl (fun p hp => .tail _ hp) rfl ?_|refine zao rfl ?_)
       refine zch ?_
       repeat (first|refine zck ?_|refine zcl ?_|refine zcm ?_|refine zcn ?_|refine zco ?_)
       repeat (first|refine zck ?_|refine zcl ?_|refine zcm ?_|refine zcn ?_)
       first|refine zcp (by kernel_rfl) ?_|refine zcq PP_mixed (by kernel_rfl) (by kernel_rfl) ?_
       repeat' (refine zap rfl ?_; first|refine zan rfl ?_|refine zce rfl ?_)
       all_goals (refine zch ?_; repeat (first|refine zck ?_|refine zcl ?_|refine zcm ?_|refine zcn ?_))
       refine zet ?_
       repeat (first|refine zck ?_|refine zcl ?_|refine zcm ?_|refine zcn ?_|refine zco ?_)
       repeat (first|refine zck ?_|refine zcl ?_|refine zcm ?_|refine zcn ?_)
       first|refine zcp (by kernel_rfl) ?_|refine zcq PP_mixed (by kernel_rfl) (by kernel_rfl) ?_
       repeat' (refine zap rfl ?_; first|refine zbq rfl rfl ?_)
       all_goals (refine zch ?_; repeat (first|refine zck ?_|refine zcl ?_|refine zcm ?_|refine zcn ?_))
       refine zcj rfl ?_
       refine zcs rfl ?_
       repeat (first|refine zck ?_|refine zcl ?_|refine zcm ?_|refine zcn ?_|refine zco ?_)
       refine zec [1, 1] rfl ?_
       repeat (first|refine zck ?_|refine zcl ?_|refine zcm ?_|refine zcn ?_)
       first|refine zcp (by kernel_rfl) ?_|refine zcq PP_mixed (by kernel_rfl) (by kernel_rfl) ?_
       repeat' (refine zap rfl ?_; first|refine zan rfl ?_)
       all_goals (refine zch ?_; repeat (first|refine zck ?_|refine zcl ?_|refine zcm ?_|refine zcn ?_))
       have hto : toldBy gr a S.2 = a.out :: S.2 := by unfold toldBy; rw [if_pos (show gr.st a = [] from hst)]; rfl
       exact zej rfl ⟨true, insG ml x (.slice none 0 0), insG mf a.out (.bool true), (x :: S.1, a.out :: S.2), rfl, (fun _ => ⟨⟨x, hx, .inr ⟨hxs, by rw [show gr.st a = [] from hst, hto]; rfl⟩⟩, hR.tell hxs _ _, by rw [insG_new_len hxm]; omega⟩), (fun h => by cases h), rfl⟩
     | cons s0 l0 =>
       rw [← hst]
       have hne : a.steps ≠ [] := by rw [hst]; exact fun h => by cases h
       have hlen0 : a.steps.length ≠ 0 := fun h => hne (List.length_eq_zero_iff.1 h)
       refine zcj (congrArg Value.bool (decide_eq_false (by show ¬ ((a.steps.length : Nat) : Int) = 0; omega))) ?_
       repeat (first|refine zck ?_|refine zcl ?_|refine zcm ?_|refine zcn ?_|refine zco ?_)
       repeat (first|refine zck ?_|refine zcl ?_|refine zcm ?_|refine zcn ?_)
       first|refine zcp (by kernel_rfl) ?_|refine zcq PP_mixed (by kernel_rfl) (by kernel_rfl) ?_
       repeat' (refine zap rfl ?_; first|refine zan rfl ?_|refine zce rfl ?_)
       all_goals (refine zch ?_; repeat (first|refine zck ?_|refine zcl ?_|refine zcm ?_|refine zcn ?_))
       refine run_shareP [0] (fun s => RdCl w0 s 2 ad a.steps.length (a.steps.flatMap stE) ∧ a.steps.length ≤ c) RdO.ofCl rfl ?_
       intro bl hs hsc
       have hrs : RdSl w0 _ stE 2 (.slice ad a.steps.length c) a.steps := RdCl.sl (fun _ _ => rfl) hsc.1 hsc.2
       have up : ∀ p ∈ sh, p ∈ _ := fun p hp => hs p (List.Mem.tail _ hp)
       have hs3 : a.steps.length ≤ 3 := by have h1 := hW.few; have h2 : a.steps.length ≤ (List.range a.ts.length).length := List.length_filter_le _ _; rw [List.length_range] at h2; omega
       have hto : toldBy gr a S.2 = S.2 := by unfold toldBy; rw [if_neg (show ¬ gr.st a = [] from hne)]
       have hR2 := hR.add hxs (.slice none 0 0)
       refine run_loop (S := Nat × GM ByteArray × GM ByteArray × (List ByteArray × List ByteArray)) (fun s => [(0, .pointer (some ⟨kb, 0, none⟩)), (3, .pointer (some ⟨t3, 0, none⟩)), (49, .slice ad a.steps.length c), (50, .int .i64 a.steps.length), (51, .int .i64 s.1)])
         (fun s Γ => Γ = [MapG kvS rs s.2.1, MapG kvS rf s.2.2.1] ∧ s.1 ≤ a.steps.length ∧ Tx.Kids gr (Tx.All gr n) a (a.steps.take s.1) (x :: S.1, S.2) s.2.2.2 ∧ Rel s.2.1 s.2.2.1 s.2.2.2 ∧ s.2.1.length ≤ most)
         (fun s => a.steps.length - s.1) (0, _, mf, (x :: S.1, S.2)) ⟨rfl, rfl, rfl, rfl, rfl, trivial⟩ ⟨rfl, Nat.zero_le _, rfl, hR2, by rw [insG_new_len hxm]; omega⟩ ?_
       rintro ⟨j, ml1, mf1, S1⟩ Γ junk ⟨rfl, hj, hK1, hR1, hm1⟩
       dsimp only at hj hK1 hR1 hm1 ⊢
       by_cases he : j = a.steps.length
       · subst he
         repeat (first|refine zck ?_|refine zcl ?_|refine zcm ?_|refine zcn ?_)
         first|refine zcp (by kernel_rfl) ?_|refine zcq PP_mixed (by kernel_rfl) (by kernel_rfl) ?_
         repeat' (refine zap rfl ?_; first|refine zbh rfl rfl (by omega) ?_)
         all_goals (refine zch ?_; repeat (first|refine zck ?_|refine zcl ?_|refine zcm ?_|refine zcn ?_))
         refine zcj rfl ?_
         refine zer rfl rfl ?_
         repeat (first|refine zck ?_|refine zcl ?_|refine zcm ?_|refine zcn ?_|refine zco ?_)
         repeat (first|refine zck ?_|refine zcl ?_|refine zcm ?_|refine zcn ?_)
         first|refine zcp (by kernel_rfl) ?_|refine zcq PP_mixed (by kernel_rfl) (by kernel_rfl) ?_
         repeat' (refine zap rfl ?_; first|refine zan rfl ?_)
         all_goals (refine zch ?_; repeat (first|refine zck ?_|refine zcl ?_|refine zcm ?_|refine zcn ?_))
         rw [List.take_length] at hK1
         exact zej rfl ⟨true, ml1, mf1, S1, rfl, (fun _ => ⟨⟨x, hx, .inr ⟨hxs, by rw [hto]; exact hK1⟩⟩, hR1, hm1⟩), (fun h => by cases h), rfl⟩
       · obtain ⟨i, hi⟩ : ∃ i, a.steps[j]? = some i := ⟨_, List.getElem?_eq_getElem (by omega)⟩
         have him : i ∈ a.steps := List.mem_of_getElem? hi
         obtain ⟨bb, off, cc, T, fr, ea, e2, e3, _⟩ := hrs.cells hi
         subst ea
         have hAi := hA i him
         have hn' := aft_next hL him
         repeat (first|refine zck ?_|refine zcl ?_|refine zcm ?_|refine zcn ?_)
         first|refine zcp (by kernel_rfl) ?_|refine zcq PP_mixed (by kernel_rfl) (by kernel_rfl) ?_
         repeat' (refine zap rfl ?_; first|refine zbg rfl rfl (by omega) ?_)
         all_goals (refine zch ?_; repeat (first|refine zck ?_|refine zcl ?_|refine zcm ?_|refine zcn ?_))
         refine zci rfl ?_
         repeat (first|refine zck ?_|refine zcl ?_|refine zcm ?_|refine zcn ?_|refine zco ?_)
         repeat (first|refine zck ?_|refine zcl ?_|refine zcm ?_|refine zcn ?_)
         first|refine zcp (by kernel_rfl) ?_|refine zcq PP_mixed (by kernel_rfl) (by kernel_rfl) ?_
         repeat' (refine zap rfl ?_; first|refine zas rfl rfl (by omega) ?_|refine zar (fun t10 => ?_)|refine zad rfl e2 (e3 _ (by omega)) ?_|refine zae 2 rfl rfl rfl rfl rfl rfl rfl ?_)
         all_goals (refine zch ?_; repeat (first|refine zck ?_|refine zcl ?_|refine zcm ?_|refine zcn ?_))
         repeat (first|refine zck ?_|refine zcl ?_|refine zcm ?_|refine zcn ?_|refine zco ?_)
         refine zeb [2] rfl ?_
         have hC0 := fun (W' : WoS) => Vc.Fn.lendA (w0 := w0) (sh := sh) (ψ := fun s => RdWo w0 s W' (a.aft i) (cnt + 2)) (Γ := [MapG kvS rs ml1, MapG kvS rf mf1]) en17 (fun _ h => h) (fun sh' hs' hψ => exAll w0 ht L kb rs rf most hmost n sh' W' (a.aft i) (cnt + 2) ml1 mf1 S1 hn'.1 (by omega) (by omega) hψ (hs' _ hk) hR1 hm1)
         repeat (first|refine zck ?_|refine zcl ?_|refine zcm ?_|refine zcn ?_)
         first|refine zcp (by kernel_rfl) ?_|refine zcq PP_mixed (by kernel_rfl) (by kernel_rfl) ?_
         repeat' (refine zap rfl ?_; first|refine zbx rfl ?_|refine zan rfl ?_|refine zaa 0 rfl rfl rfl ?_|refine zaa 1 rfl rfl rfl ?_|(refine zai [] hAi rfl rfl rfl (fun p hp => .tail _ (up p hp)) ?_; rintro v Γ ⟨W', rfl, rfl⟩)|(refine zai [0, 0, 0] (hC0 W') rfl rfl rfl (fun p hp => .tail _ (up p hp)) ?_; rintro v Γ ⟨Γ2, ⟨q, ml2, mf2, S2, rfl, hq1, hq2, rfl⟩, rfl⟩))
         all_goals (refine zch ?_; repeat (first|refine zck ?_|refine zcl ?_|refine zcm ?_|refine zcn ?_))
         have htk : a.steps.take (j + 1) = a.steps.take j ++ [i] := take_snoc hi
         cases q with
         | true =>
           obtain ⟨g1, g2, g3⟩ := hq1 rfl
           refine zcj rfl ?_
           repeat (first|refine zck ?_|refine zcl ?_|refine zcm ?_|refine zcn ?_|refine zco ?_)
           repeat (first|refine zck ?_|refine zcl ?_|refine zcm ?_|refine zcn ?_)
           first|refine zcp (by kernel_rfl) ?_|refine zcq PP_mixed (by kernel_rfl) (by kernel_rfl) ?_
           repeat' (refine zap rfl ?_; first|refine zan rfl ?_|refine zau rfl rfl (by omega) ?_)
           all_goals (refine zch ?_; repeat (first|refine zck ?_|refine zcl ?_|refine zcm ?_|refine zcn ?_))
           refine zec [0, 0] rfl ?_
           exact zeq ⟨rfl, (j + 1, ml2, mf2, S2), ⟨rfl, rfl, rfl, rfl, zes (by omega), trivial⟩, ⟨rfl, by dsimp only; omega, by dsimp only; rw [htk]; exact Kids.snoc g1 hK1, g2, g3⟩, by dsimp only; omega⟩
         | false =>
           refine zci rfl ?_
           repeat (first|refine zck ?_|refine zcl ?_|refine zcm ?_|refine zcn ?_|refine zco ?_)
           repeat (first|refine zck ?_|refine zcl ?_|refine zcm ?_|refine zcn ?_)
           first|refine zcp (by kernel_rfl) ?_|refine zcq PP_mixed (by kernel_rfl) (by kernel_rfl) ?_
           repeat' (refine zap rfl ?_; first|refine zan rfl ?_)
           all_goals (refine zch ?_; repeat (first|refine zck ?_|refine zcl ?_|refine zcm ?_|refine zcn ?_))
           refine zec [0, 0] rfl ?_
           have hsp : gr.st a = a.steps.take j ++ i :: a.steps.drop (j + 1) := (split_at hi)
           exact cut_ret (zek (zem rfl rfl ⟨false, ml2, mf2, S2, rfl, (fun h => by cases h), (fun _ => ⟨x, hx, hxs, .inr ⟨_, i, _, S1, hsp, by rw [hto]; exact hK1, hq2 rfl⟩⟩), rfl⟩))
end Go.Proofs.YtikackodhiollaaGreatDoor
namespace Go.Vc
theorem Stars.box {A : Asn} {l : List Asn} {g : Heap} (h : Stars (A :: l) g) : Stars [A, Stars l] g := by
 obtain ⟨g1, g2, hd, e, hA, hl⟩ := h
 exact ⟨g1, g2, hd, e, hA, Stars.one.2 hl⟩
theorem Stars.unbox {A : Asn} {l : List Asn} {g : Heap} (h : Stars [A, Stars l] g) : Stars (A :: l) g := by
 obtain ⟨g1, g2, hd, e, hA, hl⟩ := h
 exact ⟨g1, g2, hd, e, hA, Stars.one.1 hl⟩
theorem Stars.right {l m m' : List Asn} {g : Heap} (h : Stars (l ++ m) g) (hm : ∀ g, Stars m g → Stars m' g) : Stars (l ++ m') g := by
 obtain ⟨g1, g2, hd, e, hl, h2⟩ := Stars.append.1 h
 exact Stars.append.2 ⟨g1, g2, hd, e, hl, hm _ h2⟩
theorem RdO.list {sh : Shared} : ∀ {l : List (Asn × (Shared → Prop))}, (∀ p ∈ l, (∀ g, p.1 g → RdO sh p.2 g) ∧ ∀ s s', (∀ q ∈ s, q ∈ s') → p.2 s → p.2 s') → ∀ g, Stars (l.map (·.1)) g → RdO sh (fun s => ∀ p ∈ l, p.2 s) g
 | [], _, g, hg => by
   have hg : g = Heap.emp := hg
   subst hg
   exact RdO.emp fun p hp => by cases hp
 | p :: l, h, g, hg => by
   obtain ⟨g1, g2, hd, rfl, hA, hl⟩ := hg
   obtain ⟨bl1, h1, h2⟩ := (h p (.head _)).1 g1 hA
   obtain ⟨bl2, h3, h4⟩ := RdO.list (fun q hq => h q (.tail _ hq)) g2 hl
   refine ⟨bl1 ++ bl2, fun q hq => (List.mem_append.1 hq).elim (fun hq => or_left (h1 q hq)) (fun hq => or_right hd (h3 q hq)), fun q hq => ?_⟩
   rcases List.mem_cons.1 hq with rfl | hq
   · exact (h q (.head _)).2 _ _ (fun z hz => (List.mem_append.1 hz).elim (List.mem_append_left _) (fun hz => List.mem_append_right _ (List.mem_append_left _ hz))) h2
   · exact (h q (.tail _ hq)).2 _ _ (fun z hz => (List.mem_append.1 hz).elim (List.mem_append_left _) (fun hz => List.mem_append_right _ (List.mem_append_right _ hz))) (h4 q hq)
end Go.Vc
namespace Sim.Tx
open Go Go.Vc Sim
def cellsE (ms : List (Nat × GM Nat)) : List Value := (ms.map (·.1)).flatMap mapE
theorem cellsE_snoc (ms : List (Nat × GM Nat)) (p : Nat × GM Nat) : cellsE (ms ++ [p]) = cellsE ms ++ [.map (some p.1)] := by
 unfold cellsE
 rw [List.map_append, List.flatMap_append]
 rfl
def tn : Nat → Nat
 | 0 => 0
 | n + 1 => 1 + 3 * tn n
def getE (x : ByteArray) : List Ent → Ent
 | [] => ⟨x, none, 0, []⟩
 | e :: l => if e.x = x then e else getE x l
def putE (x : ByteArray) (a : Option Addr) (c : Nat) (p : Nat × GM Nat) : List Ent → List Ent
 | [] => [⟨x, a, c, [p]⟩]
 | e :: l => if e.x = x then ⟨x, a, c, e.ms ++ [p]⟩ :: l else e :: putE x a c p l
theorem getE_x (x : ByteArray) : ∀ l : List Ent, (getE x l).x = x
 | [] => rfl
 | e :: l => by
   unfold getE
   split
   · assumption
   · exact getE_x x l
theorem getE_look (x : ByteArray) : ∀ l : List Ent, (lookG (seenG l) x).getD (.slice none 0 0) = (getE x l).val
 | [] => rfl
 | e :: l => by
   have ih := getE_look x l
   unfold seenG at ih ⊢
   simp only [List.map_cons, lookG, getE]
   by_cases h : e.x = x
   · rw [if_pos h, if_pos h]; rfl
   · rw [if_neg h, if_neg h]; exact ih
theorem getE_in (x : ByteArray) : ∀ l : List Ent, getE x l ∈ l ∨ (getE x l).ms = []
 | [] => .inr rfl
 | e :: l => by
   unfold getE
   split
   · exact .inl (.head _)
   · exact (getE_in x l).imp (.tail _) id
theorem putE_seen (x : ByteArray) (a : Option Addr) (c : Nat) (p : Nat × GM Nat) : ∀ l : List Ent, seenG (putE x a c p l) = insG (seenG l) x (.slice a ((getE x l).ms.length + 1) c)
 | [] => rfl
 | e :: l => by
   have ih := putE_seen x a c p l
   unfold seenG at ih ⊢
   simp only [List.map_cons, insG, getE, putE]
   by_cases h : e.x = x
   · rw [if_pos h, if_pos h, if_pos h]
     simp only [List.map_cons, Ent.val, List.length_append, List.length_singleton, h]
   · rw [if_neg h, if_neg h, if_neg h, List.map_cons, ih]
theorem putE_mem (x : ByteArray) (a : Option Addr) (c : Nat) (p : Nat × GM Nat) : ∀ (l : List Ent) (e : Ent), e ∈ putE x a c p l → e ∈ l ∨ e = ⟨x, a, c, (getE x l).ms ++ [p]⟩
 | [], e, h => .inr (List.mem_singleton.1 h)
 | e' :: l, e, h => by
   unfold putE at h
   unfold getE
   by_cases hx : e'.x = x
   · rw [if_pos hx] at h ⊢
     rcases List.mem_cons.1 h with h | h
     · exact .inr h
     · exact .inl (.tail _ h)
   · rw [if_neg hx] at h ⊢
     rcases List.mem_cons.1 h with h | h
     · exact .inl (h ▸ .head _)
     · exact (putE_mem x a c p l e h).imp (.tail _) id
end Sim.Tx
namespace Go.Proofs.YtikackodhiollaaGreatDoor
variable (w0 : World)
open Go.Vc Sim Sim.Tx
def slE (a : Option Addr) (n c : Nat) (cs : List Value) : Asn := SlA 74 1 a n c cs
def entL (e : Ent) : List Asn := slE e.a e.ms.length e.c (cellsE e.ms) :: e.ms.map fun p => MapG kvT p.1 p.2
def restE (x : ByteArray) : List Ent → List Asn
 | [] => []
 | e :: l => if e.x = x then (e.ms.map fun p => MapG kvT p.1 p.2) ++ l.flatMap entL else entL e ++ restE x l
abbrev entsA (l : List Ent) : Asn := Stars (l.flatMap entL)
theorem ent_open (x : ByteArray) : ∀ (l : List Ent) (g : Heap), Stars (l.flatMap entL) g → Stars (slE (getE x l).a (getE x l).ms.length (getE x l).c (cellsE (getE x l).ms) :: restE x l) g
 | [], g, h => Stars.emp_cons SlA_nil h
 | e :: l, g, h => by
   unfold getE restE
   rw [List.flatMap_cons] at h
   by_cases hx : e.x = x
   · rw [if_pos hx, if_pos hx]; exact h
   · rw [if_neg hx, if_neg hx]
     have h2 := h.right (fun g hg => ent_open x l g hg)
     exact h2.perm List.perm_middle
theorem entL_snoc (x : ByteArray) (a : Option Addr) (c : Nat) (ms : List (Nat × GM Nat)) (p : Nat × GM Nat) : entL ⟨x, a, c, ms ++ [p]⟩ = slE a (ms.length + 1) c (cellsE ms ++ [.map (some p.1)]) :: ((ms.map fun p => MapG kvT p.1 p.2) ++ [MapG kvT p.1 p.2]) := by
 unfold entL
 dsimp only
 rw [cellsE_snoc, List.length_append, List.map_append]
 rfl
theorem ent_close (x : ByteArray) (a : Option Addr) (c : Nat) (p : Nat × GM Nat) : ∀ (l : List Ent) (g : Heap), Stars (slE a ((getE x l).ms.length + 1) c (cellsE (getE x l).ms ++ [.map (some p.1)]) :: MapG kvT p.1 p.2 :: restE x l) g → Stars ((putE x a c p l).flatMap entL) g
 | [], g, h => h
 | e :: l, g, h => by
   unfold getE restE at h
   unfold putE
   by_cases hx : e.x = x
   · rw [if_pos hx, if_pos hx] at h
     rw [if_pos hx, List.flatMap_cons]
     rw [entL_snoc, List.cons_append, List.append_assoc]
     exact Stars.perm (List.Perm.cons _ List.perm_middle.symm) h
   · rw [if_neg hx, if_neg hx] at h
     rw [if_neg hx, List.flatMap_cons]
     refine Stars.right ?_ (fun g hg => ent_close x a c p l g hg)
     exact Stars.perm (List.perm_middle.trans (List.Perm.cons _ List.perm_middle)).symm h
def entP (w0 : World) (e : Ent) : List (Asn × (Shared → Prop)) :=
 (slE e.a e.ms.length e.c (cellsE e.ms), fun s => RdSl w0 s mapE 1 (.slice e.a e.ms.length e.c) (e.ms.map (·.1))) :: e.ms.map fun p => (MapG kvT p.1 p.2, fun s => ∃ es clock, RdG kvT w0 s p.1 es clock p.2)
theorem entP_fst (e : Ent) : (entP w0 e).map (·.1) = entL e := by
 unfold entP entL
 rw [List.map_cons, List.map_map]
 rfl
theorem ents_rd (sh : Shared) (l : List Ent) (g : Heap) (h : Stars (l.flatMap entL) g) : RdO sh (fun s => ∀ e ∈ l, RdEnt w0 s e) g := by
 have key := RdO.list (sh := sh) (l := l.flatMap (entP w0)) (fun p hp => by
   obtain ⟨e, _, hp⟩ := List.mem_flatMap.1 hp
   unfold entP at hp
   rcases List.mem_cons.1 hp with rfl | hp
   · exact ⟨fun g hg => RdO.ofSl (T := 74) (encE := mapE) (q := 1) (a := e.a) (len := e.ms.length) (cap := e.c) (l := e.ms.map fun p : Nat × GM Nat => p.1) (fun _ _ => rfl) (by rw [List.length_map]) g hg, fun _ _ hs h => h.mono hs⟩
   · obtain ⟨q, _, rfl⟩ := List.mem_map.1 hp
     exact ⟨fun g hg => RdO.ofMap g hg, fun _ _ hs ⟨es, c, h⟩ => ⟨es, c, h.mono hs⟩⟩) g (by rw [List.map_flatMap]; simp only [entP_fst]; exact h)
 refine RdO.mono (fun s _ hs e he => ⟨?_, fun p hp => ?_⟩) g key
 · exact hs _ (List.mem_flatMap.2 ⟨e, he, .head _⟩)
 · exact hs (MapG kvT p.1 p.2, fun s => ∃ es clock, RdG kvT w0 s p.1 es clock p.2) (List.mem_flatMap.2 ⟨e, he, .tail _ (List.mem_map.2 ⟨p, hp, rfl⟩)⟩)
end Go.Proofs.YtikackodhiollaaGreatDoor
namespace Go.Proofs.YtikackodhiollaaGreatDoor
variable (w0 : World)
open Go.Vc Sim Sim.Tx
set_option maxHeartbeats 8000000
structure RelZ (L : List AO) (v : Nat) (ents : List Ent) (mf : GM ByteArray) (S : List (ByteArray × List Nat) × List ByteArray) : Prop where
 sets : ∀ e ∈ ents, e.ms.length ≤ v ∧ ∀ p ∈ e.ms, ∃ Z, StOk p.2 Z ∧ (e.x, Z) ∈ S.1
 found : ∀ o, o ∈ mf.map (·.1) ↔ o ∈ S.2
 nd : (mf.map (·.1)).Nodup
 few : mf.length ≤ ents.length
 outs : ∀ e ∈ ents, ∀ b, Of L b → gr.fit e.x b → gr.st b = [] → gr.out b ∈ mf.map (·.1)
theorem RelZ.nil (L : List AO) : RelZ L 0 [] [] ([], []) := ⟨fun e he => (by cases he), fun _ => Iff.rfl, List.nodup_nil, Nat.le_refl _, fun e he => (by cases he)⟩
theorem RelZ.more {L : List AO} {v v' : Nat} {ents : List Ent} {mf : GM ByteArray} {S : List (ByteArray × List Nat) × List ByteArray} (h : RelZ L v ents mf S) (hv : v ≤ v') : RelZ L v' ents mf S :=
 ⟨fun e he => ⟨Nat.le_trans (h.sets e he).1 hv, (h.sets e he).2⟩, h.found, h.nd, h.few, h.outs⟩
theorem insG_len_ge {κ : Type} [DecidableEq κ] (ml : GM κ) (x : κ) (v : Value) : ml.length ≤ (insG ml x v).length := by
 have h1 := congrArg List.length (insG_fst v ml x)
 rw [List.length_map] at h1
 rw [h1]
 split
 · rw [List.length_map]; exact Nat.le_refl _
 · rw [List.length_append, List.length_map]; exact Nat.le_add_right _ _
theorem putE_len (x : ByteArray) (a : Option Addr) (c : Nat) (p : Nat × GM Nat) (l : List Ent) : (putE x a c p l).length = (insG (seenG l) x (.slice a ((getE x l).ms.length + 1) c)).length := by
 rw [← putE_seen]
 unfold seenG
 rw [List.length_map]
theorem seenG_len (l : List Ent) : (seenG l).length = l.length := by unfold seenG; rw [List.length_map]
theorem seenG_keys (l : List Ent) : (seenG l).map (·.1) = l.map fun e => e.x := by unfold seenG; rw [List.map_map]; rfl
section
variable {L : List AO} {v : Nat} {ents : List Ent} {mf : GM ByteArray} {S : List (ByteArray × List Nat) × List ByteArray}
theorem RelZ.sets_put (h : RelZ L v ents mf S) (x : ByteArray) (ad : Option Addr) (c : Nat) (p : Nat × GM Nat) {Z : List Nat} (hp : StOk p.2 Z) :
   ∀ e ∈ putE x ad c p ents, e.ms.length ≤ v + 1 ∧ ∀ q ∈ e.ms, ∃ Z', StOk q.2 Z' ∧ (e.x, Z') ∈ (x, Z) :: S.1 := fun e he => by
 rcases putE_mem x ad c p ents e he with h1 | rfl
 · exact ⟨Nat.le_succ_of_le (h.sets e h1).1, fun q hq => let ⟨Z', h2, h3⟩ := (h.sets e h1).2 q hq; ⟨Z', h2, .tail _ h3⟩⟩
 · refine ⟨?_, fun q hq => ?_⟩
   · rw [List.length_append, List.length_singleton]
     rcases getE_in x ents with h1 | h1
     · exact Nat.succ_le_succ (h.sets _ h1).1
     · rw [h1]; exact Nat.succ_le_succ (Nat.zero_le _)
   · rcases List.mem_append.1 hq with hq | hq
     · rcases getE_in x ents with h1 | h1
       · obtain ⟨Z', h2, h3⟩ := (h.sets _ h1).2 q hq
         rw [getE_x] at h3
         exact ⟨Z', h2, .tail _ h3⟩
       · rw [h1] at hq; cases hq
     · rw [List.mem_singleton.1 hq]
       exact ⟨Z, hp, .head _⟩
theorem RelZ.put (h : RelZ L v ents mf S) {x : ByteArray} {a : Tx.Wd} (hL : Of L a) (hx : gr.fit x a) (hne : gr.st a ≠ []) (ad : Option Addr) (c : Nat) (p : Nat × GM Nat) {Z : List Nat} (hp : StOk p.2 Z) :
   RelZ L (v + 1) (putE x ad c p ents) mf ((x, Z) :: S.1, S.2) := by
 refine ⟨h.sets_put x ad c p hp, h.found, h.nd, ?_, fun e he b hb hf hs => ?_⟩
 · rw [putE_len]
   have h1 := insG_len_ge (seenG ents) x (.slice ad ((getE x ents).ms.length + 1) c)
   rw [seenG_len] at h1
   have := h.few
   omega
 · rcases putE_mem x ad c p ents e he with h1 | rfl
   · exact h.outs e h1 b hb hf hs
   · have := (gr_ok L).key x a b hL hb hx hf
     subst this
     exact absurd hs hne
theorem RelZ.tell (h : RelZ L v ents mf S) {x : ByteArray} {a : Tx.Wd} (hL : Of L a) (hx : gr.fit x a) (hst : gr.st a = []) (ad : Option Addr) (c : Nat) (p : Nat × GM Nat) {Z : List Nat} (hp : StOk p.2 Z) :
   RelZ L (v + 1) (putE x ad c p ents) (insG mf (gr.out a) (.bool true)) ((x, Z) :: S.1, gr.out a :: S.2) := by
 refine ⟨h.sets_put x ad c p hp, fun o => ?_, insG_nodup h.nd _ _, ?_, fun e he b hb hf hs => ?_⟩
 · rw [insG_keys, List.mem_cons, h.found]
 · rw [putE_len]
   have hf := h.few
   by_cases hk : x ∈ (seenG ents).map (·.1)
   · have h1 := insG_len_ge (seenG ents) x (.slice ad ((getE x ents).ms.length + 1) c)
     rw [seenG_len] at h1
     rw [seenG_keys] at hk
     obtain ⟨e, he, hex⟩ := List.mem_map.1 hk
     have ho := h.outs e he a hL (by rw [hex]; exact hx) hst
     have h2 := congrArg List.length (insG_fst (.bool true) mf (gr.out a))
     rw [if_pos ho, List.length_map, List.length_map] at h2
     omega
   · rw [insG_new_len hk, seenG_len]
     have := insG_len mf (gr.out a) (.bool true)
     omega
 · rw [insG_keys]
   rcases putE_mem x ad c p ents e he with h1 | rfl
   · exact .inr (h.outs e h1 b hb hf hs)
   · have := (gr_ok L).key x a b hL hb hx hf
     subst this
     exact .inl rfl
end
theorem slept_iff {a : Tx.Wd} {i : Nat} {left : List Nat} (hz : ∀ z ∈ left, z < a.ts.length) (z : Nat) : z ∈ left.filter (condZ a i) ↔ z ∈ slept gr a i left := by
 unfold slept
 rw [List.mem_filter, List.mem_filter]
 refine and_congr_right fun h => ?_
 have e : decide (z ∈ gr.st a) = a.live z := by
   have : z ∈ gr.st a ↔ a.live z = true := by
     show z ∈ a.steps ↔ _
     unfold Tx.Wd.steps
     rw [List.mem_filter, List.mem_range]
     exact ⟨fun h => h.2, fun h2 => ⟨hz z h, h2⟩⟩
   cases hl : a.live z with
   | true => exact decide_eq_true (this.2 hl)
   | false => exact decide_eq_false fun h3 => by rw [this.1 h3] at hl; cases hl
 rw [e]
 rfl
theorem aft_len {L : List AO} {a : Tx.Wd} {i : Nat} (hL : Of L a) (hi : i ∈ a.steps) : (a.aft i).ts.length = a.ts.length := by
 have h1 := congrArg List.length (aft_next hL hi).1.1
 have h2 := congrArg List.length hL.1
 rw [List.length_map] at h1 h2
 rw [h1, h2]
theorem cloneT_some (sh : Shared) (r : Nat) (es : List MapEntry) (clock : Nat) (ml : GM Nat) (hX : RdG kvT w0 sh r es clock ml) :
   Vc.Fn PP w0 sh 34 [.map (some r)] [] (fun v Γ => ∃ nb, v = .map (some nb) ∧ Γ = [MapG kvT nb ml]) := by
 refine zep en34 fn34 rfl rfl rfl ?_
 repeat (first|refine zck ?_|refine zcl ?_|refine zcm ?_|refine zcn ?_)
 first|refine zcp (by kernel_rfl) ?_|refine zcq PP_mixed (by kernel_rfl) (by kernel_rfl) ?_
 repeat' (refine zap rfl ?_; first|refine zan rfl ?_)
 all_goals (refine zch ?_; repeat (first|refine zck ?_|refine zcl ?_|refine zcm ?_|refine zcn ?_))
 first|refine zcp (by kernel_rfl) ?_|refine zcq PP_mixed (by kernel_rfl) (by kernel_rfl) ?_
 repeat' (refine zap rfl ?_; first|refine reg_eq_mapS rfl rfl ?_|refine zan rfl ?_)
 all_goals (refine zch ?_; repeat (first|refine zck ?_|refine zcl ?_|refine zcm ?_|refine zcn ?_))
 refine zcj rfl ?_
 repeat (first|refine zck ?_|refine zcl ?_|refine zcm ?_|refine zcn ?_)
 first|refine zcp (by kernel_rfl) ?_|refine zcq PP_mixed (by kernel_rfl) (by kernel_rfl) ?_
 repeat' (refine zap rfl ?_; first|refine reg_mkI (mk_map _) rfl ?_|refine reg_assertM rfl ?_|refine zan rfl ?_|refine reg_clone clone_ext rfl rfl hX (fun nb => ?_))
 all_goals (refine zch ?_; repeat (first|refine zck ?_|refine zcl ?_|refine zcm ?_|refine zcn ?_))
 exact zej rfl ⟨nb, rfl, rfl⟩
theorem cloneT_lent (sh : Shared) (r : Nat) (ml : GM Nat) :
   Vc.Fn PP w0 sh 34 [.map (some r)] [MapG kvT r ml] (fun v Γ => ∃ nb, v = .map (some nb) ∧ Γ = [MapG kvT nb ml, MapG kvT r ml]) :=
 Fn.mono (Vc.Fn.lendA (Γ := []) (ψ := fun s => ∃ es clock, RdG kvT w0 s r es clock ml) en34 RdO.ofMap (fun sh' _ ⟨es, clock, hX⟩ => cloneT_some w0 sh' r es clock ml hX))
   (fun _ _ ⟨_, ⟨nb, h1, h2⟩, h3⟩ => ⟨nb, h1, by rw [h3, h2]; rfl⟩)
theorem asleep_lent (sh : Shared) (W : WoS) (a : Tx.Wd) (cnt : Nat) (h : RdWo w0 sh W a cnt) (i : Nat) (hi : i ∈ a.steps) (r : Nat) (ml : GM Nat) (Z : List Nat) (hZ : StOk ml Z) (hzn : ∀ z ∈ Z, z < a.ts.length) :
   Vc.Fn PP w0 sh 35 [woV W, kvT i, .map (some r)] [MapG kvT r ml] (fun v Γ => ∃ nb mo, v = .map (some nb) ∧ StOk mo (Z.filter (condZ a i)) ∧ Γ = [MapG kvT nb mo, MapG kvT r ml]) :=
 Fn.mono (Vc.Fn.lendA (Γ := []) (ψ := fun s => ∃ es clock, RdG kvT w0 s r es clock ml) en35 RdO.ofMap (fun sh' hs' ⟨es, clock, hX⟩ => exAsleep w0 sh' W a cnt (h.mono hs' (Nat.le_refl _)) i hi r es clock ml Z hX hZ hzn))
   (fun _ _ ⟨_, ⟨nb, mo, h1, h2, h4⟩, h3⟩ => ⟨nb, mo, h1, h2, by rw [h3, h4]; rfl⟩)
theorem known_lent (sh : Shared) (kb rs rf : Nat) (most : Int) (hk : (kb, wkO most rs rf) ∈ sh) (ents : List Ent) (L : List AO) (v : Nat) (hv : v ≤ 2000000000) (mf : GM ByteArray) (S : List (ByteArray × List Nat) × List ByteArray) (hR : RelZ L v ents mf S)
   (r : Nat) (ml : GM Nat) (Z : List Nat) (hml : StOk ml Z) (x : ByteArray) :
   Vc.Fn PP w0 sh 33 [.pointer (some ⟨kb, 0, none⟩), .string x, .map (some r)] [entsA ents, MapG kvS rs (seenG ents), MapG kvT r ml] (fun v Γ => ∃ B, v = .bool B ∧ (B = true → ∃ old, (x, old) ∈ S.1 ∧ ∀ z ∈ old, z ∈ Z) ∧ Γ = [MapG kvT r ml, MapG kvS rs (seenG ents), entsA ents]) :=
 Fn.mono (Vc.Fn.lendA (Γ := [MapG kvS rs (seenG ents), MapG kvT r ml]) (ψ := fun s => ∀ e ∈ ents, RdEnt w0 s e) en33 (ents_rd w0 sh ents) (fun sh1 hs1 hE =>
   Vc.Fn.lendA (Γ := [MapG kvT r ml]) (ψ := fun s => ∃ es clock, RdG kvS w0 s rs es clock (seenG ents)) en33 RdO.ofMap (fun sh2 hs2 ⟨es, clock, hX⟩ =>
     Vc.Fn.lendA (Γ := []) (ψ := fun s => ∃ es clock, RdG kvT w0 s r es clock ml) en33 RdO.ofMap (fun sh3 hs3 ⟨es2, clock2, hX2⟩ =>
       exKnown w0 sh3 kb rs rf most (hs3 _ (hs2 _ (hs1 _ hk))) ents es clock (hX.mono hs3) (fun e he => ⟨⟨(hE e he).row.mono (fun p hp => hs3 _ (hs2 _ hp)), fun p hp => let ⟨es', c', h⟩ := (hE e he).sets p hp; ⟨es', c', h.mono (fun p hp => hs3 _ (hs2 _ hp))⟩⟩, Nat.le_trans (hR.sets e he).1 hv⟩)
         (fun e he p hp => let ⟨Z, h, _⟩ := (hR.sets e he).2 p hp; ⟨Z, h⟩) r es2 clock2 ml Z hX2 hml x))))
   (fun _ _ ⟨_, ⟨_, ⟨_, ⟨B, h1, h2, h3⟩, h4⟩, h5⟩, h6⟩ => ⟨B, h1, fun hB => by
     obtain ⟨e, he, hex, p, hp, hz⟩ := h2 hB
     obtain ⟨Z', g1, g2⟩ := (hR.sets e he).2 p hp
     exact ⟨Z', by rw [← hex]; exact g2, hz Z' g1⟩, by rw [h6, h5, h4, h3]; rfl⟩)
end Go.Proofs.YtikackodhiollaaGreatDoor
namespace Go.Proofs.YtikackodhiollaaGreatDoor
open Go.Vc Sim Sim.Tx
set_option maxHeartbeats 8000000
theorem drop_at {α : Type} : ∀ {l : List α} {j : Nat} {x : α}, l[j]? = some x → l.drop j = x :: l.drop (j + 1)
 | [], _, _, h => by simp at h
 | y :: l, 0, x, h => by simp at h; subst h; rfl
 | y :: l, j + 1, x, h => drop_at (l := l) (j := j) (by simpa using h)
theorem Stars.unbox2 {A B : Asn} {l : List Asn} {g : Heap} (h : Stars [A, B, Stars l] g) : Stars (A :: B :: l) g := by
 obtain ⟨g1, g2, hd, e, hA, hl⟩ := h
 exact ⟨g1, g2, hd, e, hA, Stars.unbox hl⟩
def SomeFn (w0 : World) (sh : Shared) (L : List AO) (kb rs rf most : Nat) (n v : Nat) (W : WoS) (a : Tx.Wd) (r : Nat) (mz : GM Nat) (Z : List Nat) (ents : List Ent) (mf : GM ByteArray) (S : List (ByteArray × List Nat) × List ByteArray) : Prop :=
 Vc.Fn PP w0 sh 18 [.pointer (some ⟨kb, 0, none⟩), woV W, .map (some r)] [entsA ents, MapG kvS rs (seenG ents), MapG kvS rf mf, MapG kvT r mz]
   (fun res Γ => ∃ q ents' mf', res = .bool q ∧ (q = true → ∃ S', Some' gr n a Z S S' ∧ RelZ L (v + tn n) ents' mf' S' ∧ ents'.length ≤ most) ∧ Γ = [entsA ents', MapG kvS rs (seenG ents'), MapG kvS rf mf'])
set_option maxRecDepth 20000 in
theorem exSome (w0 : World) (ht : TabOk w0) (L : List AO) (kb rs rf most : Nat) (hmost : most ≤ 10000) : ∀ (n v : Nat) (sh : Shared) (W : WoS) (a : Tx.Wd) (cnt : Nat) (r : Nat) (mz : GM Nat) (Z : List Nat) (ents : List Ent) (mf : GM ByteArray) (S : List (ByteArray × List Nat) × List ByteArray), Of L a → a.mu < n → cnt + 2 * n ≤ 900 →
   RdWo w0 sh W a cnt → (kb, wkO most rs rf) ∈ sh → StOk mz Z → (∀ z ∈ Z, z < a.ts.length) → RelZ L v ents mf S → ents.length ≤ most → v + tn n ≤ 2000000000 → SomeFn w0 sh L kb rs rf most n v W a r mz Z ents mf S
 | 0, _, _, _, _, _, _, _, _, _, _, _, _, h, _, _, _, _, _, _, _, _ => absurd h (Nat.not_lt_zero _)
 | n + 1, v, sh, W, a, cnt, r, mz, Z, ents, mf, S, hL, hmu, hcn, hW, hk, hZ, hzn, hR, hml, hv => by
   unfold SomeFn
   have hK := exKey w0 ht sh W a cnt (by omega) hW
   unfold KeyF at hK
   have hSt := exSteps w0 sh W a cnt hW
   have hO := exOutcome w0 ht sh W a cnt (by omega) hW
   have hA := fun i hi => exAfter w0 sh W a cnt (by omega) hW i hi
   have hAs := fun sh' hs' i hi r' ml' Z' hZ' hzn' => asleep_lent w0 sh' W a cnt (hW.mono (sh' := sh') hs' (Nat.le_refl _)) i hi r' ml' Z' hZ' hzn'
   have htn : tn (n + 1) = 1 + 3 * tn n := rfl
   have hv2 : v + 1 + 3 * tn n ≤ 2000000000 := by omega
   dsimp only [woV] at hK hSt hO hA hAs ⊢
   refine zep en18 fn18 rfl rfl rfl ?_
   repeat (first|refine zck ?_|refine zcl ?_|refine zcm ?_|refine zcn ?_)
   first|refine zcp (by kernel_rfl) ?_|refine zcq PP_mixed (by kernel_rfl) (by kernel_rfl) ?_
   repeat' (refine zap rfl ?_; first|refine zaq (cs := [_, _, _, _, _, _, _, _, _]) rfl (fun t4 => ?_)|refine zan rfl ?_)
   all_goals (refine zch ?_; repeat (first|refine zck ?_|refine zcl ?_|refine zcm ?_|refine zcn ?_))
   refine zeb [4] rfl ?_
   repeat (first|refine zck ?_|refine zcl ?_|refine zcm ?_|refine zcn ?_)
   first|refine zcp (by kernel_rfl) ?_|refine zcq PP_mixed (by kernel_rfl) (by kernel_rfl) ?_
   repeat' (refine zap rfl ?_; first|refine zan rfl ?_|refine zaa 0 rfl rfl rfl ?_|(refine zai [] hK rfl rfl rfl (fun p hp => .tail _ hp) ?_; rintro v Γ ⟨x, hx, rfl, rfl⟩))
   all_goals (refine zch ?_; repeat (first|refine zck ?_|refine zcl ?_|refine zcm ?_|refine zcn ?_))
   repeat (first|refine zck ?_|refine zcl ?_|refine zcm ?_|refine zcn ?_|refine zco ?_)
   have hKn := known_lent w0 sh kb rs rf most hk ents L v (by omega) mf S hR r mz Z hZ x
   repeat (first|refine zck ?_|refine zcl ?_|refine zcm ?_|refine zcn ?_)
   first|refine zcp (by kernel_rfl) ?_|refine zcq PP_mixed (by kernel_rfl) (by kernel_rfl) ?_
   repeat' (refine zap rfl ?_; first|refine zan rfl ?_|(refine zai [0, 0, 1] hKn rfl rfl rfl (fun p hp => .tail _ hp) ?_; rintro v Γ ⟨B, rfl, hB, rfl⟩))
   all_goals (refine zch ?_; repeat (first|refine zck ?_|refine zcl ?_|refine zcm ?_|refine zcn ?_))
   cases B with
   | true =>
     refine zci rfl ?_
     repeat (first|refine zck ?_|refine zcl ?_|refine zcm ?_|refine zcn ?_|refine zco ?_)
     repeat (first|refine zck ?_|refine zcl ?_|refine zcm ?_|refine zcn ?_)
     first|refine zcp (by kernel_rfl) ?_|refine zcq PP_mixed (by kernel_rfl) (by kernel_rfl) ?_
     repeat' (refine zap rfl ?_; first|refine zan rfl ?_)
     all_goals (refine zch ?_; repeat (first|refine zck ?_|refine zcl ?_|refine zcm ?_|refine zcn ?_))
     refine zec [2, 1, 1] rfl ?_
     exact zej rfl ⟨true, ents, mf, rfl, (fun _ => ⟨S, ⟨x, hx, .inl ⟨hB rfl, rfl⟩⟩, hR.more (Nat.le_add_right _ _), hml⟩), rfl⟩
   | false =>
     refine zcj rfl ?_
     repeat (first|refine zck ?_|refine zcl ?_|refine zcm ?_|refine zcn ?_|refine zco ?_)
     have hgl : (getE x ents).ms.length ≤ v := (getE_in x ents).elim (fun h => (hR.sets _ h).1) (fun h => by rw [h]; exact Nat.zero_le _)
     refine run_open [2] (ι := Unit) (fun _ => [slE (getE x ents).a (getE x ents).ms.length (getE x ents).c (cellsE (getE x ents).ms), Stars (restE x ents)]) rfl (fun g hg => ⟨(), Stars.box (ent_open x ents g hg)⟩) ?_
     rintro ⟨⟩
     refine run_draw [.quiet, .quiet, .quiet, .quiet, .quiet, .quiet, .quiet, .quiet, .quiet, .quiet, .read, .quiet, .loud, .loud, .loud] PP_mixed (by kernel_rfl) (by kernel_rfl) ?_
     repeat' (refine zap rfl ?_; first|refine zad rfl (fun hF Γ w g1 g2 => (g2.frame (g1 _ (.tail _ hk))).2) (show rd false 1 [Value.int .i64 most, Value.map (some rs), Value.map (some rf)] 1 = some _ from rfl) ?_|refine reg_lookupG (kv := kvS) (a := x) 3 rfl rfl rfl (getE_look x ents) ?_|refine reg_mapUpdateG (kv := kvS) (a := x) (u := .slice a1 ((getE x ents).ms.length + 1) c1) 3 rfl rfl rfl rfl rfl ?_|refine zdt rfl rfl rfl rfl rfl rfl (fun nb2 => ?_)|refine zan rfl ?_|refine zdz 0 5 (cs := cellsE (getE x ents).ms) (new := [.map (some r)]) rfl rfl rfl rfl rfl rfl rfl rfl (by omega) (fun _ _ => rfl) (fun a1 c1 => ?_)|refine zao rfl ?_)
     refine zch ?_
     rw [← putE_seen x a1 c1 (r, mz) ents]
     repeat (first|refine zck ?_|refine zcl ?_|refine zcm ?_|refine zcn ?_|refine zco ?_)
     refine run_draw [.quiet, .quiet, .quiet, .quiet, .read, .quiet, .quiet, .quiet, .quiet, .quiet] PP_mixed (by kernel_rfl) (by kernel_rfl) ?_
     repeat' (refine zap rfl ?_; first|refine zad rfl (fun hF Γ w g1 g2 => (g2.frame (g1 _ (.tail _ hk))).2) (show rd false 1 [Value.int .i64 most, Value.map (some rs), Value.map (some rf)] 1 = some _ from rfl) ?_|refine zad rfl (fun hF Γ w g1 g2 => (g2.frame (g1 _ (.tail _ hk))).2) (show rd false 1 [Value.int .i64 most, Value.map (some rs), Value.map (some rf)] 0 = some _ from rfl) ?_|refine zbs rfl rfl ?_|refine zan rfl ?_|refine reg_lenG (kv := kvS) 3 rfl rfl ?_|refine zao rfl ?_)
     refine zch ?_
     rw [seenG_len]
     by_cases hbig : most < (putE x a1 c1 (r, mz) ents).length
     · have hbig2 : (most : Int) < (((putE x a1 c1 (r, mz) ents).length : Nat) : Int) := by omega
       refine zci (congrArg Value.bool (decide_eq_true hbig2)) ?_
       repeat (first|refine zck ?_|refine zcl ?_|refine zcm ?_|refine zcn ?_|refine zco ?_)
       repeat (first|refine zck ?_|refine zcl ?_|refine zcm ?_|refine zcn ?_)
       first|refine zcp (by kernel_rfl) ?_|refine zcq PP_mixed (by kernel_rfl) (by kernel_rfl) ?_
       repeat' (refine zap rfl ?_; first|refine zan rfl ?_)
       all_goals (refine zch ?_; repeat (first|refine zck ?_|refine zcl ?_|refine zcm ?_|refine zcn ?_))
       refine run_close (A := entsA (putE x a1 c1 (r, mz) ents)) [0, 1, 0] rfl (fun g hg => ent_close x a1 c1 (r, mz) ents g (Stars.unbox2 hg)) ?_
       refine zec [0, 0, 0] rfl ?_
       exact zej rfl ⟨false, _, mf, rfl, (fun h => by cases h), rfl⟩
     have hbig2 : ¬ (most : Int) < (((putE x a1 c1 (r, mz) ents).length : Nat) : Int) := by omega
     refine zcj (congrArg Value.bool (decide_eq_false hbig2)) ?_
     repeat (first|refine zck ?_|refine zcl ?_|refine zcm ?_|refine zcn ?_|refine zco ?_)
     repeat (first|refine zck ?_|refine zcl ?_|refine zcm ?_|refine zcn ?_)
     first|refine zcp (by kernel_rfl) ?_|refine zcq PP_mixed (by kernel_rfl) (by kernel_rfl) ?_
     repeat' (refine zap rfl ?_; first|refine zan rfl ?_|refine zaa 0 rfl rfl rfl ?_|(refine zai [] hSt rfl rfl rfl (fun p hp => .tail _ hp) ?_; rintro v Γ ⟨ad, c, rfl, rfl⟩))
     all_goals (refine zch ?_; repeat (first|refine zck ?_|refine zcl ?_|refine zcm ?_|refine zcn ?_))
     repeat (first|refine zck ?_|refine zcl ?_|refine zcm ?_|refine zcn ?_|refine zco ?_)
     repeat (first|refine zck ?_|refine zcl ?_|refine zcm ?_|refine zcn ?_)
     first|refine zcp (by kernel_rfl) ?_|refine zcq PP_mixed (by kernel_rfl) (by kernel_rfl) ?_
     repeat' (refine zap rfl ?_; first|refine zan rfl ?_|refine zce rfl ?_|refine zbo rfl rfl ?_)
     all_goals (refine zch ?_; repeat (first|refine zck ?_|refine zcl ?_|refine zcm ?_|refine zcn ?_))
     have hs3 : a.steps.length ≤ 3 := by have h1 := hW.few; have h2 : a.steps.length ≤ (List.range a.ts.length).length := List.length_filter_le _ _; rw [List.length_range] at h2; omega
     by_cases hst : a.steps = []
     · have hl0 : ((a.steps.length : Nat) : Int) = 0 := by rw [hst]; rfl
       refine zci (congrArg Value.bool (decide_eq_true hl0)) ?_
       repeat (first|refine zck ?_|refine zcl ?_|refine zcm ?_|refine zcn ?_|refine zco ?_)
       refine run_draw [.quiet, .quiet, .quiet, .quiet, .quiet, .loud, .loud] PP_mixed (by kernel_rfl) (by kernel_rfl) ?_
       repeat' (refine zap rfl ?_; first|refine zad rfl (fun hF Γ w g1 g2 => (g2.frame (g1 _ (.tail _ hk))).2) (show rd false 1 [Value.int .i64 most, Value.map (some rs), Value.map (some rf)] 2 = some _ from rfl) ?_|refine reg_mapUpdateG (kv := kvS) (a := a.out) (u := .bool true) 5 rfl rfl rfl rfl rfl ?_|refine zan rfl ?_|refine zaa 0 rfl rfl rfl ?_|refine zah [] hO rfl rfl rfl (fun p hp => .tail _ hp) rfl ?_|refine zao rfl ?_)
       refine zch ?_
       repeat (first|refine zck ?_|refine zcl ?_|refine zcm ?_|refine zcn ?_|refine zco ?_)
       repeat (first|refine zck ?_|refine zcl ?_|refine zcm ?_|refine zcn ?_)
       first|refine zcp (by kernel_rfl) ?_|refine zcq PP_mixed (by kernel_rfl) (by kernel_rfl) ?_
       repeat' (refine zap rfl ?_; first|refine zan rfl ?_|(refine zai [3] (cloneT_lent w0 sh r mz) rfl rfl rfl (fun p hp => .tail _ hp) ?_; rintro v Γ ⟨nb, rfl, rfl⟩))
       all_goals (refine zch ?_; repeat (first|refine zck ?_|refine zcl ?_|refine zcm ?_|refine zcn ?_))
       repeat (first|refine zck ?_|refine zcl ?_|refine zcm ?_|refine zcn ?_|refine zco ?_)
       repeat (first|refine zck ?_|refine zcl ?_|refine zcm ?_|refine zcn ?_)
       first|refine zcp (by kernel_rfl) ?_|refine zcq PP_mixed (by kernel_rfl) (by kernel_rfl) ?_
       repeat' (refine zap rfl ?_; first|refine zan rfl ?_|refine zce rfl ?_)
       all_goals (refine zch ?_; repeat (first|refine zck ?_|refine zcl ?_|refine zcm ?_|refine zcn ?_))
       refine zet ?_
       repeat (first|refine zck ?_|refine zcl ?_|refine zcm ?_|refine zcn ?_|refine zco ?_)
       repeat (first|refine zck ?_|refine zcl ?_|refine zcm ?_|refine zcn ?_)
       first|refine zcp (by kernel_rfl) ?_|refine zcq PP_mixed (by kernel_rfl) (by kernel_rfl) ?_
       repeat' (refine zap rfl ?_; first|refine zbq rfl rfl ?_)
       all_goals (refine zch ?_; repeat (first|refine zck ?_|refine zcl ?_|refine zcm ?_|refine zcn ?_))
       refine zcj (congrArg Value.bool (decide_eq_false (by omega))) ?_
       refine zcs rfl ?_
       repeat (first|refine zck ?_|refine zcl ?_|refine zcm ?_|refine zcn ?_|refine zco ?_)
       refine run_close (A := entsA (putE x a1 c1 (r, mz) ents)) [3, 1, 2] rfl (fun g hg => ent_close x a1 c1 (r, mz) ents g (Stars.unbox2 hg)) ?_
       refine zec [0, 2, 2] rfl ?_
       repeat (first|refine zck ?_|refine zcl ?_|refine zcm ?_|refine zcn ?_)
       first|refine zcp (by kernel_rfl) ?_|refine zcq PP_mixed (by kernel_rfl) (by kernel_rfl) ?_
       repeat' (refine zap rfl ?_; first|refine zan rfl ?_)
       all_goals (refine zch ?_; repeat (first|refine zck ?_|refine zcl ?_|refine zcm ?_|refine zcn ?_))
       have hto : toldBy gr a S.2 = a.out :: S.2 := by unfold toldBy; rw [if_pos (show gr.st a = [] from hst)]; rfl
       exact zej rfl ⟨true, _, insG mf a.out (.bool true), rfl, (fun _ => ⟨((x, Z) :: S.1, a.out :: S.2), ⟨x, hx, .inr (by rw [show gr.st a = [] from hst, hto]; rfl)⟩, (hR.tell hL hx hst a1 c1 (r, mz) hZ).more (by omega), by omega⟩), rfl⟩
     · have hlen0 : a.steps.length ≠ 0 := fun h => hst (List.length_eq_zero_iff.1 h)
       refine zcj (congrArg Value.bool (decide_eq_false (by show ¬ ((a.steps.length : Nat) : Int) = 0; omega))) ?_
       repeat (first|refine zck ?_|refine zcl ?_|refine zcm ?_|refine zcn ?_|refine zco ?_)
       repeat (first|refine zck ?_|refine zcl ?_|refine zcm ?_|refine zcn ?_)
       first|refine zcp (by kernel_rfl) ?_|refine zcq PP_mixed (by kernel_rfl) (by kernel_rfl) ?_
       repeat' (refine zap rfl ?_; first|refine zan rfl ?_|(refine zai [3] (cloneT_lent w0 sh r mz) rfl rfl rfl (fun p hp => .tail _ hp) ?_; rintro v Γ ⟨nb, rfl, rfl⟩))
       all_goals (refine zch ?_; repeat (first|refine zck ?_|refine zcl ?_|refine zcm ?_|refine zcn ?_))
       repeat (first|refine zck ?_|refine zcl ?_|refine zcm ?_|refine zcn ?_|refine zco ?_)
       repeat (first|refine zck ?_|refine zcl ?_|refine zcm ?_|refine zcn ?_)
       first|refine zcp (by kernel_rfl) ?_|refine zcq PP_mixed (by kernel_rfl) (by kernel_rfl) ?_
       repeat' (refine zap rfl ?_; first|refine zan rfl ?_|refine zce rfl ?_)
       all_goals (refine zch ?_; repeat (first|refine zck ?_|refine zcl ?_|refine zcm ?_|refine zcn ?_))
       refine run_shareP [2] (fun s => RdCl w0 s 2 ad a.steps.length (a.steps.flatMap stE) ∧ a.steps.length ≤ c) RdO.ofCl rfl ?_
       intro bl hs hsc
       have hrs : RdSl w0 _ stE 2 (.slice ad a.steps.length c) a.steps := RdCl.sl (fun _ _ => rfl) hsc.1 hsc.2
       have up : ∀ p ∈ sh, p ∈ _ := fun p hp => hs p (List.Mem.tail _ hp)
       have hto : toldBy gr a S.2 = S.2 := by unfold toldBy; rw [if_neg (show ¬ gr.st a = [] from hst)]
       have hR2 := hR.put hL hx hst a1 c1 (r, mz) hZ
       refine run_close (A := entsA (putE x a1 c1 (r, mz) ents)) [2, 1, 1] rfl (fun g hg => ent_close x a1 c1 (r, mz) ents g (Stars.unbox2 hg)) ?_
       refine zec [0, 1, 1, 0] rfl ?_
       generalize putE x a1 c1 (r, mz) ents = ents0 at hR2 hbig ⊢
       refine run_loop (S := Nat × GM Nat × List Nat × List Ent × GM ByteArray × (List (ByteArray × List Nat) × List ByteArray)) (fun s => [(0, .pointer (some ⟨kb, 0, none⟩)), (4, .pointer (some ⟨t4, 0, none⟩)), (9, .map (some nb)), (55, .slice ad a.steps.length c), (56, .int .i64 a.steps.length), (57, .int .i64 s.1)])
         (fun s Γ => Γ = [entsA s.2.2.2.1, MapG kvS rs (seenG s.2.2.2.1), MapG kvS rf s.2.2.2.2.1, MapG kvT nb s.2.1] ∧ s.1 ≤ a.steps.length ∧ StOk s.2.1 s.2.2.1 ∧ (∀ z ∈ s.2.2.1, z < a.ts.length) ∧ RelZ L (v + 1 + s.1 * tn n) s.2.2.2.1 s.2.2.2.2.1 s.2.2.2.2.2 ∧ s.2.2.2.1.length ≤ most ∧
           ∀ T, KidsZ gr (Some' gr n) a (a.steps.drop s.1) s.2.2.1 s.2.2.2.2.2 T → KidsZ gr (Some' gr n) a a.steps Z ((x, Z) :: S.1, S.2) T)
         (fun s => a.steps.length - s.1) (0, mz, Z, ents0, mf, ((x, Z) :: S.1, S.2)) ⟨rfl, rfl, rfl, rfl, rfl, rfl, trivial⟩ ⟨rfl, Nat.zero_le _, hZ, hzn, by rw [Nat.zero_mul]; exact hR2, Nat.le_of_not_lt hbig, fun T h => h⟩ ?_
       rintro ⟨j, ml1, left, ents1, mf1, S1⟩ Γ junk ⟨rfl, hj, hZ1, hzn1, hR1, hm1, hK1⟩
       dsimp only at hj hZ1 hzn1 hR1 hm1 hK1 ⊢
       have hjt : j * tn n ≤ 3 * tn n := Nat.mul_le_mul_right _ (by omega)
       by_cases he : j = a.steps.length
       · subst he
         repeat (first|refine zck ?_|refine zcl ?_|refine zcm ?_|refine zcn ?_)
         first|refine zcp (by kernel_rfl) ?_|refine zcq PP_mixed (by kernel_rfl) (by kernel_rfl) ?_
         repeat' (refine zap rfl ?_; first|refine zbh rfl rfl (by omega) ?_)
         all_goals (refine zch ?_; repeat (first|refine zck ?_|refine zcl ?_|refine zcm ?_|refine zcn ?_))
         refine zcj rfl ?_
         refine zer rfl rfl ?_
         repeat (first|refine zck ?_|refine zcl ?_|refine zcm ?_|refine zcn ?_|refine zco ?_)
         repeat (first|refine zck ?_|refine zcl ?_|refine zcm ?_|refine zcn ?_)
         first|refine zcp (by kernel_rfl) ?_|refine zcq PP_mixed (by kernel_rfl) (by kernel_rfl) ?_
         repeat' (refine zap rfl ?_; first|refine zan rfl ?_)
         all_goals (refine zch ?_; repeat (first|refine zck ?_|refine zcl ?_|refine zcm ?_|refine zcn ?_))
         refine zec [0, 0, 0] rfl ?_
         rw [List.drop_length] at hK1
         exact zej rfl ⟨true, ents1, mf1, rfl, (fun _ => ⟨S1, ⟨x, hx, .inr (by rw [hto]; exact hK1 S1 rfl)⟩, hR1.more (by omega), hm1⟩), rfl⟩
       · obtain ⟨i, hi⟩ : ∃ i, a.steps[j]? = some i := ⟨_, List.getElem?_eq_getElem (by omega)⟩
         have him : i ∈ a.steps := List.mem_of_getElem? hi
         obtain ⟨bb, off, cc, T, fr, ea, e2, e3, _⟩ := hrs.cells hi
         subst ea
         have hAi := hA i him
         have hn' := aft_next hL him
         have hdr := drop_at hi
         have hjt2 : (j + 1) * tn n ≤ 3 * tn n := Nat.mul_le_mul_right _ (by omega)
         have hjs : (j + 1) * tn n = j * tn n + tn n := Nat.succ_mul _ _
         have hil : i < a.ts.length := by have h1 : i ∈ a.steps := him; unfold Tx.Wd.steps at h1; exact List.mem_range.1 (List.mem_filter.1 h1).1
         repeat (first|refine zck ?_|refine zcl ?_|refine zcm ?_|refine zcn ?_)
         first|refine zcp (by kernel_rfl) ?_|refine zcq PP_mixed (by kernel_rfl) (by kernel_rfl) ?_
         repeat' (refine zap rfl ?_; first|refine zbg rfl rfl (by omega) ?_)
         all_goals (refine zch ?_; repeat (first|refine zck ?_|refine zcl ?_|refine zcm ?_|refine zcn ?_))
         refine zci rfl ?_
         repeat (first|refine zck ?_|refine zcl ?_|refine zcm ?_|refine zcn ?_|refine zco ?_)
         repeat (first|refine zck ?_|refine zcl ?_|refine zcm ?_|refine zcn ?_)
         first|refine zcp (by kernel_rfl) ?_|refine zcq PP_mixed (by kernel_rfl) (by kernel_rfl) ?_
         repeat' (refine zap rfl ?_; first|refine zas rfl rfl (by omega) ?_|refine zar (fun t11 => ?_)|refine zad rfl e2 (e3 _ (by omega)) ?_|refine zae 4 rfl rfl rfl rfl rfl rfl rfl ?_)
         all_goals (refine zch ?_; repeat (first|refine zck ?_|refine zcl ?_|refine zcm ?_|refine zcn ?_))
         repeat (first|refine zck ?_|refine zcl ?_|refine zcm ?_|refine zcn ?_|refine zco ?_)
         refine zeb [4] rfl ?_
         repeat (first|refine zck ?_|refine zcl ?_|refine zcm ?_|refine zcn ?_)
         first|refine zcp (by kernel_rfl) ?_|refine zcq PP_mixed (by kernel_rfl) (by kernel_rfl) ?_
         repeat' (refine zap rfl ?_; first|refine reg_lookupG (kv := kvT) (a := i) 3 rfl rfl rfl (hZ1.look i) ?_|refine zan rfl ?_|refine zaa 0 rfl rfl rfl ?_)
         all_goals (refine zch ?_; repeat (first|refine zck ?_|refine zcl ?_|refine zcm ?_|refine zcn ?_))
         by_cases hin : i ∈ left
         · refine zci (congrArg Value.bool (decide_eq_true hin)) ?_
           refine zcs rfl ?_
           repeat (first|refine zck ?_|refine zcl ?_|refine zcm ?_|refine zcn ?_|refine zco ?_)
           repeat (first|refine zck ?_|refine zcl ?_|refine zcm ?_|refine zcn ?_)
           first|refine zcp (by kernel_rfl) ?_|refine zcq PP_mixed (by kernel_rfl) (by kernel_rfl) ?_
           repeat' (refine zap rfl ?_; first|refine zan rfl ?_|refine zau rfl rfl (by omega) ?_)
           all_goals (refine zch ?_; repeat (first|refine zck ?_|refine zcl ?_|refine zcm ?_|refine zcn ?_))
           exact zeq ⟨rfl, (j + 1, ml1, left, ents1, mf1, S1), ⟨rfl, rfl, rfl, rfl, rfl, zes (by omega), trivial⟩, ⟨rfl, by dsimp only; omega, hZ1, hzn1, hR1.more (by dsimp only; omega), hm1, fun T hT => hK1 T (by rw [hdr]; exact .inl ⟨hin, hT⟩)⟩, by dsimp only; omega⟩
         · refine zcj (congrArg Value.bool (decide_eq_false hin)) ?_
           repeat (first|refine zck ?_|refine zcl ?_|refine zcm ?_|refine zcn ?_|refine zco ?_)
           have hzf : ∀ z ∈ left.filter (condZ a i), z < (a.aft i).ts.length := fun z hz => by rw [aft_len hL him]; exact hzn1 z (List.mem_filter.1 hz).1
           have hC0 := fun (W' : WoS) (nb2 : Nat) (mo : GM Nat) (hmo : StOk mo (left.filter (condZ a i))) => Vc.Fn.lendA (w0 := w0) (sh := sh) (ψ := fun s => RdWo w0 s W' (a.aft i) (cnt + 2)) (Γ := [entsA ents1, MapG kvS rs (seenG ents1), MapG kvS rf mf1, MapG kvT nb2 mo]) en18 (fun _ h => h)
             (fun sh' hs' hψ => exSome w0 ht L kb rs rf most hmost n (v + 1 + j * tn n) sh' W' (a.aft i) (cnt + 2) nb2 mo (left.filter (condZ a i)) ents1 mf1 S1 hn'.1 (by omega) (by omega) hψ (hs' _ hk) hmo hzf hR1 hm1 (by omega))
           refine run_draw [.quiet, .quiet, .quiet, .loud, .quiet, .quiet, .quiet, .loud, .loud, .quiet] PP_mixed (by kernel_rfl) (by kernel_rfl) ?_
           repeat' (refine zap rfl ?_; first|refine zbx rfl ?_|refine zan rfl ?_|refine zaa 0 rfl rfl rfl ?_|refine zaa 1 rfl rfl rfl ?_|(refine zai [] hAi rfl rfl rfl (fun p hp => .tail _ (up p hp)) ?_; rintro v Γ ⟨W', rfl, rfl⟩)|(refine zai [4] (hAs sh (fun _ h => h) i him nb ml1 left hZ1 hzn1) rfl rfl rfl (fun p hp => .tail _ (up p hp)) ?_; rintro v Γ ⟨nb2, mo, rfl, hmo, rfl⟩)|(refine zai [2, 2, 2, 2, 0] (hC0 W' nb2 mo hmo) rfl rfl rfl (fun p hp => .tail _ (up p hp)) ?_; rintro v Γ ⟨Γ2, ⟨q, ents2, mf2, rfl, hq1, rfl⟩, rfl⟩))
           refine zch ?_
           cases q with
           | true =>
             obtain ⟨S2, g1, g2, g3⟩ := hq1 rfl
             refine zcj rfl ?_
             repeat (first|refine zck ?_|refine zcl ?_|refine zcm ?_|refine zcn ?_|refine zco ?_)
             repeat (first|refine zck ?_|refine zcl ?_|refine zcm ?_|refine zcn ?_)
             first|refine zcp (by kernel_rfl) ?_|refine zcq PP_mixed (by kernel_rfl) (by kernel_rfl) ?_
             repeat' (refine zap rfl ?_; first|refine reg_mapUpdateG (kv := kvT) (a := i) (u := .bool true) 4 rfl rfl rfl rfl rfl ?_|refine zan rfl ?_|refine zaa 0 rfl rfl rfl ?_)
             all_goals (refine zch ?_; repeat (first|refine zck ?_|refine zcl ?_|refine zcm ?_|refine zcn ?_))
             refine zec [0, 0, 0, 1] rfl ?_
             repeat (first|refine zck ?_|refine zcl ?_|refine zcm ?_|refine zcn ?_|refine zco ?_)
             repeat (first|refine zck ?_|refine zcl ?_|refine zcm ?_|refine zcn ?_)
             first|refine zcp (by kernel_rfl) ?_|refine zcq PP_mixed (by kernel_rfl) (by kernel_rfl) ?_
             repeat' (refine zap rfl ?_; first|refine zan rfl ?_|refine zau rfl rfl (by omega) ?_)
             all_goals (refine zch ?_; repeat (first|refine zck ?_|refine zcl ?_|refine zcm ?_|refine zcn ?_))
             exact zeq ⟨rfl, (j + 1, insG ml1 i (.bool true), i :: left, ents2, mf2, S2), ⟨rfl, rfl, rfl, rfl, rfl, zes (by omega), trivial⟩, ⟨rfl, by dsimp only; omega, hZ1.ins i, fun z hz => (List.mem_cons.1 hz).elim (fun h => h ▸ hil) (hzn1 z), g2.more (by dsimp only; omega), g3, fun T hT => hK1 T (by rw [hdr]; exact .inr ⟨hin, _, S2, slept_iff hzn1, g1, hT⟩)⟩, by dsimp only; omega⟩
           | false =>
             refine zci rfl ?_
             repeat (first|refine zck ?_|refine zcl ?_|refine zcm ?_|refine zcn ?_|refine zco ?_)
             repeat (first|refine zck ?_|refine zcl ?_|refine zcm ?_|refine zcn ?_)
             first|refine zcp (by kernel_rfl) ?_|refine zcq PP_mixed (by kernel_rfl) (by kernel_rfl) ?_
             repeat' (refine zap rfl ?_; first|refine zan rfl ?_)
             all_goals (refine zch ?_; repeat (first|refine zck ?_|refine zcl ?_|refine zcm ?_|refine zcn ?_))
             refine zec [0, 0, 0] rfl ?_
             exact cut_ret (zek (zem rfl rfl ⟨false, ents2, mf2, rfl, (fun h => by cases h), rfl⟩))
end Go.Proofs.YtikackodhiollaaGreatDoor
namespace Go.Proofs.YtikackodhiollaaGreatDoor
variable (w0 : World)
open Go.Vc Sim Sim.Tx
set_option maxHeartbeats 8000000
abbrev sortB (acc : List ByteArray) : List (List UInt8) := (unB acc).mergeSort fun x y => decide (x ≤ y)
theorem exBegun (most : Nat) : Vc.Fn PP w0 [] 15 [.int .i64 most] [] (fun r Γ => ∃ kb rs rf, r = .pointer (some ⟨kb, 0, none⟩) ∧ Γ = [pt kb (wkO most rs rf), MapG kvS rs [], MapG kvS rf []]) := by
 refine zep en15 fn15 rfl rfl rfl ?_
 repeat (first|refine zck ?_|refine zcl ?_|refine zcm ?_|refine zcn ?_)
 first|refine zcp (by kernel_rfl) ?_|refine zcq PP_mixed (by kernel_rfl) (by kernel_rfl) ?_
 repeat' (refine zap rfl ?_; first|refine zan rfl ?_)
 all_goals (refine zch ?_; repeat (first|refine zck ?_|refine zcl ?_|refine zcm ?_|refine zcn ?_))
 first|refine zcp (by kernel_rfl) ?_|refine zcq PP_mixed (by kernel_rfl) (by kernel_rfl) ?_
 repeat' (refine zap rfl ?_; first|refine zcc (fun nb => ?_)|refine zcb rfl ?_|refine zaq (cs := [_, _, _]) rfl (fun kb => ?_)|refine zan rfl ?_)
 all_goals (refine zch ?_; repeat (first|refine zck ?_|refine zcl ?_|refine zcm ?_|refine zcn ?_))
 refine zef 0 (MapG kvS _ []) rfl (mapG_make _) rfl ?_
 refine zef 1 (MapG kvS _ []) rfl (mapG_make _) rfl ?_
 refine zec [2, 0, 0] rfl ?_
 exact zej rfl ⟨kb, _, _, rfl, rfl⟩
theorem exTold (sh : Shared) (kb rs rf : Nat) (most : Int) (hk : (kb, wkO most rs rf) ∈ sh) (ml mf : GM ByteArray) (hn : (mf.map (·.1)).Nodup) (hb : mf.length ≤ 60000) :
   Vc.Fn PP w0 sh 16 [.pointer (some ⟨kb, 0, none⟩), .bool true] [MapG kvS rs ml, MapG kvS rf mf]
     (fun r Γ => ∃ (acc : List ByteArray) (a : Option Addr) (c : Nat), ToldS mf acc ∧ r = .tuple #[.slice a acc.length c, .int .i64 ml.length, .int .i64 0] ∧ Γ = [SlA 9 1 a acc.length c (strsV (sortB acc))]) := by
 refine zep en16 fn16 rfl rfl rfl ?_
 repeat (first|refine zck ?_|refine zcl ?_|refine zcm ?_|refine zcn ?_)
 first|refine zcp (by kernel_rfl) ?_|refine zcq PP_mixed (by kernel_rfl) (by kernel_rfl) ?_
 repeat' (refine zap rfl ?_; first|refine zan rfl ?_)
 all_goals (refine zch ?_; repeat (first|refine zck ?_|refine zcl ?_|refine zcm ?_|refine zcn ?_))
 first|refine zcp (by kernel_rfl) ?_|refine zcq PP_mixed (by kernel_rfl) (by kernel_rfl) ?_
 repeat' (refine zap rfl ?_; first|refine zan rfl ?_|refine zbx rfl ?_)
 all_goals (refine zch ?_; repeat (first|refine zck ?_|refine zcl ?_|refine zcm ?_|refine zcn ?_))
 refine zcj rfl ?_
 repeat (first|refine zck ?_|refine zcl ?_|refine zcm ?_|refine zcn ?_|refine zco ?_)
 refine run_shareP [1] (fun s => ∃ es clock, RdG kvS w0 s rf es clock mf) RdO.ofMap rfl ?_
 rintro bl hs ⟨es, clock, hX⟩
 refine run_draw [.quiet, .quiet, .quiet, .quiet, .loud, .loud, .quiet, .quiet, .quiet, .quiet, .read, .quiet, .quiet, .quiet] PP_mixed (by kernel_rfl) (by kernel_rfl) ?_
 repeat' (refine zap rfl ?_; first|refine zad rfl (fun hF Γ w g1 g2 => (g2.frame (g1 _ (hs _ hk))).2) (show rd false 1 [Value.int .i64 most, Value.map (some rs), Value.map (some rf)] 2 = some _ from rfl) ?_|refine zad rfl (fun hF Γ w g1 g2 => (g2.frame (g1 _ (hs _ hk))).2) (show rd false 1 [Value.int .i64 most, Value.map (some rs), Value.map (some rf)] 1 = some _ from rfl) ?_|refine zan rfl ?_|(refine zai [] (keysS w0 (some rf)) rfl rfl rfl zdj ?_; rintro v Γ ⟨b1, rfl, rfl⟩)|(refine zai [0] (sortedS w0 _ (some rf) es clock mf (RdV.of hX) hn hb _) rfl rfl rfl (fun _ hp => hp) ?_; rintro v Γ ⟨_, ⟨acc, a, c, hacc, rfl, rfl⟩, rfl⟩)|refine reg_lenG (kv := kvS) 2 rfl rfl ?_|refine zao rfl ?_)
 refine zch ?_
 refine zec [0] rfl ?_
 exact ret_tmp3 rfl ⟨acc, a, c, hacc, rfl, rfl⟩
end Go.Proofs.YtikackodhiollaaGreatDoor
