import Derived.Test.YtikackodhiollaaGreatDoorRows
import Derived.Test.YtikackodhiollaaGreatDoorTie
import Derived.Test.YtikackodhiollaaGreatDoorCards
import Derived.SevenTiedAt
import Derived.OpenShut
import Derived.Handed
import Derived.Lib.LaidTab
import Derived.Test.YtikackodhiollaaGreatDoorPart11
import Derived.Test.YtikackodhiollaaGreatDoorKit
/- Own work: lemmas of this claim. -/
namespace Sim.Tx
open Go Go.Vc Sim
theorem sort_same {l m : List (List UInt8)} (h : l.Perm m) : (l.mergeSort fun x y => decide (x ≤ y)) = m.mergeSort fun x y => decide (x ≤ y) := by
 have tr : ∀ a b c : List UInt8, (decide (a ≤ b)) = true → (decide (b ≤ c)) = true → (decide (a ≤ c)) = true := fun a b c h1 h2 => decide_eq_true (List.le_trans (of_decide_eq_true h1) (of_decide_eq_true h2))
 have to : ∀ a b : List UInt8, (decide (a ≤ b) || decide (b ≤ a)) = true := fun a b => by
   rcases List.le_total a b with h | h
   · rw [decide_eq_true h]; rfl
   · rw [decide_eq_true h, Bool.or_true]
 exact List.Perm.eq_of_pairwise (le := fun a b => decide (a ≤ b) = true) (fun a b _ _ h1 h2 => List.le_antisymm (of_decide_eq_true h1) (of_decide_eq_true h2)) (List.pairwise_mergeSort tr to l) (List.pairwise_mergeSort tr to m)
   ((List.mergeSort_perm l _).trans (h.trans (List.mergeSort_perm m _).symm))
theorem cut_one {p p' r r' : ByteArray} (h : p ++ r = p' ++ r') (hp : (59 : UInt8) ∉ p.data.toList) (hp' : (59 : UInt8) ∉ p'.data.toList) (hr : Rest r) (hr' : Rest r') : p = p' := by
 have toL : ∀ {a b : ByteArray}, a.data.toList = b.data.toList → a = b := fun h => ByteArray.ext (Array.ext' h)
 rcases hr with rfl | ⟨q, rfl⟩ <;> rcases hr' with rfl | ⟨q', rfl⟩
 · rwa [show p ++ bs [] = p from ByteArray.append_empty, show p' ++ bs [] = p' from ByteArray.append_empty] at h
 · rw [show p ++ bs [] = p from ByteArray.append_empty] at h
   exact absurd (by rw [h, app_semi]; exact List.mem_append_right _ (.head _)) hp
 · rw [show p' ++ bs [] = p' from ByteArray.append_empty] at h
   exact absurd (by rw [← h, app_semi]; exact List.mem_append_right _ (.head _)) hp'
 · have e : p.data.toList ++ 59 :: q.data.toList = p'.data.toList ++ 59 :: q'.data.toList := by rw [← app_semi, h, app_semi]
   exact toL (sep_inj hp hp' e).1
def toAO (x : Int × Int × Int) : AO := ⟨x.1, decide (x.2.1 = 1), x.2.2⟩
end Sim.Tx
namespace Go.Proofs.YtikackodhiollaaGreatDoor
variable (w0 : World)
open Go.Vc Sim Sim.Tx
set_option maxHeartbeats 8000000
theorem ord_i64 {L : List AO} (hok : ∀ o ∈ L, o.ok) {d : List Bool} {w f : Int × Int} (h : Ord L d w f) : I64 w.1 → I64 w.2 → I64 f.1 ∧ I64 f.2 := by
 induction h with
 | last _ => exact fun h1 h2 => ⟨h1, h2⟩
 | @step d w f i o h1 _ _ ih =>
   intro hw1 hw2
   have ho := hok o (List.mem_of_getElem? h1)
   refine ih ?_ ?_
   · unfold ap; split
     · exact hw1
     · exact I64.fn ho.2.2 hw1
   · unfold ap; split
     · exact I64.fn ho.2.2 hw2
     · exact hw2
theorem wtext_size {x y : Int} (hx : I64 x) (hy : I64 y) : (wtext x y).size ≤ 43 := by
 have h1 := numB_size hx
 have h2 := numB_size hy
 have h3 : (bs [32]).size = 1 := rfl
 unfold wtext
 simp only [ByteArray.size_append]
 omega
theorem wtext_ne (x y : Int) (r : ByteArray) : wtext x y ++ r ≠ bs [59] := fun h => by
 have e := congrArg (fun b : ByteArray => b.data.toList) h
 have e1 : (wtext x y ++ r).data.toList = (wtext x y).data.toList ++ r.data.toList := by rw [ByteArray.data_append, Array.toList_append]
 have e2 : (bs [59]).data.toList = [59] := rfl
 have e : (wtext x y).data.toList ++ r.data.toList = [59] := by rw [← e1, ← e2]; exact e
 have hne : (wtext x y).data.toList ≠ [] := by
   unfold wtext numB
   rw [ByteArray.data_append, Array.toList_append]
   exact fun h => itoa_ne y (List.append_eq_nil_iff.1 h).2
 cases hl : (wtext x y).data.toList with
 | nil => exact hne hl
 | cons b l =>
   rw [hl] at e
   have hb : b = 59 := (List.cons.inj e).1
   exact wtext_no59 x y (by rw [hl, hb]; exact .head _)
abbrev op3E (x : Int × Int × Int) : List Value := [.int .i64 x.1, .int .i64 x.2.1, .int .i64 x.2.2]
theorem toAO_enc {x : Int × Int × Int} (h : 0 ≤ x.2.1 ∧ x.2.1 ≤ 1) : opE (toAO x) = op3E x := by
 have e : plI (decide (x.2.1 = 1)) = x.2.1 := by
   unfold plI
   by_cases h1 : x.2.1 = 1
   · rw [decide_eq_true h1, if_pos rfl, h1]
   · rw [decide_eq_false h1, if_neg (by decide)]; omega
 show [Value.int .i64 x.1, Value.int .i64 (plI (decide (x.2.1 = 1))), Value.int .i64 x.2.2] = _
 rw [e]
theorem chk_zero {x : Int × Int × Int} (h : chk x.1 x.2.1 x.2.2 = 0) (ha : x.2.1 ≤ 1) (hn : I64 x.2.2) : (toAO x).ok ∧ 0 ≤ x.2.1 ∧ x.2.1 ≤ 1 := by
 unfold chk at h
 split at h
 · cases h
 · split at h
   · cases h
   · split at h
     · cases h
     · rename_i h1 h2 h3
       exact ⟨⟨by show 0 ≤ x.1 ∧ x.1 ≤ 3; omega, fun e hn0 => h3 ⟨e, hn0⟩, hn⟩, by omega⟩
theorem rd_map {α β : Type} {w0 : World} {sh : Shared} {encE : α → List Value} {encF : β → List Value} {m : Nat} {la : Option Addr} {lc : Nat} {os : List α} (f : α → β) (he : ∀ x ∈ os, encF (f x) = encE x) (h : RdSl w0 sh encE m (.slice la os.length lc) os) : RdSl w0 sh encF m (.slice la (os.map f).length lc) (os.map f) := by
 obtain ⟨a, cap, h1, h2, h3⟩ := h
 rw [List.length_map]
 refine ⟨a, cap, by rw [List.length_map]; exact h1, by rw [List.length_map]; exact h2, h3.imp (fun e => by rw [e]; rfl) fun ⟨b, off, c, T, fr, e, hh, hc⟩ => ⟨b, off, c, T, fr, e, hh, fun i x hx => ?_⟩⟩
 rw [List.getElem?_map] at hx
 cases ho : os[i]? with
 | none => rw [ho] at hx; cases hx
 | some z =>
   rw [ho] at hx
   cases hx
   rw [he z (List.mem_of_getElem? ho)]
   exact hc i z ho
theorem rep_rd (sh : Shared) (nb n : Nat) (g : Heap) (hg : pt nb (.cells (List.toArray (List.replicate n (Value.bool false))) 4 (0, 0)) g) : RdO sh (fun s => RdSl w0 s boE 1 (.slice (some ⟨nb, 0, none⟩) n n) (List.replicate n false)) g := by
 refine RdO.mono (φ := fun s => (nb, Obj.cells (List.toArray (List.replicate n (Value.bool false))) 4 (0, 0)) ∈ s) (fun s _ hs => ?_) g (RdO.ofPt g hg)
 have hc := rep_cl w0 s nb n _ _ hs
 have e : (List.replicate n false).length = n := List.length_replicate
 have := RdCl.sl (w0 := w0) (sh := s) (encE := boE) (sz := 1) (a := some ⟨nb, 0, none⟩) (l := List.replicate n false) (cap := n) (fun _ _ => rfl) (by rw [e]; exact hc) (by rw [e]; exact Nat.le_refl _)
 rw [e] at this
 exact this
theorem good_nil : GoodS [] := ⟨List.nodup_nil, fun p hp => by cases hp⟩
theorem topExplored_spec (ht : TabOk w0) (sh : Shared) (a b : Int) (ha : I64 a) (hb : I64 b) (la : Option Addr) (lc : Nat) (os : List (Int × Int × Int)) (hos : ∀ x ∈ os, I64 x.2.2) (hl : RdSl w0 sh op3E 3 (.slice la os.length lc) os) :
   FnE PP w0 sh 3 [.int .i64 a, .int .i64 b, .slice la os.length lc] [] (.bool true) [] := by
 have hAw := tpAwake w0 ht
 refine zep en3 fn3 rfl rfl rfl ?_
 repeat (first|refine zck ?_|refine zcl ?_|refine zcm ?_|refine zcn ?_)
 first|refine zcp (by kernel_rfl) ?_|refine zcq PP_mixed (by kernel_rfl) (by kernel_rfl) ?_
 repeat' (refine zap rfl ?_; first|refine zan rfl ?_)
 all_goals (refine zch ?_; repeat (first|refine zck ?_|refine zcl ?_|refine zcm ?_|refine zcn ?_))
 first|refine zcp (by kernel_rfl) ?_|refine zcq PP_mixed (by kernel_rfl) (by kernel_rfl) ?_
 repeat' (refine zap rfl ?_; first|refine zbx rfl ?_|refine zah [] hAw rfl rfl rfl zdj rfl ?_)
 all_goals (refine zch ?_; repeat (first|refine zck ?_|refine zcl ?_|refine zcm ?_|refine zcn ?_))
 refine zcj rfl ?_
 repeat (first|refine zck ?_|refine zcl ?_|refine zcm ?_|refine zcn ?_|refine zco ?_)
 repeat (first|refine zck ?_|refine zcl ?_|refine zcm ?_|refine zcn ?_)
 first|refine zcp (by kernel_rfl) ?_|refine zcq PP_mixed (by kernel_rfl) (by kernel_rfl) ?_
 repeat' (refine zap rfl ?_; first|refine zbs rfl rfl ?_|refine zan rfl ?_|refine zce rfl ?_)
 all_goals (refine zch ?_; repeat (first|refine zck ?_|refine zcl ?_|refine zcm ?_|refine zcn ?_))
 by_cases h3 : (3 : Int) < os.length
 · refine zci (congrArg Value.bool (decide_eq_true h3)) ?_
   repeat (first|refine zck ?_|refine zcl ?_|refine zcm ?_|refine zcn ?_|refine zco ?_)
   repeat (first|refine zck ?_|refine zcl ?_|refine zcm ?_|refine zcn ?_)
   first|refine zcp (by kernel_rfl) ?_|refine zcq PP_mixed (by kernel_rfl) (by kernel_rfl) ?_
   repeat' (refine zap rfl ?_; first|refine zan rfl ?_)
   all_goals (refine zch ?_; repeat (first|refine zck ?_|refine zcl ?_|refine zcm ?_|refine zcn ?_))
   exact zej rfl ⟨rfl, rfl⟩
 refine zcj (congrArg Value.bool (decide_eq_false h3)) ?_
 repeat (first|refine zck ?_|refine zcl ?_|refine zcm ?_|refine zcn ?_|refine zco ?_)
 repeat (first|refine zck ?_|refine zcl ?_|refine zcm ?_|refine zcn ?_)
 first|refine zcp (by kernel_rfl) ?_|refine zcq PP_mixed (by kernel_rfl) (by kernel_rfl) ?_
 repeat' (refine zap rfl ?_; first|refine zan rfl ?_|refine zce rfl ?_)
 all_goals (refine zch ?_; repeat (first|refine zck ?_|refine zcl ?_|refine zcm ?_|refine zcn ?_))
 repeat (first|refine zck ?_|refine zcl ?_|refine zcm ?_|refine zcn ?_|refine zco ?_)
 refine run_loop (S := Nat) (fun i => [(0, .int .i64 a), (1, .int .i64 b), (2, .slice la os.length lc), (30, .slice la os.length lc), (31, .int .i64 os.length), (32, .int .i64 i)])
   (fun i Γ => Γ = [] ∧ i ≤ os.length ∧ ∀ j x, j < i → os[j]? = some x → chk x.1 x.2.1 x.2.2 = 0 ∧ x.2.1 ≤ 1) (fun i => os.length - i) 0 ⟨rfl, rfl, rfl, rfl, rfl, rfl, trivial⟩ ⟨rfl, Nat.zero_le _, fun j x hj => absurd hj (Nat.not_lt_zero _)⟩ ?_
 rintro i Γ junk ⟨rfl, hi, hall⟩
 by_cases he : i = os.length
 · subst he
   repeat (first|refine zck ?_|refine zcl ?_|refine zcm ?_|refine zcn ?_)
   first|refine zcp (by kernel_rfl) ?_|refine zcq PP_mixed (by kernel_rfl) (by kernel_rfl) ?_
   repeat' (refine zap rfl ?_; first|refine zbh rfl rfl (by omega) ?_)
   all_goals (refine zch ?_; repeat (first|refine zck ?_|refine zcl ?_|refine zcm ?_|refine zcn ?_))
   refine zcj rfl ?_
   refine zer rfl rfl ?_
   repeat (first|refine zck ?_|refine zcl ?_|refine zcm ?_|refine zcn ?_|refine zco ?_)
   have hL3 : (os.map toAO).length ≤ 3 := by rw [List.length_map]; omega
   have hmem : ∀ x ∈ os, (toAO x).ok ∧ 0 ≤ x.2.1 ∧ x.2.1 ≤ 1 := fun x hx => by
     obtain ⟨j, hj, hjx⟩ := List.getElem_of_mem hx
     have h2 := hall j x hj (by rw [List.getElem?_eq_getElem hj, hjx])
     exact chk_zero h2.1 h2.2 (hos x hx)
   have hok : ∀ o ∈ os.map toAO, o.ok := fun o ho => by
     obtain ⟨x, hx, rfl⟩ := List.mem_map.1 ho
     exact (hmem x hx).1
   have hl2 := rd_map (encF := opE) toAO (fun x hx => toAO_enc (hmem x hx).2) hl
   have hlen : os.length = (os.map toAO).length := by rw [List.length_map]
   generalize os.map toAO = L at hL3 hok hl2 hlen
   rw [hlen]
   have hB : Of L (Tx.begin (a, b) L) := begin_of _ hL3
   have hWo := tpWorld w0 sh a b ha hb la lc L hok hL3 hl2
   repeat (first|refine zck ?_|refine zcl ?_|refine zcm ?_|refine zcn ?_)
   first|refine zcp (by kernel_rfl) ?_|refine zcq PP_mixed (by kernel_rfl) (by kernel_rfl) ?_
   repeat' (refine zap rfl ?_; first|refine zar (fun t9 => ?_)|refine zan rfl ?_|refine zae 0 rfl rfl rfl rfl rfl rfl rfl ?_|refine zex rfl ?_)
   all_goals (refine zch ?_; repeat (first|refine zck ?_|refine zcl ?_|refine zcm ?_|refine zcn ?_))
   repeat (first|refine zck ?_|refine zcl ?_|refine zcm ?_|refine zcn ?_|refine zco ?_)
   repeat (first|refine zck ?_|refine zcl ?_|refine zcm ?_|refine zcn ?_)
   first|refine zcp (by kernel_rfl) ?_|refine zcq PP_mixed (by kernel_rfl) (by kernel_rfl) ?_
   repeat' (refine zap rfl ?_; first|refine zar (fun t10 => ?_)|refine zan rfl ?_|refine zab 0 rfl rfl rfl ?_|(refine zai [] hWo rfl rfl rfl (fun _ hp => hp) ?_; rintro v Γ ⟨W, rfl, rfl⟩)|refine zae 2 rfl rfl rfl rfl rfl rfl rfl ?_)
   all_goals (refine zch ?_; repeat (first|refine zck ?_|refine zcl ?_|refine zcm ?_|refine zcn ?_))
   repeat (first|refine zck ?_|refine zcl ?_|refine zcm ?_|refine zcn ?_|refine zco ?_)
   repeat (first|refine zck ?_|refine zcl ?_|refine zcm ?_|refine zcn ?_)
   first|refine zcp (by kernel_rfl) ?_|refine zcq PP_mixed (by kernel_rfl) (by kernel_rfl) ?_
   repeat' (refine zap rfl ?_; first|refine zbx rfl ?_|refine zan rfl ?_)
   all_goals (refine zch ?_; repeat (first|refine zck ?_|refine zcl ?_|refine zcm ?_|refine zcn ?_))
   refine zcj rfl ?_
   repeat (first|refine zck ?_|refine zcl ?_|refine zcm ?_|refine zcn ?_|refine zco ?_)
   refine run_shareQ [0] (fun _ hp => hp) rfl ?_
   intro bl hs hu hw
   have hAl := expAll w0 ht L 6000 (by decide) _ W (Tx.begin (a, b) L) 0 (by decide) hB hw
   have hRe := expRed w0 ht L 6000 (by decide) _ W (Tx.begin (a, b) L) 0 (by decide) hB hw
   repeat (first|refine zck ?_|refine zcl ?_|refine zcm ?_|refine zcn ?_)
   first|refine zcp (by kernel_rfl) ?_|refine zcq PP_mixed (by kernel_rfl) (by kernel_rfl) ?_
   repeat' (refine zap rfl ?_; first|refine zan rfl ?_|refine zab 1 rfl rfl rfl ?_|(refine zai [] hAl rfl rfl rfl hu ?_; rintro v Γ ⟨acc, ad, c, n, e, rfl, rfl, hr⟩))
   all_goals (refine zch ?_; repeat (first|refine zck ?_|refine zcl ?_|refine zcm ?_|refine zcn ?_))
   repeat (first|refine zck ?_|refine zcl ?_|refine zcm ?_|refine zcn ?_|refine zco ?_)
   repeat (first|refine zck ?_|refine zcl ?_|refine zcm ?_|refine zcn ?_)
   first|refine zcp (by kernel_rfl) ?_|refine zcq PP_mixed (by kernel_rfl) (by kernel_rfl) ?_
   repeat' (refine zap rfl ?_; first|refine zan rfl ?_|refine zab 2 rfl rfl rfl ?_|(refine zai [] hRe rfl rfl rfl hu ?_; rintro v Γ ⟨acc2, ad2, c2, n2, e2, rfl, rfl, hr2⟩))
   all_goals (refine zch ?_; repeat (first|refine zck ?_|refine zcl ?_|refine zcm ?_|refine zcn ?_))
   repeat (first|refine zck ?_|refine zcl ?_|refine zcm ?_|refine zcn ?_|refine zco ?_)
   have two : (e = 0 ∧ e2 = 0) ∨ ((e = 15 ∨ e = 0) ∧ (e2 = 15 ∨ e2 = 0) ∧ ¬ (e = 0 ∧ e2 = 0)) := by
     rcases hr with ⟨rfl, _⟩ | ⟨rfl, _⟩ <;> rcases hr2 with rfl | ⟨rfl, _⟩
     · exact .inr ⟨.inl rfl, .inl rfl, by decide⟩
     · exact .inr ⟨.inl rfl, .inr rfl, by decide⟩
     · exact .inr ⟨.inr rfl, .inl rfl, by decide⟩
     · exact .inl ⟨rfl, rfl⟩
   rcases two with ⟨rfl, rfl⟩ | ⟨q1, q2, q3⟩
   rotate_left
   · rcases q1 with rfl | rfl <;> rcases q2 with rfl | rfl
     · repeat (first|refine zck ?_|refine zcl ?_|refine zcm ?_|refine zcn ?_)
       first|refine zcp (by kernel_rfl) ?_|refine zcq PP_mixed (by kernel_rfl) (by kernel_rfl) ?_
       repeat' (refine zap rfl ?_; first|refine zak rfl ?_|refine zan rfl ?_|refine zbe rfl rfl (by omega) ?_|refine zbu rfl ?_)
       all_goals (refine zch ?_; repeat (first|refine zck ?_|refine zcl ?_|refine zcm ?_|refine zcn ?_))
       refine zci rfl ?_
       repeat (first|refine zck ?_|refine zcl ?_|refine zcm ?_|refine zcn ?_|refine zco ?_)
       repeat (first|refine zck ?_|refine zcl ?_|refine zcm ?_|refine zcn ?_)
       first|refine zcp (by kernel_rfl) ?_|refine zcq PP_mixed (by kernel_rfl) (by kernel_rfl) ?_
       repeat' (refine zap rfl ?_; first|refine zaj rfl ?_|refine zan rfl ?_|refine zbc rfl rfl (by omega) ?_|refine zbd rfl rfl (by omega) ?_|refine zbu rfl ?_|refine zbv rfl ?_)
       all_goals (refine zch ?_; repeat (first|refine zck ?_|refine zcl ?_|refine zcm ?_|refine zcn ?_))
       exact zeg (zek (zel [] rfl (zem rfl rfl ⟨rfl, rfl, rfl⟩)))
     · repeat (first|refine zck ?_|refine zcl ?_|refine zcm ?_|refine zcn ?_)
       first|refine zcp (by kernel_rfl) ?_|refine zcq PP_mixed (by kernel_rfl) (by kernel_rfl) ?_
       repeat' (refine zap rfl ?_; first|refine zak rfl ?_|refine zan rfl ?_|refine zbe rfl rfl (by omega) ?_|refine zbu rfl ?_)
       all_goals (refine zch ?_; repeat (first|refine zck ?_|refine zcl ?_|refine zcm ?_|refine zcn ?_))
       refine zci rfl ?_
       repeat (first|refine zck ?_|refine zcl ?_|refine zcm ?_|refine zcn ?_|refine zco ?_)
       repeat (first|refine zck ?_|refine zcl ?_|refine zcm ?_|refine zcn ?_)
       first|refine zcp (by kernel_rfl) ?_|refine zcq PP_mixed (by kernel_rfl) (by kernel_rfl) ?_
       repeat' (refine zap rfl ?_; first|refine zaj rfl ?_|refine zak rfl ?_|refine zan rfl ?_|refine zbc rfl rfl (by omega) ?_|refine zbd rfl rfl (by omega) ?_|refine zbu rfl ?_|refine zbv rfl ?_)
       all_goals (refine zch ?_; repeat (first|refine zck ?_|refine zcl ?_|refine zcm ?_|refine zcn ?_))
       exact zeg (zek (zel [] rfl (zem rfl rfl ⟨rfl, rfl, rfl⟩)))
     · repeat (first|refine zck ?_|refine zcl ?_|refine zcm ?_|refine zcn ?_)
       first|refine zcp (by kernel_rfl) ?_|refine zcq PP_mixed (by kernel_rfl) (by kernel_rfl) ?_
       repeat' (refine zap rfl ?_; first|refine zaj rfl ?_|refine zan rfl ?_|refine zbe rfl rfl (by omega) ?_|refine zbf rfl rfl (by omega) ?_|refine zbv rfl ?_)
       all_goals (refine zch ?_; repeat (first|refine zck ?_|refine zcl ?_|refine zcm ?_|refine zcn ?_))
       refine zci rfl ?_
       repeat (first|refine zck ?_|refine zcl ?_|refine zcm ?_|refine zcn ?_|refine zco ?_)
       repeat (first|refine zck ?_|refine zcl ?_|refine zcm ?_|refine zcn ?_)
       first|refine zcp (by kernel_rfl) ?_|refine zcq PP_mixed (by kernel_rfl) (by kernel_rfl) ?_
       repeat' (refine zap rfl ?_; first|refine zaj rfl ?_|refine zak rfl ?_|refine zan rfl ?_|refine zbc rfl rfl (by omega) ?_|refine zbd rfl rfl (by omega) ?_|refine zbu rfl ?_|refine zbv rfl ?_)
       all_goals (refine zch ?_; repeat (first|refine zck ?_|refine zcl ?_|refine zcm ?_|refine zcn ?_))
       exact zeg (zek (zel [] rfl (zem rfl rfl ⟨rfl, rfl, rfl⟩)))
     · exact absurd ⟨rfl, rfl⟩ q3
   obtain ⟨_, hlA, hn1, S, hS, hm1⟩ := hr.resolve_left (fun h => by cases h.1)
   obtain ⟨_, _, hn2, S2, hS2, hm2⟩ := hr2.resolve_left (fun h => by cases h)
   obtain ⟨x1, x2, x3⟩ := explored hL3 hS hS2
   have hperm : acc.Perm acc2 := (List.perm_ext_iff_of_nodup hn1 hn2).2 fun o => (hm1 o).trans ((x1 o).trans (hm2 o).symm)
   have hsort : sortB acc2 = sortB acc := sort_same (hperm.symm.map _)
   have hlens : acc2.length = acc.length := hperm.symm.length_eq
   rw [hsort, hlens]
   obtain ⟨so, hso, hsol, hsom⟩ : ∃ so : List ByteArray, strsV (sortB acc) = so.flatMap encY ∧ so.length = acc.length ∧ ∀ o, o ∈ so ↔ o ∈ acc := by
     have toL : ∀ x : ByteArray, ofB x.data.toList = x := fun x => rfl
     refine ⟨(sortB acc).map ofB, ?_, ?_, fun o => ?_⟩
     · unfold strsV
       rw [List.flatMap_map]
       exact (flat_one (fun x => Value.string (ofB x)) (sortB acc)).symm
     · rw [List.length_map, List.length_mergeSort]; unfold unB; rw [List.length_map]
     · rw [List.mem_map]
       constructor
       · rintro ⟨z, hz, rfl⟩
         obtain ⟨y, hy, rfl⟩ := List.mem_map.1 (List.mem_mergeSort.1 hz)
         rw [toL]; exact hy
       · exact fun ho => ⟨o.data.toList, List.mem_mergeSort.2 (List.mem_map_of_mem ho), toL o⟩
   rw [hso, ← hsol]
   repeat (first|refine zck ?_|refine zcl ?_|refine zcm ?_|refine zcn ?_)
   first|refine zcp (by kernel_rfl) ?_|refine zcq PP_mixed (by kernel_rfl) (by kernel_rfl) ?_
   repeat' (refine zap rfl ?_; first|refine zaj rfl ?_|refine zan rfl ?_|refine zbf rfl rfl (by omega) ?_|refine zbv rfl ?_)
   all_goals (refine zch ?_; repeat (first|refine zck ?_|refine zcl ?_|refine zcm ?_|refine zcn ?_))
   refine zcj rfl ?_
   repeat (first|refine zck ?_|refine zcl ?_|refine zcm ?_|refine zcn ?_|refine zco ?_)
   repeat (first|refine zck ?_|refine zcl ?_|refine zcm ?_|refine zcn ?_)
   first|refine zcp (by kernel_rfl) ?_|refine zcq PP_mixed (by kernel_rfl) (by kernel_rfl) ?_
   repeat' (refine zap rfl ?_; first|refine zan rfl ?_|refine zce rfl ?_|refine zbf rfl rfl (by omega) ?_)
   all_goals (refine zch ?_; repeat (first|refine zck ?_|refine zcl ?_|refine zcm ?_|refine zcn ?_))
   refine zcj rfl ?_
   repeat (first|refine zck ?_|refine zcl ?_|refine zcm ?_|refine zcn ?_|refine zco ?_)
   refine run_shareP [0] (fun s => RdSl w0 s encY 1 (.slice ad2 so.length c2) so) (RdO.ofSl (fun _ _ => rfl) rfl) rfl ?_
   intro bl2 hs2 hrs2
   refine run_shareP [0] (fun s => RdSl w0 s encY 1 (.slice ad so.length c) so) (RdO.ofSl (fun _ _ => rfl) rfl) rfl ?_
   intro bl3 hs3 hrs
   have hrs2 := hrs2.mono hs3
   refine zeb [0] rfl ?_
   refine zec [] rfl ?_
   repeat (first|refine zck ?_|refine zcl ?_|refine zcm ?_|refine zcn ?_)
   first|refine zcp (by kernel_rfl) ?_|refine zcq PP_mixed (by kernel_rfl) (by kernel_rfl) ?_
   repeat' (refine zap rfl ?_; first|refine zcc (fun r1 => ?_)|refine zan rfl ?_)
   all_goals (refine zch ?_; repeat (first|refine zck ?_|refine zcl ?_|refine zcm ?_|refine zcn ?_))
   rename_i r0
   refine zef 0 (MapG kvS r0 []) rfl (mapG_make _) rfl ?_
   refine zef 1 (MapG kvS r1 []) rfl (mapG_make _) rfl ?_
   repeat (first|refine zck ?_|refine zcl ?_|refine zcm ?_|refine zcn ?_|refine zco ?_)
   have hOr := fun (nb : Nat) => Vc.Fn.lendA (w0 := w0) (sh := sh) (Γ := [MapG kvS r0 []]) (A := pt nb (.cells (List.toArray (List.replicate L.length (Value.bool false))) 4 (0, 0))) (ψ := fun s => RdSl w0 s boE 1 (.slice (some ⟨nb, 0, none⟩) L.length L.length) (List.replicate L.length false)) en9 (rep_rd w0 sh nb L.length)
     (fun sh' hs' hd => tpOrders w0 ht L hok hL3 la lc r0 (fals (List.replicate L.length false) + 1) sh' a b (some ⟨nb, 0, none⟩) L.length (List.replicate L.length false) [] (Nat.lt_succ_self _) ha hb (hl2.mono hs') List.length_replicate hd)
   refine run_draw [.quiet, .quiet, .quiet, .quiet, .loud, .quiet, .loud] PP_mixed (by kernel_rfl) (by kernel_rfl) ?_
   repeat' (refine zap rfl ?_; first|refine reg_makeSlice rfl rfl rfl (by omega) (by decide) (fun nv => ?_)|refine zan rfl ?_|refine zaa 0 rfl rfl rfl ?_|refine zce rfl ?_|(refine zai [2, 0] (hOr nv) rfl rfl rfl (fun p hp => .tail _ (hs3 _ (hs2 _ (hs _ hp)))) ?_; rintro v Γ ⟨_, ⟨ml1, rfl, rfl, hg1, hk1⟩, rfl⟩))
   refine zch ?_
   repeat (first|refine zck ?_|refine zcl ?_|refine zcm ?_|refine zcn ?_|refine zco ?_)
   have hg1 := hg1 good_nil
   have hso6 : so.length ≤ 6000 := by rw [hsol]; exact hlA
   repeat (first|refine zck ?_|refine zcl ?_|refine zcm ?_|refine zcn ?_)
   first|refine zcp (by kernel_rfl) ?_|refine zcq PP_mixed (by kernel_rfl) (by kernel_rfl) ?_
   repeat' (refine zap rfl ?_; first|refine zan rfl ?_|refine zce rfl ?_)
   all_goals (refine zch ?_; repeat (first|refine zck ?_|refine zcl ?_|refine zcm ?_|refine zcn ?_))
   refine zec [0, 1] rfl ?_
   refine run_loop (S := Nat × GM ByteArray) (fun s => [(12, .slice ad so.length c), (15, .slice ad2 so.length c2), (18, .map (some r0)), (19, .map (some r1)), (102, .slice ad so.length c), (103, .int .i64 so.length), (104, .int .i64 s.1)])
     (fun s Γ => Γ = [MapG kvS r0 ml1, MapG kvS r1 s.2] ∧ s.1 ≤ so.length ∧ GoodS s.2 ∧ (∀ p, p ∈ s.2.map (·.1) → p ∈ ml1.map (·.1)) ∧ ∀ j o, j < s.1 → so[j]? = some o → ∃ p r, o = p ++ r ∧ Tx.Rest r ∧ (59 : UInt8) ∉ p.data.toList ∧ p ∈ s.2.map (·.1))
     (fun s => so.length - s.1) (0, []) ⟨rfl, rfl, rfl, rfl, rfl, rfl, rfl, trivial⟩ ⟨rfl, Nat.zero_le _, good_nil, fun p hp => (by cases hp), fun j o hj => absurd hj (Nat.not_lt_zero _)⟩ ?_
   rintro ⟨i, ml2⟩ Γ junk2 ⟨rfl, hi, hg2, hin, hdone⟩
   dsimp only at hi hg2 hin hdone ⊢
   by_cases he : i = so.length
   · subst he
     repeat (first|refine zck ?_|refine zcl ?_|refine zcm ?_|refine zcn ?_)
     first|refine zcp (by kernel_rfl) ?_|refine zcq PP_mixed (by kernel_rfl) (by kernel_rfl) ?_
     repeat' (refine zap rfl ?_; first|refine zbh rfl rfl (by omega) ?_)
     all_goals (refine zch ?_; repeat (first|refine zck ?_|refine zcl ?_|refine zcm ?_|refine zcn ?_))
     refine zcj rfl ?_
     refine zer rfl rfl ?_
     repeat (first|refine zck ?_|refine zcl ?_|refine zcm ?_|refine zcn ?_|refine zco ?_)
     have hpl : ml2.length = ml1.length := by
       have hp : (ml2.map (·.1)).Perm (ml1.map (·.1)) := (List.perm_ext_iff_of_nodup hg2.1 hg1.1).2 fun q => ⟨hin q, fun hq => by
         rcases (hk1 q).1 hq with h | ⟨f, hf, rfl⟩
         · cases h
         · obtain ⟨o, ho, r, hor, hr⟩ := x3 f hf
           obtain ⟨j, hj, hjo⟩ := List.getElem_of_mem ((hsom o).2 ((hm1 o).2 ho))
           obtain ⟨p, r', h1, h2, h3, h4⟩ := hdone j o hj (by rw [List.getElem?_eq_getElem hj, hjo])
           rw [cut_one (hor.symm.trans h1) (wtext_no59 _ _) h3 hr h2]
           exact h4⟩
       have := hp.length_eq
       rwa [List.length_map, List.length_map] at this
     repeat (first|refine zck ?_|refine zcl ?_|refine zcm ?_|refine zcn ?_)
     first|refine zcp (by kernel_rfl) ?_|refine zcq PP_mixed (by kernel_rfl) (by kernel_rfl) ?_
     repeat' (refine zap rfl ?_; first|refine zbc rfl rfl (by omega) ?_|refine zan rfl ?_|refine reg_lenG (kv := kvS) 1 rfl rfl ?_|refine reg_lenG (kv := kvS) 0 rfl rfl ?_)
     all_goals (refine zch ?_; repeat (first|refine zck ?_|refine zcl ?_|refine zcm ?_|refine zcn ?_))
     exact zeg (zek (zel [] rfl (zem rfl rfl ⟨rfl, rfl, rfl⟩)))
   · obtain ⟨o, ho⟩ : ∃ o, so[i]? = some o := ⟨_, List.getElem?_eq_getElem (by omega)⟩
     obtain ⟨bb, off, cc, T, fr, ea, e2, _, e3⟩ := hrs.cells ho
     obtain ⟨bb', off', cc', T', fr', ea', f2, _, f3⟩ := hrs2.cells ho
     subst ea
     have hea : ad2 = some ⟨bb', off', none⟩ := ea'
     subst hea
     obtain ⟨f, r, hf, hof, hr⟩ := x2 o ((hm1 o).1 ((hsom o).1 (List.mem_of_getElem? ho)))
     obtain ⟨hf1, hf2⟩ := ord_i64 hok hf ha hb
     have hpin : wtext f.1 f.2 ∈ ml1.map (·.1) := (hk1 _).2 (.inr ⟨f, hf, rfl⟩)
     have hlk := hg1.look hpin
     have hCt := strCut w0 (wtext f.1 f.2) r (wtext_no59 _ _) hr (wtext_ne _ _ _) (by have := wtext_size hf1 hf2; omega)
     rw [← hof] at hCt
     have hp59 := wtext_no59 f.1 f.2
     generalize wtext f.1 f.2 = p at hof hpin hlk hCt hp59
     repeat (first|refine zck ?_|refine zcl ?_|refine zcm ?_|refine zcn ?_)
     first|refine zcp (by kernel_rfl) ?_|refine zcq PP_mixed (by kernel_rfl) (by kernel_rfl) ?_
     repeat' (refine zap rfl ?_; first|refine zbg rfl rfl (by omega) ?_)
     all_goals (refine zch ?_; repeat (first|refine zck ?_|refine zcl ?_|refine zcm ?_|refine zcn ?_))
     refine zci rfl ?_
     repeat (first|refine zck ?_|refine zcl ?_|refine zcm ?_|refine zcn ?_|refine zco ?_)
     repeat (first|refine zck ?_|refine zcl ?_|refine zcm ?_|refine zcn ?_)
     first|refine zcp (by kernel_rfl) ?_|refine zcq PP_mixed (by kernel_rfl) (by kernel_rfl) ?_
     repeat' (refine zap rfl ?_; first|refine zas rfl rfl (by omega) ?_|refine zad rfl (fun hF Γ w h1 h2 => e2 hF Γ w (fun p hp => h1 p (.tail _ hp)) h2) (e3 0 _ rfl _ (by omega)) ?_|refine zan rfl ?_)
     all_goals (refine zch ?_; repeat (first|refine zck ?_|refine zcl ?_|refine zcm ?_|refine zcn ?_))
     repeat (first|refine zck ?_|refine zcl ?_|refine zcm ?_|refine zcn ?_|refine zco ?_)
     repeat (first|refine zck ?_|refine zcl ?_|refine zcm ?_|refine zcn ?_)
     first|refine zcp (by kernel_rfl) ?_|refine zcq PP_mixed (by kernel_rfl) (by kernel_rfl) ?_
     repeat' (refine zap rfl ?_; first|refine zas rfl rfl (by omega) ?_|refine reg_neSF rfl rfl rfl ?_|refine zad rfl (fun hF Γ w h1 h2 => f2 hF Γ w (fun p hp => h1 p (.tail _ hp)) h2) (f3 0 _ rfl _ (by omega)) ?_|refine zan rfl ?_)
     all_goals (refine zch ?_; repeat (first|refine zck ?_|refine zcl ?_|refine zcm ?_|refine zcn ?_))
     refine zcj rfl ?_
     repeat (first|refine zck ?_|refine zcl ?_|refine zcm ?_|refine zcn ?_|refine zco ?_)
     repeat (first|refine zck ?_|refine zcl ?_|refine zcm ?_|refine zcn ?_)
     first|refine zcp (by kernel_rfl) ?_|refine zcq PP_mixed (by kernel_rfl) (by kernel_rfl) ?_
     repeat' (refine zap rfl ?_; first|refine zan rfl ?_|(refine zai [] hCt rfl rfl rfl zdj ?_; rintro v Γ ⟨s1, s2, rfl, rfl⟩))
     all_goals (refine zch ?_; repeat (first|refine zck ?_|refine zcl ?_|refine zcm ?_|refine zcn ?_))
     repeat (first|refine zck ?_|refine zcl ?_|refine zcm ?_|refine zcn ?_|refine zco ?_)
     repeat (first|refine zck ?_|refine zcl ?_|refine zcm ?_|refine zcn ?_)
     first|refine zcp (by kernel_rfl) ?_|refine zcq PP_mixed (by kernel_rfl) (by kernel_rfl) ?_
     repeat' (refine zap rfl ?_; first|refine reg_lookupG (kv := kvS) (a := p) 0 rfl rfl rfl hlk ?_|refine zbx rfl ?_|refine zan rfl ?_)
     all_goals (refine zch ?_; repeat (first|refine zck ?_|refine zcl ?_|refine zcm ?_|refine zcn ?_))
     refine zcj rfl ?_
     repeat (first|refine zck ?_|refine zcl ?_|refine zcm ?_|refine zcn ?_|refine zco ?_)
     repeat (first|refine zck ?_|refine zcl ?_|refine zcm ?_|refine zcn ?_)
     first|refine zcp (by kernel_rfl) ?_|refine zcq PP_mixed (by kernel_rfl) (by kernel_rfl) ?_
     repeat' (refine zap rfl ?_; first|refine reg_mapUpdateG (kv := kvS) (a := p) (u := .bool true) 1 rfl rfl rfl rfl rfl ?_|refine zan rfl ?_)
     all_goals (refine zch ?_; repeat (first|refine zck ?_|refine zcl ?_|refine zcm ?_|refine zcn ?_))
     repeat (first|refine zck ?_|refine zcl ?_|refine zcm ?_|refine zcn ?_|refine zco ?_)
     repeat (first|refine zck ?_|refine zcl ?_|refine zcm ?_|refine zcn ?_)
     first|refine zcp (by kernel_rfl) ?_|refine zcq PP_mixed (by kernel_rfl) (by kernel_rfl) ?_
     repeat' (refine zap rfl ?_; first|refine zan rfl ?_|refine zau rfl rfl (by omega) ?_)
     all_goals (refine zch ?_; repeat (first|refine zck ?_|refine zcl ?_|refine zcm ?_|refine zcn ?_))
     refine zeq ⟨rfl, (i + 1, insG ml2 p (.bool true)), ⟨rfl, rfl, rfl, rfl, rfl, rfl, zes (by omega), trivial⟩, ⟨rfl, by dsimp only; omega, hg2.ins p, fun q hq => ?_, fun j o' hj ho' => ?_⟩, by dsimp only; omega⟩
     · rcases (insG_keys ml2 p _ q).1 hq with rfl | hq
       · exact hpin
       · exact hin q hq
     · by_cases e : j = i
       · subst e
         rw [ho] at ho'
         cases ho'
         exact ⟨p, r, hof, hr, hp59, (insG_keys ml2 p _ p).2 (.inl rfl)⟩
       · obtain ⟨p', r', h1, h2, h3, h4⟩ := hdone j o' (by dsimp only at hj; omega) ho'
         exact ⟨p', r', h1, h2, h3, (insG_keys ml2 p _ p').2 (.inr h4)⟩
 · obtain ⟨x, hx⟩ : ∃ x, os[i]? = some x := ⟨_, List.getElem?_eq_getElem (by omega)⟩
   obtain ⟨bb, off, cc, T, fr, ea, e2, e3, _⟩ := hl.cells hx
   subst ea
   have hC := check_spec w0 x.1 x.2.1 x.2.2
   repeat (first|refine zck ?_|refine zcl ?_|refine zcm ?_|refine zcn ?_)
   first|refine zcp (by kernel_rfl) ?_|refine zcq PP_mixed (by kernel_rfl) (by kernel_rfl) ?_
   repeat' (refine zap rfl ?_; first|refine zbg rfl rfl (by omega) ?_)
   all_goals (refine zch ?_; repeat (first|refine zck ?_|refine zcl ?_|refine zcm ?_|refine zcn ?_))
   refine zci rfl ?_
   repeat (first|refine zck ?_|refine zcl ?_|refine zcm ?_|refine zcn ?_|refine zco ?_)
   repeat (first|refine zck ?_|refine zcl ?_|refine zcm ?_|refine zcn ?_)
   first|refine zcp (by kernel_rfl) ?_|refine zcq PP_mixed (by kernel_rfl) (by kernel_rfl) ?_
   repeat' (refine zap rfl ?_; first|refine zas rfl rfl (by omega) ?_|refine zar (fun t8 => ?_)|refine zad rfl e2 (e3 _ (by omega)) ?_|refine zae 0 rfl rfl rfl rfl rfl rfl rfl ?_)
   all_goals (refine zch ?_; repeat (first|refine zck ?_|refine zcl ?_|refine zcm ?_|refine zcn ?_))
   repeat (first|refine zck ?_|refine zcl ?_|refine zcm ?_|refine zcn ?_|refine zco ?_)
   refine zeb [0] rfl ?_
   have more : chk x.1 x.2.1 x.2.2 = 0 → x.2.1 ≤ 1 → ∀ j z, j < i + 1 → os[j]? = some z → chk z.1 z.2.1 z.2.2 = 0 ∧ z.2.1 ≤ 1 := fun h1 h2 j z hj hz => by
     by_cases e : j = i
     · subst e; rw [hx] at hz; cases hz; exact ⟨h1, h2⟩
     · exact hall j z (by omega) hz
   generalize hck : chk x.1 x.2.1 x.2.2 = ck at hC more
   by_cases hc0 : ck = 0
   · subst hc0
     by_cases h1 : 1 < x.2.1
     · repeat (first|refine zck ?_|refine zcl ?_|refine zcm ?_|refine zcn ?_)
       first|refine zcp (by kernel_rfl) ?_|refine zcq PP_mixed (by kernel_rfl) (by kernel_rfl) ?_
       repeat' (refine zap rfl ?_; first|refine zaj rfl ?_|refine zan rfl ?_|refine zaa 0 rfl rfl rfl ?_|refine zah [] hC rfl rfl rfl zdj rfl ?_|refine zao rfl ?_|refine zbf rfl rfl (by omega) ?_|refine zbk rfl rfl (by omega) ?_|refine zbv rfl ?_)
       all_goals (refine zch ?_; repeat (first|refine zck ?_|refine zcl ?_|refine zcm ?_|refine zcn ?_))
       refine zci rfl ?_
       repeat (first|refine zck ?_|refine zcl ?_|refine zcm ?_|refine zcn ?_|refine zco ?_)
       repeat (first|refine zck ?_|refine zcl ?_|refine zcm ?_|refine zcn ?_)
       first|refine zcp (by kernel_rfl) ?_|refine zcq PP_mixed (by kernel_rfl) (by kernel_rfl) ?_
       repeat' (refine zap rfl ?_; first|refine zan rfl ?_)
       all_goals (refine zch ?_; repeat (first|refine zck ?_|refine zcl ?_|refine zcm ?_|refine zcn ?_))
       exact cut_ret (zek (zem rfl rfl ⟨rfl, rfl⟩))
     · repeat (first|refine zck ?_|refine zcl ?_|refine zcm ?_|refine zcn ?_)
       first|refine zcp (by kernel_rfl) ?_|refine zcq PP_mixed (by kernel_rfl) (by kernel_rfl) ?_
       repeat' (refine zap rfl ?_; first|refine zaj rfl ?_|refine zan rfl ?_|refine zaa 0 rfl rfl rfl ?_|refine zah [] hC rfl rfl rfl zdj rfl ?_|refine zao rfl ?_|refine zbf rfl rfl (by omega) ?_|refine zbl rfl rfl (by omega) ?_|refine zbv rfl ?_)
       all_goals (refine zch ?_; repeat (first|refine zck ?_|refine zcl ?_|refine zcm ?_|refine zcn ?_))
       refine zcj rfl ?_
       repeat (first|refine zck ?_|refine zcl ?_|refine zcm ?_|refine zcn ?_|refine zco ?_)
       repeat (first|refine zck ?_|refine zcl ?_|refine zcm ?_|refine zcn ?_)
       first|refine zcp (by kernel_rfl) ?_|refine zcq PP_mixed (by kernel_rfl) (by kernel_rfl) ?_
       repeat' (refine zap rfl ?_; first|refine zan rfl ?_|refine zau rfl rfl (by omega) ?_)
       all_goals (refine zch ?_; repeat (first|refine zck ?_|refine zcl ?_|refine zcm ?_|refine zcn ?_))
       exact zeq ⟨rfl, i + 1, ⟨rfl, rfl, rfl, rfl, rfl, zes (by omega), trivial⟩, ⟨rfl, by omega, more rfl (by omega)⟩, by omega⟩
   · repeat (first|refine zck ?_|refine zcl ?_|refine zcm ?_|refine zcn ?_)
     first|refine zcp (by kernel_rfl) ?_|refine zcq PP_mixed (by kernel_rfl) (by kernel_rfl) ?_
     repeat' (refine zap rfl ?_; first|refine zak rfl ?_|refine zan rfl ?_|refine zaa 0 rfl rfl rfl ?_|refine zah [] hC rfl rfl rfl zdj rfl ?_|refine zbe rfl rfl (by omega) ?_|refine zbu rfl ?_)
     all_goals (refine zch ?_; repeat (first|refine zck ?_|refine zcl ?_|refine zcm ?_|refine zcn ?_))
     refine zci rfl ?_
     repeat (first|refine zck ?_|refine zcl ?_|refine zcm ?_|refine zcn ?_|refine zco ?_)
     repeat (first|refine zck ?_|refine zcl ?_|refine zcm ?_|refine zcn ?_)
     first|refine zcp (by kernel_rfl) ?_|refine zcq PP_mixed (by kernel_rfl) (by kernel_rfl) ?_
     repeat' (refine zap rfl ?_; first|refine zan rfl ?_)
     all_goals (refine zch ?_; repeat (first|refine zck ?_|refine zcl ?_|refine zcm ?_|refine zcn ?_))
     exact cut_ret (zek (zem rfl rfl ⟨rfl, rfl⟩))
end Go.Proofs.YtikackodhiollaaGreatDoor
namespace Go.Proofs.YtikackodhiollaaGreatDoor
open Go.Vc Sim Go.ChangeShapes Go.WideShapes Go.RowKit
set_option maxRecDepth 100000
theorem cOwn : ownKnob Tryz.prog.godebug = none := by kernel_rfl
end Go.Proofs.YtikackodhiollaaGreatDoor
namespace Go.Proofs.YtikackodhiollaaGreatDoor
open Go.Vc Sim Go.ChangeShapes Go.WideShapes Go.RowKit
set_option maxRecDepth 100000
theorem texp_and {a b : Bool} (h1 : a = true) (h2 : b = true) : (a && b) = true := by rw [h1, h2]; rfl
set_option maxHeartbeats 100000000 in
theorem texp_facts : joinedFacts Tryz.prog 3 Tryz.f3 Rows.topExploredSpec Rows.topExploredRow = true := by
 unfold joinedFacts
 repeat' (with_reducible refine texp_and ?_ ?_)
 all_goals decide +kernel
set_option maxHeartbeats 100000000 in
theorem texp_goes : false = Rows.topExploredRow.goesBy Tryz.prog := by decide +kernel
set_option maxHeartbeats 100000000 in
theorem texp_looks : true = Tryz.prog.looks [] := by decide +kernel
end Go.Proofs.YtikackodhiollaaGreatDoor
namespace Go.Proofs.YtikackodhiollaaGreatDoor
open Go.Vc Sim Sim.Tx Go.ChangeShapes Go.WideShapes Go.RowKit
set_option maxRecDepth 100000
theorem cLaid : laidOutB Tryz.prog = true := by kernel_rfl
def nPl (i : Nat) : String := Rows.topExploredRow.named.getD i ""
def lKw : List (String × DataW Unit) := [(nPl 1, Rows.laid_math_bits_deBruijn32tab), (nPl 2, Rows.laid_math_bits_deBruijn64tab), (nPl 0, Rows.laid_internal_strconv_uint64pow10)]
theorem laid_p10 : (Rows.laid_internal_strconv_uint64pow10 : DataW Unit) = Lib.tabData .u64 Lib.pow10Tab := by kernel_rfl
theorem gP10 : Tryz.prog.globalNamed (nPl 0) = some 1 := by kernel_rfl
theorem tP10 : (Tryz.prog.globals[1]?).map (·.type) = some 234 := by kernel_rfl
theorem heap_var {W : World} {g : Nat} {s : String} {cs : Array Value} (hg : Tryz.prog.globalNamed s = some g) (h : W.var? Tryz.prog s = some cs) : ∃ T fr, W.heap[g]? = some (.cells cs T fr) := by
 unfold World.var? at h
 rw [hg] at h
 simp only [Option.bind_some] at h
 split at h
 · rename_i c T fr hc
   cases h
   exact ⟨T, fr, hc⟩
 · cases h
theorem glob_ok {W : World} (h : laidMetH Tryz.prog lKw W) : TabOk W := by
 rw [MakeChecks.laidMetH_plain _ _ _ (by kernel_rfl), lKw] at h
 obtain ⟨ps, ⟨_, _, _, _, _, q1, _, _, _, _, ⟨_, _, _, _, _, q2, _, _, _, _, ⟨g3, t3, c3, f3, p3, q3, hg3, ht3, hv3, hd3, _, _⟩, _⟩, _⟩, _⟩ := h
 obtain rfl := Option.some.inj (gP10.symm.trans hg3)
 obtain rfl := Option.some.inj (tP10.symm.trans ht3)
 rw [laid_p10] at hd3
 have e3 := Lib.cells_of_tab Tryz.underlying234 Tryz.underlying117 (by kernel_rfl) (by kernel_rfl) hd3
 obtain ⟨T3, r3, w3⟩ := heap_var gP10 hv3
 exact ⟨T3, r3, by rw [w3, ← e3]⟩
theorem door_met (os : Os) (args : Array Value) : laidMetH Tryz.prog lKw ((World.doorLaid Tryz.prog 400 os).forCall (fun _ _ => 0) ⟨#[], args, []⟩).memory :=
 laidMetH_of_parts3 (fuel := 8) (laidMet_of_run' 8 (by kernel_rfl) (by kernel_rfl)) (by kernel_rfl) (by kernel_rfl)
theorem calls_of {f : FuncId} {args : List Value} {W : World} (h : FnE PP W [] f args [] (.bool true) []) : Calls Tryz.prog f args.toArray W fun e W' => e = .returned (.bool true) ∧ Below W.heap.size W W' := by
 have := h.calls Heap.emp W (fun p hp => by cases hp) (st_start W)
 rw [PP_def] at this
 exact this.mono fun e W' ⟨v, Γ', he, ⟨hv, hΓ⟩, hst⟩ => ⟨by rw [he, hv], below_of_good hst.good⟩
theorem in_op {H : Type} {enc : TypeId × Value → H} {w : World} {base : Nat} {spare : Nat → Bool} {held : Bool} {n : Nat} {cs : List Value} {y : DataW H × List MemPlace}
   (h : DataW.trod enc Tryz.prog w base spare held n 26 cs = some y) : ∃ x : Int × Int × Int, I64 x.2.2 ∧ cs = op3E x := by
 obtain ⟨xs, n', _, hy, hlen, hxl, hf⟩ := DataW.trod_struct Tryz.underlying26 h
 have c0 : Tryz.prog.cellsOf 3 = 1 := by kernel_rfl
 have c1 : Tryz.prog.cellsOf 24 = 1 := by kernel_rfl
 have c2 : Tryz.prog.cellsOf 2 = 1 := by kernel_rfl
 have cT : Tryz.prog.cellsOf 26 = 3 := by kernel_rfl
 rw [cT] at hlen
 have f0 : DataW.trod enc Tryz.prog w base spare held n' 3 ((cs.drop 0).take (Tryz.prog.cellsOf 3)) = xs[0]? := hf 0 _ rfl
 have f1 : DataW.trod enc Tryz.prog w base spare held n' 24 ((cs.drop 1).take (Tryz.prog.cellsOf 24)) = xs[1]? := hf 1 _ rfl
 have f2 : DataW.trod enc Tryz.prog w base spare held n' 2 ((cs.drop 2).take (Tryz.prog.cellsOf 2)) = xs[2]? := hf 2 _ rfl
 rw [c0] at f0
 rw [c1] at f1
 rw [c2] at f2
 match cs, hlen with
 | [a0, a1, a2], _ =>
   match xs, hxl with
   | [y0, y1, y2], _ =>
     obtain ⟨k0, e0, _⟩ := DataW.trod_int Tryz.underlying3 (show DataW.trod _ _ _ _ _ _ n' _ [a0] = some y0 from f0)
     obtain ⟨k1, e1, _⟩ := DataW.trod_int Tryz.underlying24 (show DataW.trod _ _ _ _ _ _ n' _ [a1] = some y1 from f1)
     obtain ⟨k2, e2, _, w2⟩ := DataW.trod_int Tryz.underlying2 (show DataW.trod _ _ _ _ _ _ n' _ [a2] = some y2 from f2)
     simp only [List.cons.injEq, and_true] at e0 e1 e2
     subst e0; subst e1; subst e2
     exact ⟨(k0, k1, k2), wf_i64 w2, rfl⟩
theorem texp_lifted (os : Os) (started : os.Started) (H : Type) (enc : TypeId × Value → H) :
   ReturnsInHanded {} Tryz.checked os 3 .any (fun w args => (Rows.topExploredSpec.pre enc Tryz.prog Tryz.f3 [] false w args ∧ laidMetH Tryz.prog lKw w) ∧ sizedMet enc Tryz.prog Tryz.f3 (OpenSpec.ofChange Rows.topExploredSpec) false w args)
     (Rows.topExploredSpec.post enc Tryz.prog Tryz.f3 false true false false) := by
 refine returnsInHanded_of_change_and (C := Tryz.checked) (X := (fun w (_ : Array Value) => laidMetH Tryz.prog lKw w)) (fun _ _ _ hh h => h.of_heap hh) cOwn started (by kernel_rfl) Tryz.func3
   (ChangeSpec.witness_shaped (enc := enc) (C := Tryz.checked) (os := os) (X := (fun w (_ : Array Value) => laidMetH Tryz.prog lKw w)) false (World.doorLaid Tryz.prog 400 os) #[.int .i64 0, .int .i64 0, .slice none 0 0] 8 rfl (World.shaped_of_RefB (by kernel_rfl) (by kernel_rfl)) (by kernel_rfl) (by kernel_rfl) (by kernel_rfl) (door_met os _)) ?_
 intro W base args ds gs before hval0 hW _ _ hL _
 have hval : ∀ (j : Nat) t v, Tryz.f3.params[j]? = some t → args[j]? = some v → Value.okWide Tryz.prog W .any base t v := hval0
 have hW' := hW
 obtain ⟨p, q, hA0, hV, rfl, hfz, hnd⟩ := hW
 obtain ⟨rfl, rfl⟩ := trodVars_none hV
 have hA : DataW.TrodAll enc Tryz.prog W 0 (fun _ => true) true Tryz.f3.params.toList args.toList ds p := hA0
 rw [Tryz.params3] at hA hval
 obtain ⟨v0, v1, v2, d0, d1, d2, p0, p1, p2, rfl, rfl, rfl, h0, h1, h2⟩ := trodAll_three hA
 obtain ⟨a, rfl, ha⟩ := in_i64 Tryz.underlying2 (hval 0 _ _ rfl rfl) h0
 obtain ⟨b, rfl, hb⟩ := in_i64 Tryz.underlying2 (hval 1 _ _ rfl rfl) h1
 obtain ⟨l, hl, hok⟩ := in_slice (m := 3) op3E (fun x => I64 x.2.2) Tryz.underlying22 (by kernel_rfl) (by decide) (hval 2 _ _ rfl rfl) (fun n cs y hy => in_op hy) h2
 have hl : RdSl W [] op3E 3 v2 l := hl.rd
 obtain ⟨la, lc, hv2, _⟩ := id hl
 subst hv2
 refine (calls_of (topExplored_spec W (glob_ok hL) [] a b ha hb la lc l hok hl)).mono fun e W' ⟨he, hbl⟩ => ⟨.bool true, he, ?_⟩
 exact law_post (tb := 4) cLaid (by
   rw [Tryz.params3]
   intro t ht
   have hall : (#[2, 2, 22].toList.all fun t => Tryz.prog.readableRec t && decide (t < Tryz.prog.types.size)) = true := by kernel_rfl
   have h := List.all_eq_true.1 hall t ht
   rw [Bool.and_eq_true, decide_eq_true_eq] at h
   exact h) rfl (by kernel_rfl) Tryz.underlying4 ⟨rfl, rfl, rfl⟩ hW' hbl
end Go.Proofs.YtikackodhiollaaGreatDoor
