import Derived.Test.YtgdhcgnmffgkiaaGreatDoorPart12
import Derived.Test.YtgdhcgnmffgkiaaGreatDoorPart6
import Derived.Test.YtgdhcgnmffgkiaaGreatDoorPart3
/- Own work: lemmas of this claim. -/
namespace Go.Proofs.YtgdhcgnmffgkiaaGreatDoor
variable (w0 : World)
open Go.Vc Sim
set_option maxHeartbeats 4000000
theorem doE (sh : Shared) (p : Nat) (P : Pl) (k r : Int) (name : ByteArray) (a : Option Addr) (len c : Nat) (m : MRow) (hm : ((msK k).find? fun m => decide (m.1.1 = name)) = some m) (hk : ctName k ≠ bs []) (ha : m.1.2.1 = (len : Int)) (s s' : Sp) (q : Int × Int)
   (hf : FnE PP w0 sh m.2 [onV p P r, .slice a len c] [SpaceA p s] (encI2 q) [SpaceA p s']) :
   FnE PP w0 sh 13 [spP p, poolV P, .agg (List.toArray [.int .i64 k, .int .i64 r]), .string name, .slice a len c] [SpaceA p s] (encI2 (if q.2 ≠ 0 then 0 else q.1, q.2)) [SpaceA p s'] := by
 obtain ⟨v, e⟩ := q
 have hfm := findM_spec w0 k name
 rw [hm] at hfm
 unfold findMV at hfm
 have hnm := name_spec w0 k
 obtain ⟨⟨mn, ma, mw⟩, mf⟩ := m
 dsimp only at ha hf hfm
 subst ha
 have hfm : FnE PP w0 [] 31 [.int .i64 k, .string name] [] (.tuple #[.agg (List.toArray [.string mn, .int .i64 (len : Int), .bool mw, .func (.func mf) #[] #[]]), .bool true]) [] := hfm
 refine zep en13 fn13 rfl rfl rfl ?_
 refine zyr ?_
 repeat' first|(refine zap rfl ?_;first|refine zaq (cs := [_, _, _]) rfl (fun t6 => ?_)|refine zaq (cs := [_, _]) rfl (fun t7 => ?_))|refine zp ?_|refine zyn ?_
 refine zeb [1] rfl ?_
 refine zeb [1] rfl ?_
 refine zyr ?_
 repeat' first|(refine zap rfl ?_;first|refine zdr rfl rfl hk ?_|refine zah [] hnm rfl rfl rfl zdj rfl ?_)|refine zyl 0 rfl ?_|refine zyf rfl ?_|refine zyn ?_
 refine zcj rfl ?_
 refine zyr ?_
 repeat' first|(refine zap rfl ?_;first|refine zar (fun t12 => ?_)|refine zah [] hfm rfl rfl rfl zdj rfl ?_|refine zae 1 rfl rfl rfl rfl rfl rfl rfl ?_)|refine zp ?_|refine zyl 0 rfl ?_|refine zyf rfl ?_|refine zyn ?_
 refine zeb [1] rfl ?_
 repeat (first|refine zck ?_|refine zcl ?_|refine zcm ?_|refine zcn ?_|refine zco ?_)
 refine zyr ?_
 repeat' first|(refine zap rfl ?_;refine zbx rfl ?_)|refine zp ?_|refine zyn ?_
 refine zcj rfl ?_
 refine zyr ?_
 repeat' first|(refine zap rfl ?_;first|refine zce rfl ?_|refine zbf rfl rfl (by omega) ?_)|refine zp ?_|refine zyl 0 rfl ?_|refine zyf rfl ?_|refine zyn ?_
 refine zcj rfl ?_
 refine zyr ?_
 repeat' first|(refine zap rfl ?_;first|refine zcb rfl ?_|refine zah [0] hf rfl rfl rfl (fun p hp => .tail _ (.tail _ (.tail _ hp))) rfl ?_)|refine zp ?_|refine zyl 0 rfl ?_|refine zyl 1 rfl ?_|refine zyl 2 rfl ?_|refine zyf rfl ?_|refine zyn ?_
 by_cases he : e = 0
 · subst he
   refine zyr ?_
   repeat' first|(refine zap rfl ?_;refine zbf rfl rfl (by omega) ?_)|refine zp ?_|refine zyn ?_
   refine zcj rfl ?_
   repeat' first|refine zck ?_|refine zcm ?_|refine zyq ?_|refine zp ?_|refine zch ?_
   exact zei rfl ⟨rfl, rfl⟩
 · repeat (first|refine zck ?_|refine zcl ?_|refine zcm ?_|refine zcn ?_)
   refine zyr ?_
   repeat' first|(refine zap rfl ?_;refine zbe rfl rfl (by omega) ?_)|refine zp ?_|refine zyn ?_
   refine zci rfl ?_
   repeat' first|refine zck ?_|refine zyq ?_|refine zp ?_|refine zch ?_
   refine zei rfl ⟨?_, rfl⟩
   show encI2 (0, e) = encI2 (if e ≠ 0 then 0 else v, e)
   rw [if_pos he]
def cnt : Nat → List Nat → Nat
 | 0, _ => 0
 | n + 1, s => cnt n s + if n ∈ s then 0 else 1
theorem cnt_more (q : Nat) (s : List Nat) (hs : q ∉ s) : ∀ n, (n ≤ q → cnt n (s ++ [q]) = cnt n s) ∧ (q < n → cnt n (s ++ [q]) + 1 = cnt n s)
 | 0 => ⟨fun _ => rfl, fun h => absurd h (by omega)⟩
 | n + 1 => by
   obtain ⟨h1, h2⟩ := cnt_more q s hs n
   simp only [cnt]
   refine ⟨fun h => ?_, fun h => ?_⟩
   · have hne : n ≠ q := by omega
     rw [h1 (by omega)]; simp [hne]
   · by_cases e : q = n
     · subst e; rw [h1 (Nat.le_refl _)]; simp [hs]
     · have := h2 (by omega)
       have e2 : (n ∈ s ++ [q]) = (n ∈ s) := by simp; intro h; omega
       simp only [e2]; omega
theorem new_spec (kb : Nat) (kn : List (Int × Wd)) (hkn : ∀ (q : Nat) a w, kn[q]? = some (a, w) → lookW kn a = some w ∧ w.ref = 0) :
   Vc.Fn PP w0 [] 29 [.map (some kb)] [pt kb (mapI (knM kn))]
     (fun v Γ => ∃ p kn', v = spP p ∧ Γ = [SpaceA p ⟨kn', [], [], 0, false⟩] ∧ ∀ a, lookW kn' a = lookW kn a) := by
 refine zep en29 fn29 rfl rfl rfl ?_
 refine zyr ?_
 repeat' refine zp ?_
 all_goals refine zyn ?_
 refine zyr ?_
 repeat' first|(refine zap rfl ?_;first|refine zaq (cs := [_, _, _, _, _]) rfl (fun nb => ?_)|refine zcc (fun nb => ?_)|refine zcb rfl ?_)|refine zp ?_|refine zyn ?_
 rename_i m1 m2
 revert nb; intro p
 refine run_share_keep [3] rfl ?_
 refine zyr ?_
 repeat' first|(refine zap rfl ?_;refine reg_range 0 rfl rfl (fun nb => ?_))|refine zp ?_|refine zyn ?_
 revert nb; intro it
 refine run_loop (S := List (Int × Wd) × List Nat) (fun _ => [(3, spP p), (11, .pointer (some ⟨it, 0, none⟩))])
   (fun st Γ => Γ = [pt kb (mapI (knM kn)), pt m1 (mapI (knM st.1)), pt m2 (mapI []), pt it (iterI kb (knM kn).length st.2 (knM kn).length)] ∧ (∀ q ∈ st.2, ∀ a w, kn[q]? = some (a, w) → lookW st.1 a = some w) ∧ (∀ a w, lookW st.1 a = some w → lookW kn a = some w))
   (fun st => cnt kn.length st.2) ([], []) ⟨rfl, rfl, trivial⟩ ⟨rfl, by simp, by simp [lookW]⟩ ?_
 rintro ⟨kn', seen⟩ Γ junk ⟨rfl, h1, h2⟩
 dsimp only at h1 h2 ⊢
 repeat (first|refine zck ?_|refine zcl ?_|refine zcm ?_|refine zcn ?_|refine zco ?_)
 refine zcp (by kernel_rfl) ?_
 refine zap rfl ?_
 refine reg_next 3 0 rfl rfl (pt_know 0 rfl) rfl (fun _ => rfl) (fun hall => ?_) (fun q e hq hns => ?_)
 · repeat' first|refine zck ?_|refine zp ?_|refine zch ?_|refine zcj rfl ?_
   refine zer rfl rfl ?_
   repeat' first|refine zck ?_|refine zyq ?_|refine zp ?_|refine zch ?_
   refine run_nilslice 247 2 ?_
   refine zeg (zek (ends_close1 (A := SpaceA p ⟨kn', [], [], 0, false⟩) [5, 1, 1, 2] rfl (fun _ h => ⟨(m1, m2, none, 0), h⟩) (zem rfl rfl ⟨rfl, p, kn', rfl, rfl, fun a => ?_⟩)))
   cases hk : lookW kn a with
   | none =>
     cases hk' : lookW kn' a with
     | none => rfl
     | some w => have := h2 a w hk'; rw [hk] at this; cases this
   | some w =>
     obtain ⟨q, hq⟩ := lookW_mem kn a w hk
     have hql := (List.getElem?_eq_some_iff.1 hq).1
     exact h1 q (hall q (by rw [knM_length]; exact hql)) a w hq
 · rw [knM_get] at hq
   obtain ⟨⟨a, w⟩, hq2, rfl⟩ : ∃ aw, kn[q]? = some aw ∧ e = (aw.1, wordV aw.2) := by
     cases h : kn[q]? with
     | none => rw [h] at hq; cases hq
     | some aw => rw [h] at hq; exact ⟨aw, rfl, (Option.some.inj hq).symm⟩
   obtain ⟨hk1, hk2⟩ := hkn q a w hq2
   have hql := (List.getElem?_eq_some_iff.1 hq2).1
   have hq3 : (knM kn)[q]? = some (a, wordV w) := by rw [knM_get, hq2]; rfl
   repeat' refine zp ?_
   refine zch ?_
   repeat (first|refine zck ?_|refine zcl ?_|refine zcm ?_|refine zcn ?_|refine zco ?_)
   refine zci rfl ?_
   repeat (first|refine zck ?_|refine zcl ?_|refine zcm ?_|refine zcn ?_|refine zco ?_)
   refine zyr ?_
   repeat' first|(refine zap rfl ?_;first|refine reg_entry 3 rfl rfl (pt_know 0 rfl) hq3 ?_|refine zae 4 rfl rfl rfl rfl rfl rfl rfl ?_|refine zar (fun nb => ?_))|refine zp ?_|refine zyn ?_
   refine zeb [4] rfl ?_
   refine zyr ?_
   repeat' first|(refine zap rfl ?_;refine zbo rfl rfl ?_)|refine zyl 0 rfl ?_|refine zyf rfl ?_|refine zyn ?_
   refine zci (bool_eq (decide_eq_true hk2)) ?_
   repeat' first|refine zcn ?_|refine zyq ?_|(refine zap rfl ?_;refine reg_mapUpdate 1 rfl rfl rfl rfl rfl ?_)|refine zp ?_|refine zyl 0 rfl ?_|refine zyl 1 rfl ?_|refine zyf rfl ?_|refine zch ?_
   refine zeq ⟨rfl, (insW kn' a w, seen ++ [q]), ⟨rfl, rfl, trivial⟩, ⟨?_, ?_, ?_⟩, ?_⟩
   · show _ = [_, pt m1 (mapI (knM (insW kn' a w))), _, _]
     rw [← ins_knM]; rfl
   · intro q' hq' a' w' h
     rw [look_insW]
     rcases List.mem_append.1 hq' with hq' | hq'
     · have := h1 q' hq' a' w' h
       by_cases e : a = a'
       · subst e; rw [if_pos rfl]
         have := (hkn q' a w' h).1
         rw [hk1] at this; exact this
       · rw [if_neg e]; exact this
     · simp at hq'; subst hq'
       rw [hq2] at h; cases h; rw [if_pos rfl]
   · intro a' w' h
     rw [look_insW] at h
     by_cases e : a = a'
     · subst e; rw [if_pos rfl] at h; cases h; exact hk1
     · rw [if_neg e] at h; exact h2 a' w' h
   · have := (cnt_more q seen hns kn.length).2 hql
     dsimp only; omega
end Go.Proofs.YtgdhcgnmffgkiaaGreatDoor
namespace Sim
open Go Go.Vc
theorem wk0_hkn (n : Nat) : ∀ (q : Nat) a w, (wk 0 (List.replicate n 0))[q]? = some (a, w) → lookW (wk 0 (List.replicate n 0)) a = some w ∧ w.ref = 0 := by
 intro q a w h
 rw [wk_get] at h
 by_cases hq : q < n
 · have e : (List.replicate n (0 : Int))[q]? = some 0 := by rw [List.getElem?_replicate, if_pos hq]
   rw [e] at h
   simp only [Option.map_some, Option.some.injEq, Prod.mk.injEq] at h
   obtain ⟨rfl, rfl⟩ := h
   rw [lookW_wk, if_pos (by rw [List.length_replicate]; omega)]
   have e2 : (((0 + q : Nat) : Int) - ((0 : Nat) : Int)).toNat = q := by omega
   rw [e2, e]
   exact ⟨rfl, rfl⟩
 · have e : (List.replicate n (0 : Int))[q]? = none := by rw [List.getElem?_replicate, if_neg hq]
   rw [e] at h
   cases h
def rootA (k : Int) : Bool → Int
 | false => 8 + 8 * k
 | true => 8 + 8 * k + 80
theorem wk_rep0 (i : Nat) : wk 0 (List.replicate (i + 1) 0) = wk 0 (List.replicate i 0) ++ [((i : Int), ⟨0, 0, 0⟩)] := by
 rw [List.replicate_succ', wk_snoc, List.length_replicate, Nat.zero_add]
def awPrev : Nat → Sp
 | 0 => awS
 | n + 1 => (awR n).2
theorem awR_eq : ∀ n, awR n = Pg.run (doP (awG n)) (awPrev n)
 | 0 => rfl
 | _ + 1 => rfl
theorem aw_at {n : Nat} (hn : n < 8) : awV[n]? = some (awR n).1 ∧ (awR n).2.puts.length ≤ 1000 := by
 have h := List.all_eq_true.1 aw_all n (List.mem_range.2 hn)
 rw [Bool.and_eq_true, decide_eq_true_eq, decide_eq_true_eq] at h
 exact h
theorem awPrev_len {n : Nat} (hn : n < 8) : (awPrev n).puts.length ≤ 1000 := by
 cases n with
 | zero => exact Nat.zero_le _
 | succ n => exact (aw_at (by omega)).2
theorem bd_awG : ∀ n, Pg.Bd 65 (awG n)
 | 0 => (bd_mPut _ _ _).mono (by decide)
 | 1 => (bd_mPut _ _ _).mono (by decide)
 | 2 => (Qu.bd_take _ _).mono (by decide)
 | 3 => (bd_mLen _).mono (by decide)
 | 4 => (Qu.bd_first _).mono (by decide)
 | 5 => bd_mtPut _ _ _
 | 6 => (bd_mtHas _ _).mono (by decide)
 | _ + 7 => (bd_mtGet _ _).mono (by decide)
end Sim
namespace Go.Proofs.YtgdhcgnmffgkiaaGreatDoor
variable (w0 : World)
open Go.Vc Sim
set_option maxHeartbeats 4000000
theorem aw_step (sh : Shared) (f : FuncId) (args : List Value) (p n : Nat) (hn : n < 8) (r : Int × Int) (hr : awV[n]? = some r) (spec : FnG w0 sh f args p (doP (awG n)) encI2) (s : Sp) (hs : Eqv s (awPrev n)) :
   Vc.Fn PP w0 sh f args [SpaceA p s] (fun v Γ => v = encI2 r ∧ ∃ s', Γ = [SpaceA p s'] ∧ Eqv s' (awPrev (n + 1))) := by
 have hl : s.puts.length ≤ 1000 := by rw [hs.puts]; exact awPrev_len hn
 have hF := Pg.fits_of (doP (awG n)) 65 s (bd_doP (bd_awG n)) (by omega)
 obtain ⟨h1, h2⟩ := Pg.run_eqv (doP (awG n)) hs
 rw [← awR_eq] at h1 h2
 have h3 := (aw_at hn).1
 rw [hr] at h3
 cases h3
 refine (spec s hF).mono ?_
 rintro v Γ ⟨rfl, rfl⟩
 exact ⟨by rw [h1], _, rfl, h2⟩
theorem empty_spec : Vc.Fn PP w0 [] 9 [] [] (fun v Γ => ∃ p s, v = spP p ∧ Γ = [SpaceA p s] ∧ Eqv s awS) := by
 have hnew := fun kb => new_spec w0 kb (wk 0 (List.replicate 440 0)) (wk0_hkn 440)
 refine zep en9 fn9 rfl rfl rfl ?_
 refine zyr ?_
 repeat' refine zp ?_
 all_goals refine zyn ?_
 refine zyr ?_
 repeat' first|(refine zap rfl ?_;refine zcc (fun nb => ?_))|refine zp ?_|refine zyn ?_
 refine zyr ?_
 repeat' refine zp ?_
 all_goals refine zyn ?_
 refine run_loop (S := Nat) (fun i => [(1, .map (some nb)), (2, .int .i64 (i : Int))])
   (fun i Γ => Γ = [pt nb (mapI (knM (wk 0 (List.replicate i 0))))] ∧ i ≤ 440) (fun i => 440 - i) 0 ⟨rfl, rfl, trivial⟩ ⟨rfl, Nat.zero_le _⟩ ?_
 rintro i Γ junk ⟨rfl, hi⟩
 by_cases hlt : i < 440
 · have hnone : lookW (wk 0 (List.replicate i 0)) (i : Int) = none := by rw [lookW_wk, if_neg]; simp
   have hins : ins (knM (wk 0 (List.replicate i 0))) (i : Int) (wordV ⟨0, 0, 0⟩) = knM (wk 0 (List.replicate (i + 1) 0)) := by
     rw [ins_knM, insW_none _ _ _ hnone, wk_rep0]
   repeat' first|refine zck ?_|refine zcm ?_|refine zcl ?_|refine zcn ?_|refine zyq ?_|(refine zap rfl ?_;first|refine zcb rfl ?_|refine reg_mapUpdate 0 rfl rfl rfl rfl rfl ?_|refine zbg rfl rfl (by omega) ?_|refine zau rfl rfl (by omega) ?_)|refine zp ?_|refine zch ?_|refine zci rfl ?_
   refine zeq ⟨rfl, i + 1, ⟨rfl, zes (by omega), trivial⟩, ⟨?_, hlt⟩, by omega⟩
   rw [← hins]; rfl
 · have e : i = 440 := by omega
   subst e
   refine zyr ?_
   repeat' first|(refine zap rfl ?_;refine zbh rfl rfl (by omega) ?_)|refine zp ?_|refine zyn ?_
   refine zcj rfl ?_
   refine zer rfl rfl ?_
   repeat' first|refine zck ?_|refine zyq ?_|(refine zap rfl ?_; (refine zai [0] (hnew _) rfl rfl rfl zdj ?_; rintro v Γ ⟨p, kn, rfl, rfl, hkn⟩))|refine zp ?_|refine zch ?_
   exact zej rfl ⟨p, _, rfl, rfl, hkn, rfl, rfl, rfl, rfl⟩
theorem zez : FnE PP w0 [] 14 [] [] (poolV awP) [] := by
 refine zep en14 fn14 rfl rfl rfl ?_
 refine zyr ?_
 repeat' (refine zap rfl ?_;refine zar (fun t0 => ?_))
 all_goals refine zyn ?_
 repeat' first|refine zyq ?_|(refine zap rfl ?_;first|refine zcb rfl ?_|refine zae 0 rfl rfl rfl rfl rfl rfl rfl ?_)|refine zch ?_
 exact zeg (zek (zel [] rfl (zem rfl (zeo 0 rfl rfl rfl) ⟨rfl, rfl, rfl⟩)))
theorem root_spec (k : Int) (b : Bool) (hk : 0 ≤ k ∧ k ≤ 9) : FnE PP w0 [] 11 [.int .i64 k, .bool b] [] (.agg (List.toArray [.int .i64 k, .int .i64 (rootA k b)])) [] := by
 cases b with
 | false =>
   refine zep en11 fn11 rfl rfl rfl ?_
   refine zyr ?_
   repeat' (refine zap rfl ?_;refine zar (fun t0 => ?_))
   all_goals refine zyn ?_
   repeat' first|refine zck ?_|refine zcm ?_|refine zyq ?_|(refine zap rfl ?_;first|refine zcb rfl ?_|refine zau rfl rfl (by omega) ?_|refine zaw rfl rfl (by omega) ?_|refine zae 0 rfl rfl rfl rfl rfl rfl rfl ?_)|refine zp ?_|refine zch ?_|refine zcj rfl ?_
   exact zeg (zek (zel [] rfl (zem rfl (zeo 0 rfl rfl rfl) ⟨rfl, rfl, rfl⟩)))
 | true =>
   refine zep en11 fn11 rfl rfl rfl ?_
   refine zyr ?_
   repeat' (refine zap rfl ?_;refine zar (fun t0 => ?_))
   all_goals refine zyn ?_
   repeat' first|refine zck ?_|refine zyq ?_|(refine zap rfl ?_;first|refine zcb rfl ?_|refine zau rfl rfl (by omega) ?_|refine zaw rfl rfl (by omega) ?_|refine zae 0 rfl rfl rfl rfl rfl rfl rfl ?_)|refine zp ?_|refine zch ?_|refine zci rfl ?_
   exact zeg (zek (zel [] rfl (zem rfl (zeo 0 rfl rfl rfl) ⟨rfl, rfl, rfl⟩)))
theorem intRd (nb : Nat) (l : List Int) : RdSl w0 [(nb, .cells (List.toArray (l.flatMap encI)) 2 (0, 0))] encI 1 (.slice (some ⟨nb, 0, none⟩) l.length l.length) l :=
 RdSl.flat (encE := encI) (q := 1) (w0 := w0) (b := nb) (l := l) (fun _ _ => rfl) (.head _)
theorem aw_own (p nb n : Nat) (k r : Int) (name : ByteArray) (l : List Int) (hn : n < 8) (q : Int × Int) (hr : awV[n]? = some q)
   (spec : FnG w0 [(nb, .cells (List.toArray (l.flatMap encI)) 2 (0, 0))] 13 [spP p, poolV awP, .agg (List.toArray [.int .i64 k, .int .i64 r]), .string name, .slice (some ⟨nb, 0, none⟩) l.length l.length] p (doP (awG n)) encI2) (s : Sp) (hs : Eqv s (awPrev n)) :
   Vc.Fn PP w0 [] 13 [spP p, poolV awP, .agg (List.toArray [.int .i64 k, .int .i64 r]), .string name, .slice (some ⟨nb, 0, none⟩) l.length l.length] [pt nb (.cells (List.toArray (l.flatMap encI)) 2 (0, 0)), SpaceA p s]
     (fun v Γ => v = encI2 q ∧ ∃ s', Γ = [SpaceA p s', pt nb (.cells (List.toArray (l.flatMap encI)) 2 (0, 0))] ∧ Eqv s' (awPrev (n + 1))) := by
 refine (aw_step w0 _ _ _ p n hn q hr spec s hs).owned.mono ?_
 rintro v Γ ⟨_, ⟨rfl, s', rfl, h⟩, rfl⟩
 exact ⟨rfl, s', rfl, h⟩
abbrev AwO (w0 : World) (p nb n : Nat) (k r : Int) (name : ByteArray) (l : List Int) (q : Int × Int) (s : Sp) : Prop :=
 Vc.Fn PP w0 [] 13 [spP p, poolV awP, .agg (List.toArray [.int .i64 k, .int .i64 r]), .string name, .slice (some ⟨nb, 0, none⟩) l.length l.length] [pt nb (.cells (List.toArray (l.flatMap encI)) 2 (0, 0)), SpaceA p s]
     (fun v Γ => v = encI2 q ∧ ∃ s', Γ = [SpaceA p s', pt nb (.cells (List.toArray (l.flatMap encI)) 2 (0, 0))] ∧ Eqv s' (awPrev (n + 1)))
abbrev AwN (w0 : World) (p n : Nat) (k r : Int) (name : ByteArray) (q : Int × Int) (s : Sp) : Prop :=
 Vc.Fn PP w0 [] 13 [spP p, poolV awP, .agg (List.toArray [.int .i64 k, .int .i64 r]), .string name, .slice none 0 0] [SpaceA p s] (fun v Γ => v = encI2 q ∧ ∃ s', Γ = [SpaceA p s'] ∧ Eqv s' (awPrev (n + 1)))
def nmPut : ByteArray := bs [112, 117, 116]
def nmTake : ByteArray := bs [116, 97, 107, 101]
def nmLen : ByteArray := bs [108, 101, 110]
def nmFirst : ByteArray := bs [102, 105, 114, 115, 116]
def nmHas : ByteArray := bs [104, 97, 115]
def nmGet : ByteArray := bs [103, 101, 116]
theorem aw0_spec (p nb : Nat) (s : Sp) (hs : Eqv s (awPrev 0)) : AwO w0 p nb 0 2 24 nmPut [5] (0, 0) s := aw_own w0 p nb 0 2 24 nmPut [5] (by decide) (0, 0) rfl
 (doG w0 _ p awP 2 24 nmPut (some ⟨nb, 0, none⟩) 1 1 ((nmPut, 1, true), 203) (by kernel_rfl) (by decide +kernel) rfl _ (qPutG w0 _ p awP awP_ok 24 5 [5] _ _ (intRd w0 nb [5]) rfl)) s hs
theorem aw1_spec (p nb : Nat) (s : Sp) (hs : Eqv s (awPrev 1)) : AwO w0 p nb 1 2 24 nmPut [6] (0, 0) s := aw_own w0 p nb 1 2 24 nmPut [6] (by decide) (0, 0) rfl
 (doG w0 _ p awP 2 24 nmPut (some ⟨nb, 0, none⟩) 1 1 ((nmPut, 1, true), 203) (by kernel_rfl) (by decide +kernel) rfl _ (qPutG w0 _ p awP awP_ok 24 6 [6] _ _ (intRd w0 nb [6]) rfl)) s hs
theorem aw2_spec (p : Nat) (s : Sp) (hs : Eqv s (awPrev 2)) : AwN w0 p 2 2 24 nmTake (5, 0) s := aw_step w0 [] _ _ p 2 (by decide) (5, 0) rfl
 (doG w0 [] p awP 2 24 nmTake none 0 0 ((nmTake, 0, true), 204) (by kernel_rfl) (by decide +kernel) rfl _ (qTakeG w0 [] p awP awP_ok 24 _)) s hs
theorem aw3_spec (p : Nat) (s : Sp) (hs : Eqv s (awPrev 3)) : AwN w0 p 3 2 24 nmLen (1, 0) s := aw_step w0 [] _ _ p 3 (by decide) (1, 0) rfl
 (doG w0 [] p awP 2 24 nmLen none 0 0 ((nmLen, 0, false), 206) (by kernel_rfl) (by decide +kernel) rfl _ (qLenG w0 [] p awP 24 _)) s hs
theorem aw4_spec (p : Nat) (s : Sp) (hs : Eqv s (awPrev 4)) : AwN w0 p 4 2 24 nmFirst (6, 0) s := aw_step w0 [] _ _ p 4 (by decide) (6, 0) rfl
 (doG w0 [] p awP 2 24 nmFirst none 0 0 ((nmFirst, 0, false), 205) (by kernel_rfl) (by decide +kernel) rfl _ (qFirstG w0 [] p awP 24 _)) s hs
theorem aw5_spec (p nb : Nat) (s : Sp) (hs : Eqv s (awPrev 5)) : AwO w0 p nb 5 4 40 nmPut [1, 7] (0, 0) s := aw_own w0 p nb 5 4 40 nmPut [1, 7] (by decide) (0, 0) rfl
 (doG w0 _ p awP 4 40 nmPut (some ⟨nb, 0, none⟩) 2 2 ((nmPut, 2, true), 221) (by kernel_rfl) (by decide +kernel) rfl _ (tPutG w0 _ p awP 40 awT_ok 1 7 [1, 7] _ _ (intRd w0 nb [1, 7]) rfl rfl)) s hs
theorem aw6_spec (p nb : Nat) (s : Sp) (hs : Eqv s (awPrev 6)) : AwO w0 p nb 6 4 40 nmHas [1] (1, 0) s := aw_own w0 p nb 6 4 40 nmHas [1] (by decide) (1, 0) rfl
 (doG w0 _ p awP 4 40 nmHas (some ⟨nb, 0, none⟩) 1 1 ((nmHas, 1, false), 225) (by kernel_rfl) (by decide +kernel) rfl _ (tHasG w0 _ p awP 40 awT_ok 1 [1] _ _ (intRd w0 nb [1]) rfl)) s hs
theorem aw7_spec (p nb : Nat) (s : Sp) (hs : Eqv s (awPrev 7)) : AwO w0 p nb 7 4 40 nmGet [2] (0, 10) s := aw_own w0 p nb 7 4 40 nmGet [2] (by decide) (0, 10) rfl
 (doG w0 _ p awP 4 40 nmGet (some ⟨nb, 0, none⟩) 1 1 ((nmGet, 1, false), 223) (by kernel_rfl) (by decide +kernel) rfl _ (tGetG w0 _ p awP 40 awT_ok 2 [2] _ _ (intRd w0 nb [2]) rfl)) s hs
abbrev rootV (k r : Int) : Value := .agg (List.toArray [.int .i64 k, .int .i64 r])
theorem doKind (sh : Shared) (p : Nat) (P : Pl) (k r : Int) (name : ByteArray) (a : Option Addr) (len c : Nat) (hk : ctName k = bs []) (s : Sp) :
   FnE PP w0 sh 13 [spP p, poolV P, rootV k r, .string name, .slice a len c] [SpaceA p s] (encI2 (0, 2)) [SpaceA p s] := by
 have hnm := name_spec w0 k
 refine zep en13 fn13 rfl rfl rfl ?_
 refine zyr ?_
 repeat' first|(refine zap rfl ?_;first|refine zaq (cs := [_, _, _]) rfl (fun t6 => ?_)|refine zaq (cs := [_, _]) rfl (fun t7 => ?_))|refine zp ?_|refine zyn ?_
 refine zeb [1] rfl ?_
 refine zeb [1] rfl ?_
 refine zyr ?_
 repeat' first|(refine zap rfl ?_;first|refine zds rfl rfl hk ?_|refine zah [] hnm rfl rfl rfl zdj rfl ?_)|refine zyl 0 rfl ?_|refine zyf rfl ?_|refine zyn ?_
 refine zci rfl ?_
 repeat' first|refine zck ?_|refine zyq ?_|refine zp ?_|refine zch ?_
 exact zei rfl ⟨rfl, rfl⟩
theorem doName (sh : Shared) (p : Nat) (P : Pl) (k r : Int) (name : ByteArray) (a : Option Addr) (len c : Nat) (hk : ctName k ≠ bs []) (hm : ((msK k).find? fun m => decide (m.1.1 = name)) = none) (s : Sp) :
   FnE PP w0 sh 13 [spP p, poolV P, rootV k r, .string name, .slice a len c] [SpaceA p s] (encI2 (0, 16)) [SpaceA p s] := by
 have hfm := findM_spec w0 k name
 rw [hm] at hfm
 unfold findMV at hfm
 have hnm := name_spec w0 k
 refine zep en13 fn13 rfl rfl rfl ?_
 refine zyr ?_
 repeat' first|(refine zap rfl ?_;first|refine zaq (cs := [_, _, _]) rfl (fun t6 => ?_)|refine zaq (cs := [_, _]) rfl (fun t7 => ?_))|refine zp ?_|refine zyn ?_
 refine zeb [1] rfl ?_
 refine zeb [1] rfl ?_
 refine zyr ?_
 repeat' first|(refine zap rfl ?_;first|refine zdr rfl rfl hk ?_|refine zah [] hnm rfl rfl rfl zdj rfl ?_)|refine zyl 0 rfl ?_|refine zyf rfl ?_|refine zyn ?_
 refine zcj rfl ?_
 refine zyr ?_
 repeat' first|(refine zap rfl ?_;first|refine zar (fun t12 => ?_)|refine zah [] hfm rfl rfl rfl zdj rfl ?_|refine zae 1 rfl rfl rfl rfl rfl rfl rfl ?_)|refine zp ?_|refine zyl 0 rfl ?_|refine zyf rfl ?_|refine zyn ?_
 refine zeb [1] rfl ?_
 repeat (first|refine zck ?_|refine zcl ?_|refine zcm ?_|refine zcn ?_|refine zco ?_)
 refine zyr ?_
 repeat' first|(refine zap rfl ?_;refine zbx rfl ?_)|refine zp ?_|refine zyn ?_
 refine zci rfl ?_
 repeat' first|refine zck ?_|refine zyq ?_|refine zp ?_|refine zch ?_
 exact zei rfl ⟨rfl, rfl⟩
theorem doArg (sh : Shared) (p : Nat) (P : Pl) (k r : Int) (name : ByteArray) (a : Option Addr) (len c : Nat) (m : MRow) (hm : ((msK k).find? fun m => decide (m.1.1 = name)) = some m) (hk : ctName k ≠ bs []) (ha : m.1.2.1 ≠ (len : Int)) (s : Sp) :
   FnE PP w0 sh 13 [spP p, poolV P, rootV k r, .string name, .slice a len c] [SpaceA p s] (encI2 (0, 1)) [SpaceA p s] := by
 have hfm := findM_spec w0 k name
 rw [hm] at hfm
 unfold findMV at hfm
 have hnm := name_spec w0 k
 obtain ⟨⟨mn, ma, mw⟩, mf⟩ := m
 dsimp only at ha hfm
 have hfm : FnE PP w0 [] 31 [.int .i64 k, .string name] [] (.tuple #[.agg (List.toArray [.string mn, .int .i64 ma, .bool mw, .func (.func mf) #[] #[]]), .bool true]) [] := hfm
 refine zep en13 fn13 rfl rfl rfl ?_
 refine zyr ?_
 repeat' first|(refine zap rfl ?_;first|refine zaq (cs := [_, _, _]) rfl (fun t6 => ?_)|refine zaq (cs := [_, _]) rfl (fun t7 => ?_))|refine zp ?_|refine zyn ?_
 refine zeb [1] rfl ?_
 refine zeb [1] rfl ?_
 refine zyr ?_
 repeat' first|(refine zap rfl ?_;first|refine zdr rfl rfl hk ?_|refine zah [] hnm rfl rfl rfl zdj rfl ?_)|refine zyl 0 rfl ?_|refine zyf rfl ?_|refine zyn ?_
 refine zcj rfl ?_
 refine zyr ?_
 repeat' first|(refine zap rfl ?_;first|refine zar (fun t12 => ?_)|refine zah [] hfm rfl rfl rfl zdj rfl ?_|refine zae 1 rfl rfl rfl rfl rfl rfl rfl ?_)|refine zp ?_|refine zyl 0 rfl ?_|refine zyf rfl ?_|refine zyn ?_
 refine zeb [1] rfl ?_
 repeat (first|refine zck ?_|refine zcl ?_|refine zcm ?_|refine zcn ?_|refine zco ?_)
 refine zyr ?_
 repeat' first|(refine zap rfl ?_;refine zbx rfl ?_)|refine zp ?_|refine zyn ?_
 refine zcj rfl ?_
 refine zyr ?_
 repeat' first|(refine zap rfl ?_;first|refine zce rfl ?_|refine zbe rfl rfl (by omega) ?_)|refine zp ?_|refine zyl 0 rfl ?_|refine zyf rfl ?_|refine zyn ?_
 refine zci rfl ?_
 repeat' first|refine zck ?_|refine zyq ?_|refine zp ?_|refine zch ?_
 exact zei rfl ⟨rfl, rfl⟩
end Go.Proofs.YtgdhcgnmffgkiaaGreatDoor
namespace Sim
open Go Go.Vc
structure Fo where
 pool : Pl
 root : Int
def Fo.Ok (F : Fo) : Prop := F.pool.Ok ∧ -9223372036854775808 ≤ F.root ∧ F.root ≤ 9223372036854775807
namespace Fo
variable (F : Fo)
def nodeN (n : Int) : Int := if n ≤ 0 ∨ 4096 < n then 0 else n
def nodeB (n : Int) : Bool := if n ≤ 0 ∨ 4096 < n then false else F.pool.node n
def cell (x : Int) : Pg (Int × Bool) := do
 let t ← Pg.gt (w64 (w64 (F.root + 3) + (x - 1) / 2 / 8))
 pure (nodeN t + (x - 1) / 2 % 8, F.nodeB t)
def place (x : Int) : Pg (Int × Bool) := do
 let c ← F.cell x
 if c.2 = true then do
   let v ← Pg.gt c.1
   pure (nodeN v + (x - 1) % 2 * 4, F.nodeB v)
 else pure (0, false)
def many : Pg (Int × Bool) := do
 let n ← Pg.gt F.root
 pure (n, decide (0 ≤ n) && decide (n ≤ 64))
def check (x : Int) : Pg Int :=
 if x < 1 then pure 10 else do
   let n ← Pg.gt F.root
   if n < x then pure 10 else pure 0
def take : Pg (Int × Int) := do
 let t ← F.pool.takeP
 if t.2 ≠ 0 then pure (0, t.2) else do
   let v ← Pg.gt (w64 (F.root + 7))
   let _ ← Pg.pt (w64 (F.root + 7)) (w64 (v + 1))
   pure (t.1, 0)
def roomN (x : Int) : Pg Int := do
 let c ← F.cell x
 if c.2 = true then do
   let t ← F.take
   if t.2 ≠ 0 then pure t.2 else do
     let _ ← Pg.pt c.1 t.1
     pure 0
 else pure 24
def room (x : Int) : Pg Int :=
 if (x - 1) % 2 ≠ 0 then pure 0 else
 if (x - 1) / 2 % 8 = 0 then do
   let t ← F.take
   if t.2 ≠ 0 then pure t.2 else do
     let _ ← Pg.pt (w64 (w64 (F.root + 3) + (x - 1) / 2 / 8)) t.1
     F.roomN x
 else F.roomN x
def makeIn (x : Int) : Pg (Int × Int) := do
 let e ← F.room x
 if e ≠ 0 then pure (0, e) else do
   let c ← F.place x
   if c.2 = true then do
     let _ ← Pg.pt c.1 0
     let _ ← Pg.pt (c.1 + 1) 1
     let _ ← Pg.pt (c.1 + 2) 0
     let _ ← Pg.pt F.root x
     let v ← Pg.gt (w64 (F.root + 1))
     let _ ← Pg.pt (w64 (F.root + 1)) (w64 (v + 1))
     pure (x, 0)
   else pure (0, 24)
def after (m : Nat) (r : Int × Int) : Pg (Int × Int) := if r.2 ≠ 0 then do let _ ← Pg.bk m; pure (0, r.2) else pure r
def make : Pg (Int × Int) := do
 let n ← F.many
 if n.2 = true then
   if n.1 = 64 then pure (0, 9) else do
     let m ← Pg.mk
     let r ← F.makeIn (n.1 + 1)
     after m r
 else pure (0, 24)
def climb (n : Int) : Nat → Int → Pg (Int × Int)
 | 0, _ => pure (0, 24)
 | k + 1, x => do
   let c ← F.place x
   if c.2 = true then do
     let up ← Pg.gt c.1
     if up = 0 then pure (x, 0) else
     if up < 1 ∨ n < up then pure (0, 24) else climb n k up
   else pure (0, 24)
def find (x : Int) : Pg (Int × Int) := do
 let e ← F.check x
 if e ≠ 0 then pure (0, e) else do
   let n ← F.many
   if n.2 = true then F.climb n.1 65 x else pure (0, 24)
def both (x y : Int) : Pg ((Int × Int) × Int) := do
 let e ← F.check x
 if e ≠ 0 then pure ((0, 0), e) else do
   let e ← F.check y
   if e ≠ 0 then pure ((0, 0), e) else do
     let a ← F.find x
     if a.2 ≠ 0 then pure ((0, 0), a.2) else do
       let b ← F.find y
       if b.2 ≠ 0 then pure ((0, 0), b.2) else pure ((a.1, b.1), 0)
def add (a n : Int) : Pg Unit := do
 let v ← Pg.gt a
 let _ ← Pg.pt a (w64 (v + n))
 pure ()
def hang (x a y b sz : Int) : Pg Unit := do
 let _ ← Pg.pt a y
 let v ← Pg.gt (w64 (F.root + 2))
 let _ ← Pg.pt (a + 2) v
 let _ ← Pg.pt (b + 1) sz
 let _ ← Pg.pt (w64 (F.root + 2)) x
 let _ ← add (w64 (F.root + 1)) (-1)
 pure ()
def join (x y : Int) : Pg (Bool × Int) := do
 let a ← F.place x
 if a.2 = true then do
   let v ← Pg.gt (a.1 + 1)
   let b ← F.place y
   if b.2 = true then do
     let w ← Pg.gt (b.1 + 1)
     if w < v ∨ (w = v ∧ x < y) then do
       let _ ← F.hang y b.1 x a.1 (w64 (v + w))
       pure (true, 0)
     else do
       let _ ← F.hang x a.1 y b.1 (w64 (v + w))
       pure (true, 0)
   else pure (false, 24)
 else pure (false, 24)
def union (x y : Int) : Pg (Bool × Int) := do
 let r ← F.both x y
 if r.2 ≠ 0 ∨ r.1.1 = r.1.2 then pure (false, r.2) else F.join r.1.1 r.1.2
def undo : Pg (Bool × Int) := do
 let last ← Pg.gt (w64 (F.root + 2))
 if last = 0 then pure (false, 0) else do
   let n ← F.many
   if n.2 = true ∧ 1 ≤ last ∧ last ≤ n.1 then do
     let a ← F.place last
     if a.2 = true then do
       let up ← Pg.gt a.1
       if up < 1 ∨ n.1 < up then pure (false, 24) else do
         let b ← F.place up
         if b.2 = true then do
           let v ← Pg.gt (a.1 + 1)
           let _ ← add (b.1 + 1) (w64 (0 - v))
           let _ ← Pg.pt a.1 0
           let u ← Pg.gt (a.1 + 2)
           let _ ← Pg.pt (w64 (F.root + 2)) u
           let _ ← add (w64 (F.root + 1)) 1
           pure (true, 0)
         else pure (false, 24)
     else pure (false, 24)
   else pure (false, 24)
def same (x y : Int) : Pg (Bool × Int) := do
 let r ← F.both x y
 pure (decide (r.2 = 0) && decide (r.1.1 = r.1.2), r.2)
def sizeOf (x : Int) : Pg (Int × Int) := do
 let r ← F.find x
 if r.2 ≠ 0 then pure (0, r.2) else do
   let a ← F.place r.1
   if a.2 = true then do
     let v ← Pg.gt (a.1 + 1)
     pure (v, 0)
   else pure (0, 24)
def sets : Pg Int := Pg.gt (w64 (F.root + 1))
end Fo
def encIB (r : Int × Bool) : Value := .tuple #[.int .i64 r.1, .bool r.2]
def encBI (r : Bool × Int) : Value := .tuple #[.bool r.1, .int .i64 r.2]
def encPI (r : (Int × Int) × Int) : Value := .tuple #[.agg #[.int .i64 r.1.1, .int .i64 r.1.2], .int .i64 r.2]
namespace Fo
open Pg
variable (F : Fo)
theorem bd_cell (x : Int) : Bd 0 (F.cell x) := by unfold Fo.cell; repeat' first|exact bd_pure _|with_reducible refine bd_ite ?_ ?_|with_reducible refine bd_then (bd_gt0 _) ?_ (by decide)|with_reducible refine bd_then (bd_pt _ _) ?_ (by decide)|with_reducible refine bd_then bd_mk0 ?_ (by decide)|with_reducible refine bd_then (bd_bk0 _) ?_ (by decide) | intro _
theorem bd_place (x : Int) : Bd 0 (F.place x) := by unfold Fo.place; repeat' first|with_reducible refine bd_then (F.bd_cell _) ?_ (by decide)|exact bd_pure _|with_reducible refine bd_ite ?_ ?_|with_reducible refine bd_then (bd_gt0 _) ?_ (by decide)|with_reducible refine bd_then (bd_pt _ _) ?_ (by decide)|with_reducible refine bd_then bd_mk0 ?_ (by decide)|with_reducible refine bd_then (bd_bk0 _) ?_ (by decide) | intro _
theorem bd_many : Bd 0 F.many := by unfold Fo.many; repeat' first|exact bd_pure _|with_reducible refine bd_ite ?_ ?_|with_reducible refine bd_then (bd_gt0 _) ?_ (by decide)|with_reducible refine bd_then (bd_pt _ _) ?_ (by decide)|with_reducible refine bd_then bd_mk0 ?_ (by decide)|with_reducible refine bd_then (bd_bk0 _) ?_ (by decide) | intro _
theorem bd_check (x : Int) : Bd 0 (F.check x) := by unfold Fo.check; repeat' first|exact bd_pure _|with_reducible refine bd_ite ?_ ?_|with_reducible refine bd_then (bd_gt0 _) ?_ (by decide)|with_reducible refine bd_then (bd_pt _ _) ?_ (by decide)|with_reducible refine bd_then bd_mk0 ?_ (by decide)|with_reducible refine bd_then (bd_bk0 _) ?_ (by decide) | intro _
theorem bd_take : Bd 3 F.take := by unfold Fo.take; repeat' first|with_reducible refine bd_then (bd_takeP _) ?_ (by decide)|exact bd_pure _|with_reducible refine bd_ite ?_ ?_|with_reducible refine bd_then (bd_gt0 _) ?_ (by decide)|with_reducible refine bd_then (bd_pt _ _) ?_ (by decide)|with_reducible refine bd_then bd_mk0 ?_ (by decide)|with_reducible refine bd_then (bd_bk0 _) ?_ (by decide) | intro _
theorem bd_roomN (x : Int) : Bd 4 (F.roomN x) := by unfold Fo.roomN; repeat' first|with_reducible refine bd_then (F.bd_cell _) ?_ (by decide)|with_reducible refine bd_then F.bd_take ?_ (by decide)|exact bd_pure _|with_reducible refine bd_ite ?_ ?_|with_reducible refine bd_then (bd_gt0 _) ?_ (by decide)|with_reducible refine bd_then (bd_pt _ _) ?_ (by decide)|with_reducible refine bd_then bd_mk0 ?_ (by decide)|with_reducible refine bd_then (bd_bk0 _) ?_ (by decide) | intro _
theorem bd_room (x : Int) : Bd 8 (F.room x) := by unfold Fo.room; repeat' first|with_reducible refine bd_then F.bd_take ?_ (by decide)|exact (F.bd_roomN x).mono (by decide)|exact bd_pure _|with_reducible refine bd_ite ?_ ?_|with_reducible refine bd_then (bd_gt0 _) ?_ (by decide)|with_reducible refine bd_then (bd_pt _ _) ?_ (by decide)|with_reducible refine bd_then bd_mk0 ?_ (by decide)|with_reducible refine bd_then (bd_bk0 _) ?_ (by decide) | intro _
theorem bd_makeIn (x : Int) : Bd 13 (F.makeIn x) := by unfold Fo.makeIn; repeat' first|with_reducible refine bd_then (F.bd_room _) ?_ (by decide)|with_reducible refine bd_then (F.bd_place _) ?_ (by decide)|exact bd_pure _|with_reducible refine bd_ite ?_ ?_|with_reducible refine bd_then (bd_gt0 _) ?_ (by decide)|with_reducible refine bd_then (bd_pt _ _) ?_ (by decide)|with_reducible refine bd_then bd_mk0 ?_ (by decide)|with_reducible refine bd_then (bd_bk0 _) ?_ (by decide) | intro _
theorem bd_after (m : Nat) (r : Int × Int) : Bd 0 (after m r) := by unfold Fo.after; repeat' first|exact bd_pure _|with_reducible refine bd_ite ?_ ?_|with_reducible refine bd_then (bd_gt0 _) ?_ (by decide)|with_reducible refine bd_then (bd_pt _ _) ?_ (by decide)|with_reducible refine bd_then bd_mk0 ?_ (by decide)|with_reducible refine bd_then (bd_bk0 _) ?_ (by decide) | intro _
theorem bd_make : Bd 13 F.make := by unfold Fo.make; repeat' first|with_reducible refine bd_then (F.bd_makeIn _) ?_ (by decide)|with_reducible refine bd_then F.bd_many ?_ (by decide)|exact (bd_after _ _).mono (by decide)|exact bd_pure _|with_reducible refine bd_ite ?_ ?_|with_reducible refine bd_then (bd_gt0 _) ?_ (by decide)|with_reducible refine bd_then (bd_pt _ _) ?_ (by decide)|with_reducible refine bd_then bd_mk0 ?_ (by decide)|with_reducible refine bd_then (bd_bk0 _) ?_ (by decide) | intro _
theorem bd_climb (n : Int) : ∀ (k : Nat) (x : Int), Bd 0 (F.climb n k x)
 | 0, _ => trivial
 | k + 1, x => by unfold Fo.climb; repeat' first|with_reducible refine bd_then (F.bd_place _) ?_ (by decide)|exact bd_climb n k _|exact bd_pure _|with_reducible refine bd_ite ?_ ?_|with_reducible refine bd_then (bd_gt0 _) ?_ (by decide)|with_reducible refine bd_then (bd_pt _ _) ?_ (by decide)|with_reducible refine bd_then bd_mk0 ?_ (by decide)|with_reducible refine bd_then (bd_bk0 _) ?_ (by decide) | intro _
theorem bd_find (x : Int) : Bd 0 (F.find x) := by unfold Fo.find; repeat' first|with_reducible refine bd_then (F.bd_check _) ?_ (by decide)|with_reducible refine bd_then F.bd_many ?_ (by decide)|exact F.bd_climb _ _ _|exact bd_pure _|with_reducible refine bd_ite ?_ ?_|with_reducible refine bd_then (bd_gt0 _) ?_ (by decide)|with_reducible refine bd_then (bd_pt _ _) ?_ (by decide)|with_reducible refine bd_then bd_mk0 ?_ (by decide)|with_reducible refine bd_then (bd_bk0 _) ?_ (by decide) | intro _
theorem bd_both (x y : Int) : Bd 0 (F.both x y) := by unfold Fo.both; repeat' first|with_reducible refine bd_then (F.bd_check _) ?_ (by decide)|with_reducible refine bd_then (F.bd_find _) ?_ (by decide)|exact bd_pure _|with_reducible refine bd_ite ?_ ?_|with_reducible refine bd_then (bd_gt0 _) ?_ (by decide)|with_reducible refine bd_then (bd_pt _ _) ?_ (by decide)|with_reducible refine bd_then bd_mk0 ?_ (by decide)|with_reducible refine bd_then (bd_bk0 _) ?_ (by decide) | intro _
theorem bd_add (a n : Int) : Bd 1 (add a n) := by unfold Fo.add; repeat' first|exact bd_pure _|with_reducible refine bd_ite ?_ ?_|with_reducible refine bd_then (bd_gt0 _) ?_ (by decide)|with_reducible refine bd_then (bd_pt _ _) ?_ (by decide)|with_reducible refine bd_then bd_mk0 ?_ (by decide)|with_reducible refine bd_then (bd_bk0 _) ?_ (by decide) | intro _
theorem bd_hang (x a y b sz : Int) : Bd 5 (F.hang x a y b sz) := by unfold Fo.hang; repeat' first|with_reducible refine bd_then (bd_add _ _) ?_ (by decide)|exact bd_pure _|with_reducible refine bd_ite ?_ ?_|with_reducible refine bd_then (bd_gt0 _) ?_ (by decide)|with_reducible refine bd_then (bd_pt _ _) ?_ (by decide)|with_reducible refine bd_then bd_mk0 ?_ (by decide)|with_reducible refine bd_then (bd_bk0 _) ?_ (by decide) | intro _
theorem bd_join (x y : Int) : Bd 5 (F.join x y) := by unfold Fo.join; repeat' first|with_reducible refine bd_then (F.bd_place _) ?_ (by decide)|with_reducible refine bd_then (F.bd_hang _ _ _ _ _) ?_ (by decide)|exact bd_pure _|with_reducible refine bd_ite ?_ ?_|with_reducible refine bd_then (bd_gt0 _) ?_ (by decide)|with_reducible refine bd_then (bd_pt _ _) ?_ (by decide)|with_reducible refine bd_then bd_mk0 ?_ (by decide)|with_reducible refine bd_then (bd_bk0 _) ?_ (by decide) | intro _
theorem bd_union (x y : Int) : Bd 5 (F.union x y) := by unfold Fo.union; repeat' first|with_reducible refine bd_then (F.bd_both _ _) ?_ (by decide)|exact F.bd_join _ _|exact bd_pure _|with_reducible refine bd_ite ?_ ?_|with_reducible refine bd_then (bd_gt0 _) ?_ (by decide)|with_reducible refine bd_then (bd_pt _ _) ?_ (by decide)|with_reducible refine bd_then bd_mk0 ?_ (by decide)|with_reducible refine bd_then (bd_bk0 _) ?_ (by decide) | intro _
theorem bd_undo : Bd 4 F.undo := by unfold Fo.undo; repeat' first|with_reducible refine bd_then (F.bd_place _) ?_ (by decide)|with_reducible refine bd_then F.bd_many ?_ (by decide)|with_reducible refine bd_then (bd_add _ _) ?_ (by decide)|exact bd_pure _|with_reducible refine bd_ite ?_ ?_|with_reducible refine bd_then (bd_gt0 _) ?_ (by decide)|with_reducible refine bd_then (bd_pt _ _) ?_ (by decide)|with_reducible refine bd_then bd_mk0 ?_ (by decide)|with_reducible refine bd_then (bd_bk0 _) ?_ (by decide) | intro _
theorem bd_same (x y : Int) : Bd 0 (F.same x y) := by unfold Fo.same; repeat' first|with_reducible refine bd_then (F.bd_both _ _) ?_ (by decide)|exact bd_pure _|with_reducible refine bd_ite ?_ ?_|with_reducible refine bd_then (bd_gt0 _) ?_ (by decide)|with_reducible refine bd_then (bd_pt _ _) ?_ (by decide)|with_reducible refine bd_then bd_mk0 ?_ (by decide)|with_reducible refine bd_then (bd_bk0 _) ?_ (by decide) | intro _
theorem bd_sizeOf (x : Int) : Bd 0 (F.sizeOf x) := by unfold Fo.sizeOf; repeat' first|with_reducible refine bd_then (F.bd_find _) ?_ (by decide)|with_reducible refine bd_then (F.bd_place _) ?_ (by decide)|exact bd_pure _|with_reducible refine bd_ite ?_ ?_|with_reducible refine bd_then (bd_gt0 _) ?_ (by decide)|with_reducible refine bd_then (bd_pt _ _) ?_ (by decide)|with_reducible refine bd_then bd_mk0 ?_ (by decide)|with_reducible refine bd_then (bd_bk0 _) ?_ (by decide) | intro _
end Fo
end Sim
