import Derived.Test.YtgdhcgnmffgkiaaGreatDoorPart12
import Derived.Test.YtgdhcgnmffgkiaaGreatDoorPart6
import Derived.Test.YtgdhcgnmffgkiaaGreatDoorPart2
/- Own work: lemmas of this claim. -/
namespace Go.Proofs.YtgdhcgnmffgkiaaGreatDoor
variable (w0 : World)
open Go.Vc Sim
set_option maxHeartbeats 4000000
theorem doE (sh : Shared) (p : Nat) (P : Pl) (k r : Int) (name : ByteArray) (a : Option Addr) (len c : Nat) (m : MRow) (hm : ((msK k).find? fun m => decide (m.1.1 = name)) = some m) (hk : ctName k ≠ bs []) (ha : m.1.2.1 = (len : Int)) (s s' : Sp) (q : Int × Int)
   (hf : FnE PP w0 sh m.2 [onV p P r, .slice a len c] [SpaceA p s] (encI2 q) [SpaceA p s']) :
   FnE PP w0 sh 13 [spP p, poolV P, .agg (List.toArray [.int .i64 k, .int .i64 r]), .string name, .slice a len c] [SpaceA p s] (encI2 (if q.2 ≠ 0 then 0 else q.1, q.2)) [SpaceA p s'] := by
 obtain ⟨v, e⟩ := q
 have hfm := findM_spec w0 k name
 rw [hm] at hfm
 unfold findMV at hfm
 have hnm := name_spec w0 k
 obtain ⟨⟨mn, ma, mw⟩, mf⟩ := m
 dsimp only at ha hf hfm
 subst ha
 have hfm : FnE PP w0 [] 31 [.int .i64 k, .string name] [] (.tuple #[.agg (List.toArray [.string mn, .int .i64 (len : Int), .bool mw, .func (.func mf) #[] #[]]), .bool true]) [] := hfm
 refine zep en13 fn13 rfl rfl rfl ?_
 refine zyr ?_
 repeat' first|(refine zap rfl ?_;first|refine zaq (cs := [_, _, _]) rfl (fun t6 => ?_)|refine zaq (cs := [_, _]) rfl (fun t7 => ?_))|refine zp ?_|refine zyn ?_
 refine zeb [1] rfl ?_
 refine zeb [1] rfl ?_
 refine zyr ?_
 repeat' first|(refine zap rfl ?_;first|refine zdr rfl rfl hk ?_|refine zah [] hnm rfl rfl rfl zdj rfl ?_)|refine zyl 0 rfl ?_|refine zyf rfl ?_|refine zyn ?_
 refine zcj rfl ?_
 refine zyr ?_
 repeat' first|(refine zap rfl ?_;first|refine zar (fun t12 => ?_)|refine zah [] hfm rfl rfl rfl zdj rfl ?_|refine zae 1 rfl rfl rfl rfl rfl rfl rfl ?_)|refine zp ?_|refine zyl 0 rfl ?_|refine zyf rfl ?_|refine zyn ?_
 refine zeb [1] rfl ?_
 repeat (first|refine zck ?_|refine zcl ?_|refine zcm ?_|refine zcn ?_|refine zco ?_)
 refine zyr ?_
 repeat' first|(refine zap rfl ?_;refine zbx rfl ?_)|refine zp ?_|refine zyn ?_
 refine zcj rfl ?_
 refine zyr ?_
 repeat' first|(refine zap rfl ?_;first|refine zce rfl ?_|refine zbf rfl rfl (by omega) ?_)|refine zp ?_|refine zyl 0 rfl ?_|refine zyf rfl ?_|refine zyn ?_
 refine zcj rfl ?_
 refine zyr ?_
 repeat' first|(refine zap rfl ?_;first|refine zcb rfl ?_|refine zah [0] hf rfl rfl rfl (fun p hp => .tail _ (.tail _ (.tail _ hp))) rfl ?_)|refine zp ?_|refine zyl 0 rfl ?_|refine zyl 1 rfl ?_|refine zyl 2 rfl ?_|refine zyf rfl ?_|refine zyn ?_
 by_cases he : e = 0
 · subst he
   refine zyr ?_
   repeat' first|(refine zap rfl ?_;refine zbf rfl rfl (by omega) ?_)|refine zp ?_|refine zyn ?_
   refine zcj rfl ?_
   repeat' first|refine zck ?_|refine zcm ?_|refine zyq ?_|refine zp ?_|refine zch ?_
   exact zei rfl ⟨rfl, rfl⟩
 · repeat (first|refine zck ?_|refine zcl ?_|refine zcm ?_|refine zcn ?_)
   refine zyr ?_
   repeat' first|(refine zap rfl ?_;refine zbe rfl rfl (by omega) ?_)|refine zp ?_|refine zyn ?_
   refine zci rfl ?_
   repeat' first|refine zck ?_|refine zyq ?_|refine zp ?_|refine zch ?_
   refine zei rfl ⟨?_, rfl⟩
   show encI2 (0, e) = encI2 (if e ≠ 0 then 0 else v, e)
   rw [if_pos he]
def cnt : Nat → List Nat → Nat
 | 0, _ => 0
 | n + 1, s => cnt n s + if n ∈ s then 0 else 1
theorem cnt_more (q : Nat) (s : List Nat) (hs : q ∉ s) : ∀ n, (n ≤ q → cnt n (s ++ [q]) = cnt n s) ∧ (q < n → cnt n (s ++ [q]) + 1 = cnt n s)
 | 0 => ⟨fun _ => rfl, fun h => absurd h (by omega)⟩
 | n + 1 => by
   obtain ⟨h1, h2⟩ := cnt_more q s hs n
   simp only [cnt]
   refine ⟨fun h => ?_, fun h => ?_⟩
   · have hne : n ≠ q := by omega
     rw [h1 (by omega)]; simp [hne]
   · by_cases e : q = n
     · subst e; rw [h1 (Nat.le_refl _)]; simp [hs]
     · have := h2 (by omega)
       have e2 : (n ∈ s ++ [q]) = (n ∈ s) := by simp; intro h; omega
       simp only [e2]; omega
theorem new_spec (kb : Nat) (kn : List (Int × Wd)) (hkn : ∀ (q : Nat) a w, kn[q]? = some (a, w) → lookW kn a = some w ∧ w.ref = 0) :
   Vc.Fn PP w0 [] 29 [.map (some kb)] [pt kb (mapI (knM kn))]
     (fun v Γ => ∃ p kn', v = spP p ∧ Γ = [SpaceA p ⟨kn', [], [], 0, false⟩] ∧ ∀ a, lookW kn' a = lookW kn a) := by
 refine zep en29 fn29 rfl rfl rfl ?_
 refine zyr ?_
 repeat' refine zp ?_
 all_goals refine zyn ?_
 refine zyr ?_
 repeat' first|(refine zap rfl ?_;first|refine zaq (cs := [_, _, _, _, _]) rfl (fun nb => ?_)|refine zcc (fun nb => ?_)|refine zcb rfl ?_)|refine zp ?_|refine zyn ?_
 rename_i m1 m2
 revert nb; intro p
 refine run_share_keep [3] rfl ?_
 refine zyr ?_
 repeat' first|(refine zap rfl ?_;refine reg_range 0 rfl rfl (fun nb => ?_))|refine zp ?_|refine zyn ?_
 revert nb; intro it
 refine run_loop (S := List (Int × Wd) × List Nat) (fun _ => [(3, spP p), (11, .pointer (some ⟨it, 0, none⟩))])
   (fun st Γ => Γ = [pt kb (mapI (knM kn)), pt m1 (mapI (knM st.1)), pt m2 (mapI []), pt it (iterI kb (knM kn).length st.2 (knM kn).length)] ∧ (∀ q ∈ st.2, ∀ a w, kn[q]? = some (a, w) → lookW st.1 a = some w) ∧ (∀ a w, lookW st.1 a = some w → lookW kn a = some w))
   (fun st => cnt kn.length st.2) ([], []) ⟨rfl, rfl, trivial⟩ ⟨rfl, by simp, by simp [lookW]⟩ ?_
 rintro ⟨kn', seen⟩ Γ junk ⟨rfl, h1, h2⟩
 dsimp only at h1 h2 ⊢
 repeat (first|refine zck ?_|refine zcl ?_|refine zcm ?_|refine zcn ?_|refine zco ?_)
 refine zcp (by kernel_rfl) ?_
 refine zap rfl ?_
 refine reg_next 3 0 rfl rfl (pt_know 0 rfl) rfl (fun _ => rfl) (fun hall => ?_) (fun q e hq hns => ?_)
 · repeat' first|refine zck ?_|refine zp ?_|refine zch ?_|refine zcj rfl ?_
   refine zer rfl rfl ?_
   repeat' first|refine zck ?_|refine zyq ?_|refine zp ?_|refine zch ?_
   refine run_nilslice 247 2 ?_
   refine zeg (zek (ends_close1 (A := SpaceA p ⟨kn', [], [], 0, false⟩) [5, 1, 1, 2] rfl (fun _ h => ⟨(m1, m2, none, 0), h⟩) (zem rfl rfl ⟨rfl, p, kn', rfl, rfl, fun a => ?_⟩)))
   cases hk : lookW kn a with
   | none =>
     cases hk' : lookW kn' a with
     | none => rfl
     | some w => have := h2 a w hk'; rw [hk] at this; cases this
   | some w =>
     obtain ⟨q, hq⟩ := lookW_mem kn a w hk
     have hql := (List.getElem?_eq_some_iff.1 hq).1
     exact h1 q (hall q (by rw [knM_length]; exact hql)) a w hq
 · rw [knM_get] at hq
   obtain ⟨⟨a, w⟩, hq2, rfl⟩ : ∃ aw, kn[q]? = some aw ∧ e = (aw.1, wordV aw.2) := by
     cases h : kn[q]? with
     | none => rw [h] at hq; cases hq
     | some aw => rw [h] at hq; exact ⟨aw, rfl, (Option.some.inj hq).symm⟩
   obtain ⟨hk1, hk2⟩ := hkn q a w hq2
   have hql := (List.getElem?_eq_some_iff.1 hq2).1
   have hq3 : (knM kn)[q]? = some (a, wordV w) := by rw [knM_get, hq2]; rfl
   repeat' refine zp ?_
   refine zch ?_
   repeat (first|refine zck ?_|refine zcl ?_|refine zcm ?_|refine zcn ?_|refine zco ?_)
   refine zci rfl ?_
   repeat (first|refine zck ?_|refine zcl ?_|refine zcm ?_|refine zcn ?_|refine zco ?_)
   refine zyr ?_
   repeat' first|(refine zap rfl ?_;first|refine reg_entry 3 rfl rfl (pt_know 0 rfl) hq3 ?_|refine zae 4 rfl rfl rfl rfl rfl rfl rfl ?_|refine zar (fun nb => ?_))|refine zp ?_|refine zyn ?_
   refine zeb [4] rfl ?_
   refine zyr ?_
   repeat' first|(refine zap rfl ?_;refine zbo rfl rfl ?_)|refine zyl 0 rfl ?_|refine zyf rfl ?_|refine zyn ?_
   refine zci (bool_eq (decide_eq_true hk2)) ?_
   repeat' first|refine zcn ?_|refine zyq ?_|(refine zap rfl ?_;refine reg_mapUpdate 1 rfl rfl rfl rfl rfl ?_)|refine zp ?_|refine zyl 0 rfl ?_|refine zyl 1 rfl ?_|refine zyf rfl ?_|refine zch ?_
   refine zeq ⟨rfl, (insW kn' a w, seen ++ [q]), ⟨rfl, rfl, trivial⟩, ⟨?_, ?_, ?_⟩, ?_⟩
   · show _ = [_, pt m1 (mapI (knM (insW kn' a w))), _, _]
     rw [← ins_knM]; rfl
   · intro q' hq' a' w' h
     rw [look_insW]
     rcases List.mem_append.1 hq' with hq' | hq'
     · have := h1 q' hq' a' w' h
       by_cases e : a = a'
       · subst e; rw [if_pos rfl]
         have := (hkn q' a w' h).1
         rw [hk1] at this; exact this
       · rw [if_neg e]; exact this
     · simp at hq'; subst hq'
       rw [hq2] at h; cases h; rw [if_pos rfl]
   · intro a' w' h
     rw [look_insW] at h
     by_cases e : a = a'
     · subst e; rw [if_pos rfl] at h; cases h; exact hk1
     · rw [if_neg e] at h; exact h2 a' w' h
   · have := (cnt_more q seen hns kn.length).2 hql
     dsimp only; omega
end Go.Proofs.YtgdhcgnmffgkiaaGreatDoor
namespace Sim
open Go Go.Vc
theorem wk0_hkn (n : Nat) : ∀ (q : Nat) a w, (wk 0 (List.replicate n 0))[q]? = some (a, w) → lookW (wk 0 (List.replicate n 0)) a = some w ∧ w.ref = 0 := by
 intro q a w h
 rw [wk_get] at h
 by_cases hq : q < n
 · have e : (List.replicate n (0 : Int))[q]? = some 0 := by rw [List.getElem?_replicate, if_pos hq]
   rw [e] at h
   simp only [Option.map_some, Option.some.injEq, Prod.mk.injEq] at h
   obtain ⟨rfl, rfl⟩ := h
   rw [lookW_wk, if_pos (by rw [List.length_replicate]; omega)]
   have e2 : (((0 + q : Nat) : Int) - ((0 : Nat) : Int)).toNat = q := by omega
   rw [e2, e]
   exact ⟨rfl, rfl⟩
 · have e : (List.replicate n (0 : Int))[q]? = none := by rw [List.getElem?_replicate, if_neg hq]
   rw [e] at h
   cases h
def rootA (k : Int) : Bool → Int
 | false => 8 + 8 * k
 | true => 8 + 8 * k + 80
theorem wk_rep0 (i : Nat) : wk 0 (List.replicate (i + 1) 0) = wk 0 (List.replicate i 0) ++ [((i : Int), ⟨0, 0, 0⟩)] := by
 rw [List.replicate_succ', wk_snoc, List.length_replicate, Nat.zero_add]
def awPrev : Nat → Sp
 | 0 => awS
 | n + 1 => (awR n).2
theorem awR_eq : ∀ n, awR n = Pg.run (doP (awG n)) (awPrev n)
 | 0 => rfl
 | _ + 1 => rfl
theorem aw_at {n : Nat} (hn : n < 8) : awV[n]? = some (awR n).1 ∧ (awR n).2.puts.length ≤ 1000 := by
 have h := List.all_eq_true.1 aw_all n (List.mem_range.2 hn)
 rw [Bool.and_eq_true, decide_eq_true_eq, decide_eq_true_eq] at h
 exact h
theorem awPrev_len {n : Nat} (hn : n < 8) : (awPrev n).puts.length ≤ 1000 := by
 cases n with
 | zero => exact Nat.zero_le _
 | succ n => exact (aw_at (by omega)).2
theorem bd_awG : ∀ n, Pg.Bd 65 (awG n)
 | 0 => (bd_mPut _ _ _).mono (by decide)
 | 1 => (bd_mPut _ _ _).mono (by decide)
 | 2 => (Qu.bd_take _ _).mono (by decide)
 | 3 => (bd_mLen _).mono (by decide)
 | 4 => (Qu.bd_first _).mono (by decide)
 | 5 => bd_mtPut _ _ _
 | 6 => (bd_mtHas _ _).mono (by decide)
 | _ + 7 => (bd_mtGet _ _).mono (by decide)
end Sim
namespace Go.Proofs.YtgdhcgnmffgkiaaGreatDoor
variable (w0 : World)
open Go.Vc Sim
set_option maxHeartbeats 4000000
theorem aw_step (sh : Shared) (f : FuncId) (args : List Value) (p n : Nat) (hn : n < 8) (r : Int × Int) (hr : awV[n]? = some r) (spec : FnG w0 sh f args p (doP (awG n)) encI2) (s : Sp) (hs : Eqv s (awPrev n)) :
   Vc.Fn PP w0 sh f args [SpaceA p s] (fun v Γ => v = encI2 r ∧ ∃ s', Γ = [SpaceA p s'] ∧ Eqv s' (awPrev (n + 1))) := by
 have hl : s.puts.length ≤ 1000 := by rw [hs.puts]; exact awPrev_len hn
 have hF := Pg.fits_of (doP (awG n)) 65 s (bd_doP (bd_awG n)) (by omega)
 obtain ⟨h1, h2⟩ := Pg.run_eqv (doP (awG n)) hs
 rw [← awR_eq] at h1 h2
 have h3 := (aw_at hn).1
 rw [hr] at h3
 cases h3
 refine (spec s hF).mono ?_
 rintro v Γ ⟨rfl, rfl⟩
 exact ⟨by rw [h1], _, rfl, h2⟩
theorem empty_spec : Vc.Fn PP w0 [] 9 [] [] (fun v Γ => ∃ p s, v = spP p ∧ Γ = [SpaceA p s] ∧ Eqv s awS) := by
 have hnew := fun kb => new_spec w0 kb (wk 0 (List.replicate 440 0)) (wk0_hkn 440)
 refine zep en9 fn9 rfl rfl rfl ?_
 refine zyr ?_
 repeat' refine zp ?_
 all_goals refine zyn ?_
 refine zyr ?_
 repeat' first|(refine zap rfl ?_;refine zcc (fun nb => ?_))|refine zp ?_|refine zyn ?_
 refine zyr ?_
 repeat' refine zp ?_
 all_goals refine zyn ?_
 refine run_loop (S := Nat) (fun i => [(1, .map (some nb)), (2, .int .i64 (i : Int))])
   (fun i Γ => Γ = [pt nb (mapI (knM (wk 0 (List.replicate i 0))))] ∧ i ≤ 440) (fun i => 440 - i) 0 ⟨rfl, rfl, trivial⟩ ⟨rfl, Nat.zero_le _⟩ ?_
 rintro i Γ junk ⟨rfl, hi⟩
 by_cases hlt : i < 440
 · have hnone : lookW (wk 0 (List.replicate i 0)) (i : Int) = none := by rw [lookW_wk, if_neg]; simp
   have hins : ins (knM (wk 0 (List.replicate i 0))) (i : Int) (wordV ⟨0, 0, 0⟩) = knM (wk 0 (List.replicate (i + 1) 0)) := by
     rw [ins_knM, insW_none _ _ _ hnone, wk_rep0]
   repeat' first|refine zck ?_|refine zcm ?_|refine zcl ?_|refine zcn ?_|refine zyq ?_|(refine zap rfl ?_;first|refine zcb rfl ?_|refine reg_mapUpdate 0 rfl rfl rfl rfl rfl ?_|refine zbg rfl rfl (by omega) ?_|refine zau rfl rfl (by omega) ?_)|refine zp ?_|refine zch ?_|refine zci rfl ?_
   refine zeq ⟨rfl, i + 1, ⟨rfl, zes (by omega), trivial⟩, ⟨?_, hlt⟩, by omega⟩
   rw [← hins]; rfl
 · have e : i = 440 := by omega
   subst e
   refine zyr ?_
   repeat' first|(refine zap rfl ?_;refine zbh rfl rfl (by omega) ?_)|refine zp ?_|refine zyn ?_
   refine zcj rfl ?_
   refine zer rfl rfl ?_
   repeat' first|refine zck ?_|refine zyq ?_|(refine zap rfl ?_; (refine zai [0] (hnew _) rfl rfl rfl zdj ?_; rintro v Γ ⟨p, kn, rfl, rfl, hkn⟩))|refine zp ?_|refine zch ?_
   exact zej rfl ⟨p, _, rfl, rfl, hkn, rfl, rfl, rfl, rfl⟩
theorem zez : FnE PP w0 [] 14 [] [] (poolV awP) [] := by
 refine zep en14 fn14 rfl rfl rfl ?_
 refine zyr ?_
 repeat' (refine zap rfl ?_;refine zar (fun t0 => ?_))
 all_goals refine zyn ?_
 repeat' first|refine zyq ?_|(refine zap rfl ?_;first|refine zcb rfl ?_|refine zae 0 rfl rfl rfl rfl rfl rfl rfl ?_)|refine zch ?_
 exact zeg (zek (zel [] rfl (zem rfl (zeo 0 rfl rfl rfl) ⟨rfl, rfl, rfl⟩)))
theorem root_spec (k : Int) (b : Bool) (hk : 0 ≤ k ∧ k ≤ 9) : FnE PP w0 [] 11 [.int .i64 k, .bool b] [] (.agg (List.toArray [.int .i64 k, .int .i64 (rootA k b)])) [] := by
 cases b with
 | false =>
   refine zep en11 fn11 rfl rfl rfl ?_
   refine zyr ?_
   repeat' (refine zap rfl ?_;refine zar (fun t0 => ?_))
   all_goals refine zyn ?_
   repeat' first|refine zck ?_|refine zcm ?_|refine zyq ?_|(refine zap rfl ?_;first|refine zcb rfl ?_|refine zau rfl rfl (by omega) ?_|refine zaw rfl rfl (by omega) ?_|refine zae 0 rfl rfl rfl rfl rfl rfl rfl ?_)|refine zp ?_|refine zch ?_|refine zcj rfl ?_
   exact zeg (zek (zel [] rfl (zem rfl (zeo 0 rfl rfl rfl) ⟨rfl, rfl, rfl⟩)))
 | true =>
   refine zep en11 fn11 rfl rfl rfl ?_
   refine zyr ?_
   repeat' (refine zap rfl ?_;refine zar (fun t0 => ?_))
   all_goals refine zyn ?_
   repeat' first|refine zck ?_|refine zyq ?_|(refine zap rfl ?_;first|refine zcb rfl ?_|refine zau rfl rfl (by omega) ?_|refine zaw rfl rfl (by omega) ?_|refine zae 0 rfl rfl rfl rfl rfl rfl rfl ?_)|refine zp ?_|refine zch ?_|refine zci rfl ?_
   exact zeg (zek (zel [] rfl (zem rfl (zeo 0 rfl rfl rfl) ⟨rfl, rfl, rfl⟩)))
theorem intRd (nb : Nat) (l : List Int) : RdSl w0 [(nb, .cells (List.toArray (l.flatMap encI)) 2 (0, 0))] encI 1 (.slice (some ⟨nb, 0, none⟩) l.length l.length) l :=
 RdSl.flat (encE := encI) (q := 1) (w0 := w0) (b := nb) (l := l) (fun _ _ => rfl) (.head _)
theorem aw_own (p nb n : Nat) (k r : Int) (name : ByteArray) (l : List Int) (hn : n < 8) (q : Int × Int) (hr : awV[n]? = some q)
   (spec : FnG w0 [(nb, .cells (List.toArray (l.flatMap encI)) 2 (0, 0))] 13 [spP p, poolV awP, .agg (List.toArray [.int .i64 k, .int .i64 r]), .string name, .slice (some ⟨nb, 0, none⟩) l.length l.length] p (doP (awG n)) encI2) (s : Sp) (hs : Eqv s (awPrev n)) :
   Vc.Fn PP w0 [] 13 [spP p, poolV awP, .agg (List.toArray [.int .i64 k, .int .i64 r]), .string name, .slice (some ⟨nb, 0, none⟩) l.length l.length] [pt nb (.cells (List.toArray (l.flatMap encI)) 2 (0, 0)), SpaceA p s]
     (fun v Γ => v = encI2 q ∧ ∃ s', Γ = [SpaceA p s', pt nb (.cells (List.toArray (l.flatMap encI)) 2 (0, 0))] ∧ Eqv s' (awPrev (n + 1))) := by
 refine (aw_step w0 _ _ _ p n hn q hr spec s hs).owned.mono ?_
 rintro v Γ ⟨_, ⟨rfl, s', rfl, h⟩, rfl⟩
 exact ⟨rfl, s', rfl, h⟩
abbrev AwO (w0 : World) (p nb n : Nat) (k r : Int) (name : ByteArray) (l : List Int) (q : Int × Int) (s : Sp) : Prop :=
 Vc.Fn PP w0 [] 13 [spP p, poolV awP, .agg (List.toArray [.int .i64 k, .int .i64 r]), .string name, .slice (some ⟨nb, 0, none⟩) l.length l.length] [pt nb (.cells (List.toArray (l.flatMap encI)) 2 (0, 0)), SpaceA p s]
     (fun v Γ => v = encI2 q ∧ ∃ s', Γ = [SpaceA p s', pt nb (.cells (List.toArray (l.flatMap encI)) 2 (0, 0))] ∧ Eqv s' (awPrev (n + 1)))
abbrev AwN (w0 : World) (p n : Nat) (k r : Int) (name : ByteArray) (q : Int × Int) (s : Sp) : Prop :=
 Vc.Fn PP w0 [] 13 [spP p, poolV awP, .agg (List.toArray [.int .i64 k, .int .i64 r]), .string name, .slice none 0 0] [SpaceA p s] (fun v Γ => v = encI2 q ∧ ∃ s', Γ = [SpaceA p s'] ∧ Eqv s' (awPrev (n + 1)))
def nmPut : ByteArray := bs [112, 117, 116]
def nmTake : ByteArray := bs [116, 97, 107, 101]
def nmLen : ByteArray := bs [108, 101, 110]
def nmFirst : ByteArray := bs [102, 105, 114, 115, 116]
def nmHas : ByteArray := bs [104, 97, 115]
def nmGet : ByteArray := bs [103, 101, 116]
theorem aw0_spec (p nb : Nat) (s : Sp) (hs : Eqv s (awPrev 0)) : AwO w0 p nb 0 2 24 nmPut [5] (0, 0) s := aw_own w0 p nb 0 2 24 nmPut [5] (by decide) (0, 0) rfl
 (doG w0 _ p awP 2 24 nmPut (some ⟨nb, 0, none⟩) 1 1 ((nmPut, 1, true), 203) (by kernel_rfl) (by decide +kernel) rfl _ (qPutG w0 _ p awP awP_ok 24 5 [5] _ _ (intRd w0 nb [5]) rfl)) s hs
theorem aw1_spec (p nb : Nat) (s : Sp) (hs : Eqv s (awPrev 1)) : AwO w0 p nb 1 2 24 nmPut [6] (0, 0) s := aw_own w0 p nb 1 2 24 nmPut [6] (by decide) (0, 0) rfl
 (doG w0 _ p awP 2 24 nmPut (some ⟨nb, 0, none⟩) 1 1 ((nmPut, 1, true), 203) (by kernel_rfl) (by decide +kernel) rfl _ (qPutG w0 _ p awP awP_ok 24 6 [6] _ _ (intRd w0 nb [6]) rfl)) s hs
theorem aw2_spec (p : Nat) (s : Sp) (hs : Eqv s (awPrev 2)) : AwN w0 p 2 2 24 nmTake (5, 0) s := aw_step w0 [] _ _ p 2 (by decide) (5, 0) rfl
 (doG w0 [] p awP 2 24 nmTake none 0 0 ((nmTake, 0, true), 204) (by kernel_rfl) (by decide +kernel) rfl _ (qTakeG w0 [] p awP awP_ok 24 _)) s hs
theorem aw3_spec (p : Nat) (s : Sp) (hs : Eqv s (awPrev 3)) : AwN w0 p 3 2 24 nmLen (1, 0) s := aw_step w0 [] _ _ p 3 (by decide) (1, 0) rfl
 (doG w0 [] p awP 2 24 nmLen none 0 0 ((nmLen, 0, false), 206) (by kernel_rfl) (by decide +kernel) rfl _ (qLenG w0 [] p awP 24 _)) s hs
theorem aw4_spec (p : Nat) (s : Sp) (hs : Eqv s (awPrev 4)) : AwN w0 p 4 2 24 nmFirst (6, 0) s := aw_step w0 [] _ _ p 4 (by decide) (6, 0) rfl
 (doG w0 [] p awP 2 24 nmFirst none 0 0 ((nmFirst, 0, false), 205) (by kernel_rfl) (by decide +kernel) rfl _ (qFirstG w0 [] p awP 24 _)) s hs
theorem aw5_spec (p nb : Nat) (s : Sp) (hs : Eqv s (awPrev 5)) : AwO w0 p nb 5 4 40 nmPut [1, 7] (0, 0) s := aw_own w0 p nb 5 4 40 nmPut [1, 7] (by decide) (0, 0) rfl
 (doG w0 _ p awP 4 40 nmPut (some ⟨nb, 0, none⟩) 2 2 ((nmPut, 2, true), 221) (by kernel_rfl) (by decide +kernel) rfl _ (tPutG w0 _ p awP 40 awT_ok 1 7 [1, 7] _ _ (intRd w0 nb [1, 7]) rfl rfl)) s hs
theorem aw6_spec (p nb : Nat) (s : Sp) (hs : Eqv s (awPrev 6)) : AwO w0 p nb 6 4 40 nmHas [1] (1, 0) s := aw_own w0 p nb 6 4 40 nmHas [1] (by decide) (1, 0) rfl
 (doG w0 _ p awP 4 40 nmHas (some ⟨nb, 0, none⟩) 1 1 ((nmHas, 1, false), 225) (by kernel_rfl) (by decide +kernel) rfl _ (tHasG w0 _ p awP 40 awT_ok 1 [1] _ _ (intRd w0 nb [1]) rfl)) s hs
theorem aw7_spec (p nb : Nat) (s : Sp) (hs : Eqv s (awPrev 7)) : AwO w0 p nb 7 4 40 nmGet [2] (0, 10) s := aw_own w0 p nb 7 4 40 nmGet [2] (by decide) (0, 10) rfl
 (doG w0 _ p awP 4 40 nmGet (some ⟨nb, 0, none⟩) 1 1 ((nmGet, 1, false), 223) (by kernel_rfl) (by decide +kernel) rfl _ (tGetG w0 _ p awP 40 awT_ok 2 [2] _ _ (intRd w0 nb [2]) rfl)) s hs
abbrev rootV (k r : Int) : Value := .agg (List.toArray [.int .i64 k, .int .i64 r])
abbrev threeV (x y z : Int) : Value := .agg (List.toArray [.int .i64 x, .int .i64 y, .int .i64 z])
theorem give_spec (p : Nat) (P : Pl) (hP : P.Ok) (s : Sp) (a : Int) (hsm : Sm s 3) : FnE PP w0 [] 114 [poolV P, spP p, .int .i64 a] [SpaceA p s] (.int .i64 (P.give s a).1) [SpaceA p (P.give s a).2] := by
 obtain ⟨_, h1, h2, h3, h4, h5, h6⟩ := id hP
 refine zep en114 fn114 rfl rfl rfl ?_
 refine zyr ?_
 repeat' first|(refine zap rfl ?_;refine zaq (cs := [_, _, _]) rfl (fun nb => ?_))|refine zp ?_|refine zyn ?_
 refine zeb [1] rfl ?_
 repeat' first|refine zck ?_|refine zyq ?_|(refine zap rfl ?_;first|refine zah [] (node_spec w0 P hP _) rfl rfl rfl zdj rfl ?_|refine zbx rfl ?_)|refine zp ?_|refine zyl 0 rfl ?_|refine zch ?_
 refine zee rfl (fun hE => ?_) (fun hE => ?_)
 · have hE : P.node a = false := by simpa using hE
   repeat' first|refine zck ?_|refine zyq ?_|refine zp ?_|refine zch ?_
   have e : P.give s a = (1, s) := by simp [Pl.give, hE]
   rw [e]
   exact zej rfl ⟨rfl, rfl⟩
 · have hE : P.node a = true := by simpa using hE
   repeat' first|refine zck ?_|refine zcm ?_|refine zyq ?_|(refine zap rfl ?_;first|refine zah [0] (getS w0 p _ _ (by first|exact hsm.mono (by decide) | (repeat (first|refine sm_get ?_|refine sm_put ?_)); exact hsm.mono (by decide))) rfl rfl rfl zdj rfl ?_|refine zah [0] (putS w0 p _ _ _ (by first|exact hsm.mono (by decide) | (repeat (first|refine sm_get ?_|refine sm_put ?_)); exact hsm.mono (by decide))) rfl rfl rfl zdj rfl ?_|refine zah [0] (add_spec w0 p P hP _ _ _ (by decide) (by first|exact hsm.mono (by decide) | (repeat (first|refine sm_get ?_|refine sm_put ?_)); exact hsm.mono (by decide))) rfl rfl rfl zdj rfl ?_)|refine zp ?_|refine zyl 0 rfl ?_|refine zyf rfl ?_|refine zch ?_
   have e : P.give s a = (0, P.add (((s.get P.root).2.put a (s.get P.root).1).put P.root a) 2 1) := by simp [Pl.give, hE]
   rw [e]
   exact zej rfl ⟨rfl, rfl⟩
theorem take_spec (p : Nat) (P : Pl) (hP : P.Ok) (s : Sp) (hsm : Sm s 2) : FnE PP w0 [] 111 [poolV P, spP p] [SpaceA p s] (.tuple #[.int .i64 (P.take s).1, .int .i64 (P.take s).2.1]) [SpaceA p (P.take s).2.2] := by
 obtain ⟨_, h1, h2, h3, h4, h5, h6⟩ := id hP
 refine zep en111 fn111 rfl rfl rfl ?_
 refine zyr ?_
 repeat' first|(refine zap rfl ?_;refine zaq (cs := [_, _, _]) rfl (fun nb => ?_))|refine zp ?_|refine zyn ?_
 refine zeb [1] rfl ?_
 repeat' first|refine zck ?_|refine zcm ?_|refine zyq ?_|(refine zap rfl ?_;first|refine zah [] (check_spec w0 P hP) rfl rfl rfl zdj rfl ?_|refine zah [0] (getS w0 p _ _ (by first|exact hsm.mono (by decide) | (repeat (first|refine sm_get ?_|refine sm_put ?_)); exact hsm.mono (by decide))) rfl rfl rfl zdj rfl ?_|refine zbp rfl rfl ?_)|refine zp ?_|refine zyl 0 rfl ?_|refine zyf rfl ?_|refine zch ?_|refine zcj rfl ?_
 refine zed rfl (fun hE => ?_) (fun hE => ?_)
 · repeat' first|refine zck ?_|refine zyq ?_|(refine zap rfl ?_;first|refine zah [] (node_spec w0 P hP _) rfl rfl rfl zdj rfl ?_|refine zbx rfl ?_)|refine zp ?_|refine zyl 0 rfl ?_|refine zch ?_
   refine zee rfl (fun hN => ?_) (fun hN => ?_)
   · have hN : P.node (s.get P.root).1 = false := by simpa using hN
     repeat' first|refine zck ?_|refine zyq ?_|refine zp ?_|refine zch ?_
     have e : P.take s = (0, 24, (s.get P.root).2) := by simp [Pl.take, hE, hN]
     rw [e]
     exact zei rfl ⟨rfl, rfl⟩
   · have hN : P.node (s.get P.root).1 = true := by simpa using hN
     repeat' first|refine zck ?_|refine zcm ?_|refine zyq ?_|(refine zap rfl ?_;first|refine zah [0] (getS w0 p _ _ (by first|exact hsm.mono (by decide) | (repeat (first|refine sm_get ?_|refine sm_put ?_)); exact hsm.mono (by decide))) rfl rfl rfl zdj rfl ?_|refine zah [0] (putS w0 p _ _ _ (by first|exact hsm.mono (by decide) | (repeat (first|refine sm_get ?_|refine sm_put ?_)); exact hsm.mono (by decide))) rfl rfl rfl zdj rfl ?_|refine zah [0] (add_spec w0 p P hP _ _ _ (by decide) (by first|exact hsm.mono (by decide) | (repeat (first|refine sm_get ?_|refine sm_put ?_)); exact hsm.mono (by decide))) rfl rfl rfl zdj rfl ?_)|refine zp ?_|refine zyl 0 rfl ?_|refine zyf rfl ?_|refine zch ?_
     have e : P.take s = ((s.get P.root).1, 0, P.add (((s.get P.root).2.get (s.get P.root).1).2.put P.root ((s.get P.root).2.get (s.get P.root).1).1) 2 (-1)) := by simp [Pl.take, hE, hN]
     rw [e]
     exact zei rfl ⟨rfl, rfl⟩
 · repeat' first|refine zck ?_|refine zcm ?_|refine zyq ?_|(refine zap rfl ?_;first|refine zaj rfl ?_|refine zak rfl ?_|refine zam rfl rfl (fun _ => ?_) (fun _ => ?_)|refine zah [0] (getS w0 p _ _ (by first|exact hsm.mono (by decide) | (repeat (first|refine sm_get ?_|refine sm_put ?_)); exact hsm.mono (by decide))) rfl rfl rfl zdj rfl ?_|refine zah [0] (putS w0 p _ _ _ (by first|exact hsm.mono (by decide) | (repeat (first|refine sm_get ?_|refine sm_put ?_)); exact hsm.mono (by decide))) rfl rfl rfl zdj rfl ?_|refine zau rfl rfl (by omega) ?_|refine zaw rfl rfl (by omega) ?_|refine zbq rfl rfl ?_|refine zbt rfl rfl ?_|refine zbu rfl ?_|refine zbv rfl ?_)|refine zp ?_|refine zyl 0 rfl ?_|refine zyf rfl ?_|refine zch ?_|refine zci rfl ?_|refine zed rfl (fun _ => ?_) (fun _ => ?_)
   · have e : P.take s = (0, 9, ((s.get P.root).2.get (P.root + 1)).2) := by simp_all [Pl.take]
     rw [e]
     exact zei rfl ⟨rfl, rfl⟩
   · have e : P.take s = (0, 9, ((s.get P.root).2.get (P.root + 1)).2) := by simp_all [Pl.take]
     rw [e]
     exact zei rfl ⟨rfl, rfl⟩
   · have e : P.take s = (P.frm + 8 * ((s.get P.root).2.get (P.root + 1)).1, 0, ((s.get P.root).2.get (P.root + 1)).2.put (P.root + 1) (((s.get P.root).2.get (P.root + 1)).1 + 1)) := by
       unfold Pl.take
       rw [if_neg hE, if_neg (by omega)]
     rw [e]
     exact zei rfl ⟨rfl, rfl⟩
end Go.Proofs.YtgdhcgnmffgkiaaGreatDoor
namespace Sim
open Go Go.Vc
structure Ar where
 pool : Pl
 root : Int
def Ar.Ok (A : Ar) : Prop := A.pool.Ok ∧ 0 ≤ A.root ∧ A.root ≤ 4096
def pw : Nat → Int
 | 0 => 1
 | 1 => 8
 | 2 => 64
 | 3 => 512
 | _ => 4096
def dep (n : Int) : Nat := if n = 0 then 0 else if n ≤ 8 then 1 else if n ≤ 64 then 2 else if n ≤ 512 then 3 else 4
def digA (i : Int) (d : Nat) : Int := i / pw (d - 1) % 8
theorem pw_pos : ∀ d, 1 ≤ pw d ∧ pw d ≤ 4096
 | 0 => by decide
 | 1 => by decide
 | 2 => by decide
 | 3 => by decide
 | _ + 4 => ⟨by simp [pw], by simp [pw]⟩
theorem dig_bd (i : Int) (d : Nat) : 0 ≤ digA i d ∧ digA i d ≤ 7 := by unfold digA; omega
theorem dep_le (n : Int) : dep n ≤ 4 := by unfold dep; split <;> try split <;> try split <;> try split
                                           all_goals omega
def Ar.many (A : Ar) (s : Sp) : Int × Int × Bool × Sp :=
 if (s.get (A.root + 1)).1 < 0 ∨ 4096 < (s.get (A.root + 1)).1 then ((s.get (A.root + 1)).1, 0, false, (s.get (A.root + 1)).2)
 else ((s.get (A.root + 1)).1, dep (s.get (A.root + 1)).1, decide (((s.get (A.root + 1)).2.get (A.root + 2)).1 = dep (s.get (A.root + 1)).1), ((s.get (A.root + 1)).2.get (A.root + 2)).2)
def Ar.node (A : Ar) (s : Sp) (cell : Int) : Int × Bool × Sp :=
 if (s.get cell).1 ≤ 0 ∨ 4096 < (s.get cell).1 then (0, false, (s.get cell).2) else ((s.get cell).1, A.pool.node (s.get cell).1, (s.get cell).2)
theorem Ar.node_bd (A : Ar) (s : Sp) (cell : Int) : 0 ≤ (A.node s cell).1 ∧ (A.node s cell).1 ≤ 4096 := by
 unfold Ar.node; split
 · simp
 · simp; omega
def Ar.take (A : Ar) (s : Sp) : Int × Int × Sp :=
 if (A.pool.take s).2.1 = 0 then ((A.pool.take s).1, (A.pool.take s).2.1, ((A.pool.take s).2.2.get (A.root + 7)).2.put (A.root + 7) (w64 (((A.pool.take s).2.2.get (A.root + 7)).1 + 1)))
 else ((A.pool.take s).1, (A.pool.take s).2.1, (A.pool.take s).2.2)
def Ar.way (A : Ar) (i : Int) : Nat → Int → Sp → List Int → Option (List Int) × Sp
 | 0, _, s, acc => (some acc, s)
 | d + 1, cell, s, acc =>
   if (A.node s cell).2.1 then A.way i d ((A.node s cell).1 + digA i (d + 1)) (A.node s cell).2.2 (acc ++ [(A.node s cell).1])
   else (none, (A.node s cell).2.2)
theorem sm_add {P : Pl} {s : Sp} {j : Nat} {a v : Int} (h : Sm s (j + 1)) : Sm (P.add s a v) j := sm_put (sm_get h)
theorem sm_poolTake {P : Pl} {s : Sp} {j : Nat} (h : Sm s (j + 2)) : Sm (P.take s).2.2 j := by
 unfold Pl.take
 split
 · split
   · exact sm_add (sm_put (sm_get (sm_get h)))
   · exact (sm_get h).mono (by omega)
 · split
   · exact (sm_get (sm_get h)).mono (by omega)
   · exact (sm_put (sm_get (sm_get h))).mono (by omega)
theorem sm_give {P : Pl} {s : Sp} {j : Nat} {a : Int} (h : Sm s (j + 3)) : Sm (P.give s a).2 j := by
 unfold Pl.give
 split
 · exact sm_add (sm_put (sm_put (sm_get h)))
 · exact h.mono (by omega)
theorem sm_many {A : Ar} {s : Sp} {j : Nat} (h : Sm s j) : Sm (A.many s).2.2.2 j := by
 unfold Ar.many; split
 · exact sm_get h
 · exact sm_get (sm_get h)
theorem sm_node {A : Ar} {s : Sp} {j : Nat} {c : Int} (h : Sm s j) : Sm (A.node s c).2.2 j := by
 unfold Ar.node; split <;> exact sm_get h
theorem sm_take {A : Ar} {s : Sp} {j : Nat} (h : Sm s (j + 3)) : Sm (A.take s).2.2 j := by
 unfold Ar.take; split
 · exact sm_put (sm_get (sm_poolTake h))
 · exact (sm_poolTake h).mono (by omega)
theorem sm_way {A : Ar} {i : Int} : ∀ {d : Nat} {c : Int} {s : Sp} {acc : List Int} {j : Nat}, Sm s j → Sm (A.way i d c s acc).2 j
 | 0, _, _, _, _, h => h
 | d + 1, c, s, acc, j, h => by
   simp only [Ar.way]; split
   · exact sm_way (sm_node h)
   · exact sm_node h
end Sim
namespace Go.Proofs.YtgdhcgnmffgkiaaGreatDoor
variable (w0 : World)
open Go.Vc Sim
set_option maxHeartbeats 4000000
def powL : List Value := [.int .i64 1, .int .i64 8, .int .i64 64, .int .i64 512, .int .i64 4096]
def PowOk (w0 : World) : Prop := ∃ T fr, w0.heap[0]? = some (.cells (List.toArray powL) T fr)
theorem powL_rd (d : Nat) (hd : d ≤ 4) (o : Nat) (ho : o = d) : rd false 1 powL o = some (.int .i64 (pw d)) := by
 subst ho
 match o, hd with
 | 0, _ => rfl
 | 1, _ => rfl
 | 2, _ => rfl
 | 3, _ => rfl
 | 4, _ => rfl
def arrV (A : Ar) : Value := .agg #[.int .i64 A.pool.root, .int .i64 A.pool.frm, .int .i64 A.pool.nodes, .int .i64 A.root]
theorem depth_spec (hw : PowOk w0) (m : Int) : FnE PP w0 [] 162 [.int .i64 m] [] (.int .i64 (dep m)) [] := by
 obtain ⟨T, fr, hw⟩ := hw
 refine zep en162 fn162 rfl rfl rfl ?_
 repeat' first|refine zck ?_|refine zyq ?_|(refine zap rfl ?_;refine zbo rfl rfl ?_)|refine zp ?_|refine zch ?_
 refine zed rfl (fun hE => ?_) (fun hE => ?_)
 · repeat' first|refine zck ?_|refine zyq ?_|refine zp ?_|refine zch ?_
   refine zej rfl ⟨?_, rfl⟩
   rw [hE]; rfl
 · repeat' first|refine zck ?_|refine zcm ?_|refine zcl ?_|refine zyq ?_|refine zp ?_|refine zch ?_
   refine run_loop (S := Nat) (fun d => [(0, .int .i64 m), (3, .int .i64 d)]) (fun d Γ => Γ = [] ∧ 1 ≤ d ∧ d ≤ 4 ∧ d ≤ dep m) (fun d => 4 - d) 1 ⟨rfl, rfl, trivial⟩
     ⟨rfl, by decide, by decide, by unfold dep; rw [if_neg hE]; split <;> try split <;> try split
                                    all_goals omega⟩ ?_
   rintro d Γ junk ⟨rfl, h1, h2, h3⟩
   by_cases hd : d < 4
   · have dd : decide ((d : Int) < 4) = true := decide_eq_true (by omega)
     by_cases hm : pw d < m
     · have dm : decide (pw d < m) = true := decide_eq_true hm
       repeat' first|refine zck ?_|refine zcm ?_|refine zcl ?_|refine zcn ?_|refine zyq ?_|(refine zap rfl ?_;first|(refine zbq rfl rfl ?_; rw [dd])|(refine zbq rfl rfl ?_; rw [dm])|refine zac rfl hw (powL_rd d h2 _ (by omega)) ?_|refine zaj rfl ?_|refine zau rfl rfl (by omega) ?_|refine zbu rfl ?_|refine zat rfl rfl (by omega) ?_)|refine zp ?_|refine zch ?_|refine zci rfl ?_
       refine zeq ⟨rfl, d + 1, ⟨rfl, zes (by omega), trivial⟩, ⟨rfl, by omega, by omega, ?_⟩, by omega⟩
       have : d = 1 ∨ d = 2 ∨ d = 3 := by omega
       unfold dep
       rcases this with rfl | rfl | rfl <;> simp only [pw] at hm
       all_goals (split <;> try split <;> try split <;> try split)
       all_goals omega
     · have dm : decide (pw d < m) = false := decide_eq_false hm
       repeat' first|refine zck ?_|refine zyq ?_|(refine zap rfl ?_;first|(refine zbq rfl rfl ?_; rw [dd])|(refine zbq rfl rfl ?_; rw [dm])|refine zac rfl hw (powL_rd d h2 _ (by omega)) ?_|refine zaj rfl ?_|refine zbu rfl ?_|refine zat rfl rfl (by omega) ?_)|refine zp ?_|refine zch ?_|refine zcj rfl ?_
       refine zer rfl rfl ?_
       repeat' first|refine zck ?_|refine zyq ?_|refine zp ?_|refine zch ?_
       refine zej rfl ⟨zes ?_, rfl⟩
       have hc : d = 1 ∨ d = 2 ∨ d = 3 := by omega
       have : d = dep m := by
         unfold dep at h3 ⊢
         rcases hc with rfl | rfl | rfl <;> simp only [pw] at hm
         all_goals (split at h3 <;> try split at h3 <;> try split at h3 <;> try split at h3)
         all_goals (try split)
         all_goals (try split)
         all_goals (try split)
         all_goals (try split)
         all_goals omega
       rw [← this]
   · have dd : decide ((d : Int) < 4) = false := decide_eq_false (by omega)
     repeat' first|refine zck ?_|refine zyq ?_|(refine zap rfl ?_;first|(refine zbq rfl rfl ?_; rw [dd])|refine zak rfl ?_|refine zbv rfl ?_)|refine zp ?_|refine zch ?_|refine zcj rfl ?_
     refine zer rfl rfl ?_
     repeat' first|refine zck ?_|refine zyq ?_|refine zp ?_|refine zch ?_
     refine zej rfl ⟨zes ?_, rfl⟩
     have := dep_le m
     omega
theorem digit_spec (hw : PowOk w0) (m : Int) (d : Nat) (hm : 0 ≤ m ∧ m ≤ 4096) (hd : 1 ≤ d ∧ d ≤ 4) (dI : Int) (hdI : dI = d) : FnE PP w0 [] 165 [.int .i64 m, .int .i64 dI] [] (.int .i64 (digA m d)) [] := by
 subst hdI
 obtain ⟨T, fr, hw⟩ := hw
 have hp := pw_pos (d - 1)
 have hq : m / pw (d - 1) ≤ m := Int.ediv_le_self _ hm.1
 have hq0 : 0 ≤ m / pw (d - 1) := Int.ediv_nonneg hm.1 (by omega)
 refine zep en165 fn165 rfl rfl rfl ?_
 repeat' first|refine zck ?_|refine zyq ?_|(refine zap rfl ?_;first|refine zac rfl hw (powL_rd (d - 1) (by omega) _ (by omega)) ?_|refine zav rfl rfl (by omega) ?_|refine zax rfl rfl (by omega) ?_|refine zay rfl rfl (by omega) ?_|refine zat rfl rfl (by omega) ?_)|refine zp ?_|refine zch ?_
 exact zej rfl ⟨rfl, rfl⟩
theorem anode_spec (p : Nat) (A : Ar) (hA : A.Ok) (s : Sp) (c : Int) (hsm : Sm s 0) : FnE PP w0 [] 163 [arrV A, spP p, .int .i64 c] [SpaceA p s]
   (.tuple #[.int .i64 (A.node s c).1, .bool (A.node s c).2.1]) [SpaceA p (A.node s c).2.2] := by
 refine zep en163 fn163 rfl rfl rfl ?_
 refine zyr ?_
 repeat' first|(refine zap rfl ?_;refine zaq (cs := [_, _, _, _]) rfl (fun nb => ?_))|refine zp ?_|refine zyn ?_
 refine zeb [1] rfl ?_
 refine zyr ?_
 repeat' first|(refine zap rfl ?_;refine zah [0] (getS w0 p _ _ (by first|exact hsm.mono (by decide) | (repeat (first|refine sm_get ?_|refine sm_put ?_|refine sm_node ?_|refine sm_take ?_|refine sm_many ?_|refine sm_way ?_|refine sm_poolTake ?_|refine sm_give ?_)); exact hsm.mono (by decide))) rfl rfl rfl zdj rfl ?_)|refine zp ?_|refine zyn ?_
 by_cases h0 : (s.get c).1 ≤ 0
 · have d0 : decide ((s.get c).1 ≤ 0) = true := decide_eq_true h0
   have e : A.node s c = (0, false, (s.get c).2) := by simp [Ar.node, h0]
   repeat' first|refine zck ?_|refine zyq ?_|(refine zap rfl ?_;first|(refine zbr rfl rfl ?_; rw [d0])|refine zak rfl ?_|refine zbu rfl ?_)|refine zp ?_|refine zch ?_|refine zci rfl ?_
   rw [e]
   exact zei rfl ⟨rfl, rfl⟩
 · have d0 : decide ((s.get c).1 ≤ 0) = false := decide_eq_false h0
   by_cases h1 : 4096 < (s.get c).1
   · have d1 : decide (4096 < (s.get c).1) = true := decide_eq_true h1
     have e : A.node s c = (0, false, (s.get c).2) := by simp [Ar.node, h1]
     repeat' first|refine zck ?_|refine zyq ?_|(refine zap rfl ?_;first|(refine zbr rfl rfl ?_; rw [d0])|(refine zbs rfl rfl ?_; rw [d1])|refine zaj rfl ?_|refine zbv rfl ?_)|refine zp ?_|refine zch ?_|refine zci rfl ?_
     rw [e]
     exact zei rfl ⟨rfl, rfl⟩
   · have d1 : decide (4096 < (s.get c).1) = false := decide_eq_false h1
     have e : A.node s c = ((s.get c).1, A.pool.node (s.get c).1, (s.get c).2) := by simp [Ar.node, h0, h1]
     repeat' first|refine zck ?_|refine zcm ?_|refine zyq ?_|(refine zap rfl ?_;first|(refine zbr rfl rfl ?_; rw [d0])|(refine zbs rfl rfl ?_; rw [d1])|refine zaj rfl ?_|refine zah [] (node_spec w0 A.pool hA.1 _) rfl rfl rfl zdj rfl ?_|refine zbv rfl ?_)|refine zp ?_|refine zyl 0 rfl ?_|refine zyf rfl ?_|refine zch ?_|refine zcj rfl ?_
     rw [e]
     exact zei rfl ⟨rfl, rfl⟩
theorem len_spec (p : Nat) (A : Ar) (hA : A.Ok) (s : Sp) (hsm : Sm s 0) : FnE PP w0 [] 84 [arrV A, spP p] [SpaceA p s]
   (.int .i64 (s.get (A.root + 1)).1) [SpaceA p (s.get (A.root + 1)).2] := by
 obtain ⟨_, h1, h2⟩ := id hA
 refine zep en84 fn84 rfl rfl rfl ?_
 refine zyr ?_
 repeat' first|(refine zap rfl ?_;refine zaq (cs := [_, _, _, _]) rfl (fun nb => ?_))|refine zp ?_|refine zyn ?_
 refine zeb [1] rfl ?_
 repeat' first|refine zyq ?_|(refine zap rfl ?_;first|refine zah [0] (getS w0 p _ _ (by first|exact hsm.mono (by decide) | (repeat (first|refine sm_get ?_|refine sm_put ?_|refine sm_node ?_|refine sm_take ?_|refine sm_many ?_|refine sm_way ?_|refine sm_poolTake ?_|refine sm_give ?_)); exact hsm.mono (by decide))) rfl rfl rfl zdj rfl ?_|refine zau rfl rfl (by omega) ?_)|refine zp ?_|refine zyl 0 rfl ?_|refine zyf rfl ?_|refine zch ?_
 exact zej rfl ⟨rfl, rfl⟩
theorem many_spec (hw : PowOk w0) (p : Nat) (A : Ar) (hA : A.Ok) (s : Sp) (hsm : Sm s 0) : FnE PP w0 [] 160 [arrV A, spP p] [SpaceA p s]
   (.tuple #[.int .i64 (A.many s).1, .int .i64 (A.many s).2.1, .bool (A.many s).2.2.1]) [SpaceA p (A.many s).2.2.2] := by
 obtain ⟨_, h1, h2⟩ := id hA
 obtain ⟨T, fr, hw2⟩ := id hw
 refine zep en160 fn160 rfl rfl rfl ?_
 refine zyr ?_
 repeat' first|(refine zap rfl ?_;refine zaq (cs := [_, _, _, _]) rfl (fun nb => ?_))|refine zp ?_|refine zyn ?_
 refine zeb [1] rfl ?_
 generalize hg : s.get (A.root + 1) = g
 have hsm2 : Sm g.2 0 := hg ▸ sm_get hsm
 have hG : FnE PP w0 [] 36 [spP p, .int .i64 (A.root + 1)] [SpaceA p s] (.int .i64 g.1) [SpaceA p g.2] := hg ▸ getS w0 p s (A.root + 1) hsm
 refine zyr ?_
 repeat' first|(refine zap rfl ?_;first|refine zah [0] hG rfl rfl rfl zdj rfl ?_|refine zau rfl rfl (by omega) ?_)|refine zp ?_|refine zyl 0 rfl ?_|refine zyf rfl ?_|refine zyn ?_
 by_cases h0 : g.1 < 0
 · have d0 : decide (g.1 < 0) = true := decide_eq_true h0
   have e : A.many s = (g.1, 0, false, g.2) := by simp [Ar.many, hg, h0]
   repeat' first|refine zck ?_|refine zyq ?_|(refine zap rfl ?_;first|(refine zbq rfl rfl ?_; rw [d0])|refine zak rfl ?_|refine zbu rfl ?_)|refine zp ?_|refine zch ?_|refine zci rfl ?_
   rw [e]
   exact ret_tmp3 rfl ⟨rfl, rfl⟩
 · have d0 : decide (g.1 < 0) = false := decide_eq_false h0
   by_cases h1 : 4096 < g.1
   · have d1 : decide (4096 < g.1) = true := decide_eq_true h1
     have e : A.many s = (g.1, 0, false, g.2) := by simp [Ar.many, hg, h1]
     repeat' first|refine zck ?_|refine zyq ?_|(refine zap rfl ?_;first|(refine zbq rfl rfl ?_; rw [d0])|refine zac rfl hw2 (powL_rd 4 (by decide) _ rfl) ?_|(refine zbs rfl rfl ?_; rw [show pw 4 = 4096 from rfl, d1])|refine zaj rfl ?_|refine zbv rfl ?_|refine zat rfl rfl (by omega) ?_)|refine zp ?_|refine zch ?_|refine zci rfl ?_
     rw [e]
     exact ret_tmp3 rfl ⟨rfl, rfl⟩
   · have d1 : decide (4096 < g.1) = false := decide_eq_false h1
     have e : A.many s = (g.1, (dep g.1 : Int), decide ((g.2.get (A.root + 2)).1 = dep g.1), (g.2.get (A.root + 2)).2) := by simp [Ar.many, hg, h0, h1]
     repeat' first|refine zck ?_|refine zcm ?_|refine zyq ?_|(refine zap rfl ?_;first|(refine zbq rfl rfl ?_; rw [d0])|refine zac rfl hw2 (powL_rd 4 (by decide) _ rfl) ?_|(refine zbs rfl rfl ?_; rw [show pw 4 = 4096 from rfl, d1])|refine zaj rfl ?_|refine zah [0] (getS w0 p _ _ hsm2) rfl rfl rfl zdj rfl ?_|refine zah [] (depth_spec w0 hw _) rfl rfl rfl zdj rfl ?_|refine zau rfl rfl (by omega) ?_|refine zbo rfl rfl ?_|refine zbv rfl ?_|refine zat rfl rfl (by omega) ?_)|refine zp ?_|refine zyl 0 rfl ?_|refine zyf rfl ?_|refine zch ?_|refine zcj rfl ?_
     rw [e]
     exact ret_tmp3 rfl ⟨rfl, rfl⟩
theorem atake_spec (p : Nat) (A : Ar) (hA : A.Ok) (s : Sp) (hsm : Sm s 3) : FnE PP w0 [] 164 [arrV A, spP p] [SpaceA p s]
   (.tuple #[.int .i64 (A.take s).1, .int .i64 (A.take s).2.1]) [SpaceA p (A.take s).2.2] := by
 obtain ⟨_, h1, h2⟩ := id hA
 refine zep en164 fn164 rfl rfl rfl ?_
 refine zyr ?_
 repeat' first|(refine zap rfl ?_;refine zaq (cs := [_, _, _, _]) rfl (fun nb => ?_))|refine zp ?_|refine zyn ?_
 refine zeb [1] rfl ?_
 generalize hg : A.pool.take s = g
 have hsm2 : Sm g.2.2 1 := hg ▸ sm_poolTake hsm
 have hG := take_spec w0 p A.pool hA.1 s (hsm.mono (by decide))
 rw [hg] at hG
 repeat' first|refine zck ?_|refine zyq ?_|(refine zap rfl ?_;first|refine zah [0] hG rfl rfl rfl zdj rfl ?_|refine zbo rfl rfl ?_)|refine zp ?_|refine zyl 0 rfl ?_|refine zyf rfl ?_|refine zch ?_
 refine zed rfl (fun hE => ?_) (fun hE => ?_)
 · have e : A.take s = (g.1, g.2.1, (g.2.2.get (A.root + 7)).2.put (A.root + 7) (w64 ((g.2.2.get (A.root + 7)).1 + 1))) := by simp [Ar.take, hg, hE]
   repeat' first|refine zck ?_|refine zyq ?_|(refine zap rfl ?_;first|refine zdu (t := 2) rfl rfl ?_|refine zah [0] (getS w0 p _ _ (hsm2.mono (by decide))) rfl rfl rfl zdj rfl ?_|refine zah [0] (putS w0 p _ _ _ (sm_get (hsm2.mono (by decide)))) rfl rfl rfl zdj rfl ?_|refine zau rfl rfl (by omega) ?_)|refine zp ?_|refine zyl 0 rfl ?_|refine zyf rfl ?_|refine zch ?_
   rw [e]
   exact zei rfl ⟨rfl, rfl⟩
 · have e : A.take s = (g.1, g.2.1, g.2.2) := by simp [Ar.take, hg, hE]
   repeat' first|refine zck ?_|refine zcm ?_|refine zyq ?_|refine zp ?_|refine zch ?_
   rw [e]
   exact zei rfl ⟨rfl, rfl⟩
end Go.Proofs.YtgdhcgnmffgkiaaGreatDoor
