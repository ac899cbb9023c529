import Derived.Test.YtgdhcgnmffgkiaaGreatDoorPart10
/- Own work: lemmas of this claim. -/
namespace Sim
open Go Go.Vc
theorem w64_sub1 {x : Int} (h : 0 ≤ x ∧ x ≤ 8256) : w64 (x - 1) = x - 1 := wrap64_id (by omega) (by omega)
theorem Te.is_true {T : Te} {a : Int} {w : Wk} (hw : w.Ok) (h : (T.is a w).1 = true) : 1 ≤ w.2 ∧ (T.is a w).2 = (false, w.2 - 1) := by
 obtain ⟨h1, h2, h3⟩ := hw
 unfold Te.is at h ⊢
 split at h
 · cases h
 · rename_i hc
   rw [if_neg hc]
   have hl : w.1 = false := by cases hw1 : w.1 with
     | false => rfl
     | true => exact absurd (.inr hw1) hc
   have h4 := w64_sub1 ⟨h3 hl, h2⟩
   rw [h4] at h ⊢
   dsimp only at h ⊢
   split at h
   · rename_i hn
     rw [if_pos hn]
     have : ¬ (w.2 - 1 < 0) := by simpa using h
     exact ⟨by omega, by rw [decide_eq_false this]⟩
   · cases h
theorem Te.is_ok {T : Te} {a : Int} {w : Wk} (hw : w.Ok) : (T.is a w).2.Ok := by
 obtain ⟨h1, h2, h3⟩ := hw
 unfold Te.is
 split
 · exact ⟨h1, h2, h3⟩
 · rename_i hc
   have hl : w.1 = false := by cases hw1 : w.1 with
     | false => rfl
     | true => exact absurd (.inr hw1) hc
   have h5 := h3 hl
   have h4 := w64_sub1 ⟨h5, h2⟩
   rw [h4]
   refine ⟨by dsimp only; omega, by dsimp only; omega, fun h => ?_⟩
   dsimp only at h ⊢
   split at h
   · have : ¬ (w.2 - 1 < 0) := by simpa using h
     omega
   · cases h
theorem Te.is_done {T : Te} {a : Int} {w : Wk} (hw : w.Ok) (h : w.2 < 0) : T.is a w = (false, w) := by
 have : w.1 = true := by cases hw1 : w.1 with
   | false => have := hw.2.2 hw1; omega
   | true => rfl
 unfold Te.is; rw [if_pos (.inr this)]
theorem Te.start_ok {T : Te} (hT : T.Ok) : Wk.Ok T.start := by
 obtain ⟨⟨hp1, hp2, hp3, hp4, hp5, hp6, hp7⟩, _, _⟩ := hT
 unfold Te.start
 rw [show w64 (T.pool.nodes + 1) = T.pool.nodes + 1 from wrap64_id (by omega) (by omega), show w64 (64 * (T.pool.nodes + 1)) = 64 * (T.pool.nodes + 1) from wrap64_id (by omega) (by omega)]
 exact ⟨by dsimp only; omega, by dsimp only; omega, fun _ => by dsimp only; omega⟩
end Sim
namespace Go.Proofs.YtgdhcgnmffgkiaaGreatDoor
variable (w0 : World)
open Go.Vc Sim
set_option maxHeartbeats 4000000
set_option maxRecDepth 20000
theorem teSplit (p wb : Nat) (T : Te) (hT : T.Ok) (k : Int) : ∀ (j : Nat) (a : Int) (w : Wk), w.Ok → w.2 < j → FnK w0 138 [ptrT wb, .int .i64 a, .int .i64 k] p wb T w (T.split k j a w) encI2 := by
 intro j
 induction j with
 | zero =>
   intro a w hw hl
   intro s hS; have hG := At.start hS; generalize Pg.run _ s = R at hG ⊢
   have ki := teIs w0 p wb T hT w a
   have hd := Te.is_done (T := T) (a := a) hw hl
   rw [Te.split, hd] at hG
   rw [hd] at ki
   rw [hG.done]
   refine zep en138 fn138 rfl rfl rfl ?_
   repeat' first|refine zck ?_|refine zyq ?_|(refine zap rfl ?_;first|refine zbx rfl ?_|refine zah [1] ki rfl rfl rfl zdj rfl ?_)|refine zp ?_|refine zch ?_|refine zci rfl ?_
   refine zec [1, 0] rfl ?_
   exact zei rfl ⟨rfl, rfl⟩
 | succ j ih =>
   intro a w hw hl
   intro s hS; have hG := At.start hS; generalize Pg.run _ s = R at hG ⊢
   have ki := teIs w0 p wb T hT w a
   cases hI : (T.is a w).1 with
   | false =>
     rw [Te.split, hI, if_neg (by decide)] at hG
     rw [hI] at ki
     rw [hG.done]
     refine zep en138 fn138 rfl rfl rfl ?_
     repeat' first|refine zck ?_|refine zyq ?_|(refine zap rfl ?_;first|refine zbx rfl ?_|refine zah [1] ki rfl rfl rfl zdj rfl ?_)|refine zp ?_|refine zch ?_|refine zci rfl ?_
     refine zec [1, 0] rfl ?_
     exact zei rfl ⟨rfl, rfl⟩
   | true =>
     obtain ⟨hl1, he⟩ := Te.is_true hw hI
     have hok := Te.is_ok (T := T) (a := a) hw
     rw [Te.split, hI, if_pos rfl] at hG
     rw [hI] at ki
     have ih := fun b => ih b (T.is a w).2 hok (by rw [he]; dsimp only; omega)
     refine zep en138 fn138 rfl rfl rfl ?_
     refine zyr ?_
     repeat' refine zp ?_
     all_goals refine zyn ?_
     refine zyr ?_
     repeat' first|(refine zap rfl ?_;first|refine zbx rfl ?_|refine zah [1] ki rfl rfl rfl zdj rfl ?_)|refine zp ?_|refine zyn ?_
     refine zcj rfl ?_
     repeat (first|refine zck ?_|refine zcl ?_|refine zcm ?_|refine zcn ?_|refine zco ?_)
     refine zyr ?_
     repeat' first|(refine zap rfl ?_;first|refine zdn [1, 0] hG (teGet w0 p wb T _ a 0) rfl rfl rfl (fun key s hG => ?_)|refine zbq rfl rfl ?_)|refine zp ?_|refine zyn ?_
     refine zed rfl (fun hk => ?_) (fun hk => ?_)
     · rw [if_pos hk] at hG
       repeat' first|refine zck ?_|refine zyq ?_|(refine zap rfl ?_;first|refine zdn [0, 0] hG (teGet w0 p wb T _ a 3) rfl rfl rfl (fun b s hG => ?_)|refine zdq [0, 0] hG (ih _) rfl rfl rfl (fun r w3 s hG => ?_)|refine zdn [0, 0] hG (tePut w0 p wb T _ a 3 _) rfl rfl rfl (fun _ s hG => ?_)|refine zdq [0, 0] hG (teRefresh w0 p wb T hT _ a) rfl rfl rfl (fun _ w4 s hG => ?_))|refine zp ?_|refine zch ?_
       rw [hG.done]
       exact zei rfl ⟨rfl, rfl⟩
     · rw [if_neg hk] at hG
       repeat' first|refine zck ?_|refine zcm ?_|refine zyq ?_|(refine zap rfl ?_;first|refine zdn [0, 0] hG (teGet w0 p wb T _ a 2) rfl rfl rfl (fun b s hG => ?_)|refine zdq [0, 0] hG (ih _) rfl rfl rfl (fun r w3 s hG => ?_)|refine zdn [0, 0] hG (tePut w0 p wb T _ a 2 _) rfl rfl rfl (fun _ s hG => ?_)|refine zdq [0, 0] hG (teRefresh w0 p wb T hT _ a) rfl rfl rfl (fun _ w4 s hG => ?_))|refine zp ?_|refine zch ?_
       rw [hG.done]
       exact zei rfl ⟨rfl, rfl⟩
theorem teMerge (p wb : Nat) (T : Te) (hT : T.Ok) : ∀ (j : Nat) (a b : Int) (w : Wk), w.Ok → w.2 < j → FnK w0 142 [ptrT wb, .int .i64 a, .int .i64 b] p wb T w (T.merge j a b w) (.int .i64) := by
 intro j
 induction j with
 | zero =>
   intro a b w hw hl
   intro s hS; have hG := At.start hS; generalize Pg.run _ s = R at hG ⊢
   have ki := teIs w0 p wb T hT w a
   have hd := Te.is_done (T := T) (a := a) hw hl
   rw [Te.merge, hd] at hG
   rw [hd] at ki
   rw [hG.done]
   refine zep en142 fn142 rfl rfl rfl ?_
   repeat' first|refine zck ?_|refine zcl ?_|refine zyq ?_|(refine zap rfl ?_;first|refine zbx rfl ?_|refine zah [1] ki rfl rfl rfl zdj rfl ?_)|refine zp ?_|refine zch ?_|refine zci rfl ?_
   refine zec [1, 0] rfl ?_
   exact zej rfl ⟨rfl, rfl⟩
 | succ j ih =>
   intro a b w hw hl
   intro s hS; have hG := At.start hS; generalize Pg.run _ s = R at hG ⊢
   have ki := teIs w0 p wb T hT w a
   cases hI : (T.is a w).1 with
   | false =>
     rw [Te.merge, hI, if_neg (by decide)] at hG
     rw [hI] at ki
     rw [hG.done]
     refine zep en142 fn142 rfl rfl rfl ?_
     repeat' first|refine zck ?_|refine zcl ?_|refine zyq ?_|(refine zap rfl ?_;first|refine zbx rfl ?_|refine zah [1] ki rfl rfl rfl zdj rfl ?_)|refine zp ?_|refine zch ?_|refine zci rfl ?_
     refine zec [1, 0] rfl ?_
     exact zej rfl ⟨rfl, rfl⟩
   | true =>
     obtain ⟨hl1, he⟩ := Te.is_true hw hI
     have hok := Te.is_ok (T := T) (a := a) hw
     rw [Te.merge, hI, if_pos rfl] at hG
     rw [hI] at ki
     generalize hw1 : (T.is a w).2 = w1 at hG ki he hok
     have kj := teIs w0 p wb T hT w1 b
     cases hJ : (T.is b w1).1 with
     | false =>
       rw [hJ, if_neg (by decide)] at hG
       rw [hJ] at kj
       rw [hG.done]
       refine zep en142 fn142 rfl rfl rfl ?_
       repeat' first|refine zck ?_|refine zcl ?_|refine zyq ?_|(refine zap rfl ?_;first|refine zbx rfl ?_|refine zah [1] ki rfl rfl rfl zdj rfl ?_|refine zah [0] kj rfl rfl rfl zdj rfl ?_)|refine zp ?_|refine zch ?_|refine zci rfl ?_|refine zcj rfl ?_
       refine zec [1, 0] rfl ?_
       exact zej rfl ⟨rfl, rfl⟩
     | true =>
       obtain ⟨hm1, hf⟩ := Te.is_true hok hJ
       have hok2 := Te.is_ok (T := T) (a := b) hok
       rw [hJ, if_pos rfl] at hG
       rw [hJ] at kj
       generalize hw2 : (T.is b w1).2 = w2 at hG kj hf hok2
       have ih := fun x y => ih x y w2 hok2 (by rw [hf, he]; dsimp only; omega)
       refine zep en142 fn142 rfl rfl rfl ?_
       refine zyr ?_
       repeat' refine zp ?_
       all_goals refine zyn ?_
       refine zyr ?_
       repeat' first|(refine zap rfl ?_;first|refine zbx rfl ?_|refine zah [1] ki rfl rfl rfl zdj rfl ?_)|refine zp ?_|refine zyn ?_
       refine zcj rfl ?_
       repeat (first|refine zck ?_|refine zcl ?_|refine zcm ?_|refine zcn ?_|refine zco ?_)
       refine zyr ?_
       repeat' first|(refine zap rfl ?_;first|refine zbx rfl ?_|refine zah [0] kj rfl rfl rfl zdj rfl ?_)|refine zp ?_|refine zyn ?_
       refine zcj rfl ?_
       repeat (first|refine zck ?_|refine zcl ?_|refine zcm ?_|refine zcn ?_|refine zco ?_)
       refine zyr ?_
       repeat' first|(refine zap rfl ?_;first|refine zdn [1, 0] hG (teGet w0 p wb T _ a 0) rfl rfl rfl (fun x s hG => ?_)|refine zdn [0, 0] hG (teGet w0 p wb T _ b 0) rfl rfl rfl (fun y s hG => ?_)|refine zah [] (teRank w0 _) rfl rfl rfl zdj rfl ?_|refine zbs rfl rfl ?_)|refine zp ?_|refine zyn ?_
       refine zed rfl (fun hk => ?_) (fun hk => ?_)
       · rw [if_pos hk] at hG
         repeat' first|refine zck ?_|refine zyq ?_|(refine zap rfl ?_;first|refine zdn [0, 0] hG (teGet w0 p wb T _ a 3) rfl rfl rfl (fun c s hG => ?_)|refine zdq [0, 0] hG (ih _ _) rfl rfl rfl (fun r w3 s hG => ?_)|refine zdn [0, 0] hG (tePut w0 p wb T _ a 3 _) rfl rfl rfl (fun _ s hG => ?_)|refine zdq [0, 0] hG (teRefresh w0 p wb T hT _ a) rfl rfl rfl (fun _ w4 s hG => ?_))|refine zp ?_|refine zch ?_
         rw [hG.done]
         exact zej rfl ⟨rfl, rfl⟩
       · rw [if_neg hk] at hG
         repeat' first|refine zck ?_|refine zcm ?_|refine zcn ?_|refine zyq ?_|(refine zap rfl ?_;first|refine zdn [0, 0] hG (teGet w0 p wb T _ b 2) rfl rfl rfl (fun c s hG => ?_)|refine zdq [0, 0] hG (ih _ _) rfl rfl rfl (fun r w3 s hG => ?_)|refine zdn [0, 0] hG (tePut w0 p wb T _ b 2 _) rfl rfl rfl (fun _ s hG => ?_)|refine zdq [0, 0] hG (teRefresh w0 p wb T hT _ b) rfl rfl rfl (fun _ w4 s hG => ?_))|refine zp ?_|refine zch ?_
         rw [hG.done]
         exact zej rfl ⟨rfl, rfl⟩
set_option maxRecDepth 20000
theorem teAdd (p wb : Nat) (T : Te) (w : Wk) (sh : Shared) (ad : Option Addr) (cap : Nat) (l : List (Int × Int)) (hR : RdSl w0 sh encS 2 (.slice ad l.length cap) l) (hl : l.length ≤ 128) (n v : Int) : ∀ s, Pg.Fits (Te.add l n v) s →
   FnE PP w0 sh 136 [ptrT wb, .slice ad l.length cap, .int .i64 n, .int .i64 v] [SpaceA p s, wkA wb p T w] (.tuple #[]) [SpaceA p (Pg.run (Te.add l n v) s).2, wkA wb p T w] := by
 intro s hS
 have hG := At.start hS
 generalize Pg.run _ s = R at hG ⊢
 refine zep en136 fn136 rfl rfl rfl ?_
 refine zyr ?_
 repeat' first|(refine zap rfl ?_;refine zce rfl ?_)|refine zp ?_|refine zyn ?_
 refine run_loop (S := Nat × Sp) (fun z => [(0, ptrT wb), (2, .int .i64 n), (3, .int .i64 v), (10, .slice ad l.length cap), (11, .int .i64 l.length), (12, .int .i64 z.1)])
   (fun z Γ => Γ = [SpaceA p z.2, wkA wb p T w] ∧ At R (Te.add (l.drop z.1) n v) z.2 ∧ z.1 ≤ l.length) (fun z => l.length - z.1) (0, s) ⟨rfl, rfl, rfl, rfl, rfl, rfl, trivial⟩ ⟨rfl, hG, Nat.zero_le _⟩ ?_
 rintro ⟨i, s⟩ Γ junk ⟨rfl, hG, hi⟩
 dsimp only at hG hi ⊢
 by_cases hlt : i < l.length
 rotate_left
 · have e : l.drop i = [] := List.drop_eq_nil_of_le (by omega)
   rw [e] at hG
   have hG : At R (Pg.ret ()) s := hG
   rw [hG.done]
   refine zyr ?_
   repeat' (refine zap rfl ?_;refine zbh rfl rfl (by omega) ?_)
   all_goals refine zyn ?_
   refine zcj rfl ?_
   refine zer rfl rfl ?_
   exact run_nil (zek (ends_none rfl ⟨rfl, rfl⟩))
 have e : l.drop i = l[i] :: l.drop (i + 1) := List.drop_eq_getElem_cons hlt
 rw [e] at hG
 generalize hx : l[i] = x at hG
 obtain ⟨b, off, c, t, fr, rfl, e2, e3, e4⟩ := hR.cells (i := i) (x := x) (by rw [← hx]; exact List.getElem?_eq_getElem hlt)
 have e3 := e3 (off + (i : Int).toNat * 2) (by simp)
 simp only [encS] at e3
 have h64 := wrap64_id (m := (i : Int) + 1) (by omega) (by omega)
 refine zyr ?_
 repeat' (refine zap rfl ?_;refine zbg rfl rfl (by omega) ?_)
 all_goals refine zyn ?_
 refine zci rfl ?_
 repeat (first|refine zck ?_|refine zcl ?_|refine zcm ?_|refine zcn ?_|refine zco ?_)
 refine zyr ?_
 repeat' (refine zap rfl ?_;first|refine zad rfl e2 e3 ?_|refine zar (fun q => ?_)|refine zae 2 rfl rfl rfl rfl rfl rfl rfl ?_|refine zas rfl rfl (by omega) ?_)
 all_goals refine zyn ?_
 refine zeb [2] rfl ?_
 by_cases hn : n ≠ 0
 · by_cases hv : v ≠ 0
   · simp only [Te.add, if_pos hn, if_pos hv, Pg.bind_assoc] at hG
     repeat' first|refine zck ?_|refine zcn ?_|refine zyq ?_|(refine zap rfl ?_;first|refine zdv rfl rfl h64 ?_|refine zdu rfl rfl ?_|refine zdn [0, 0] hG (teGet w0 p wb T w x.1 4) rfl rfl rfl (fun c s hG => ?_)|refine zdn [0, 0] hG (teGet w0 p wb T w x.1 5) rfl rfl rfl (fun c s hG => ?_)|refine zdn [0, 0] hG (tePut w0 p wb T w x.1 4 _) rfl rfl rfl (fun _ s hG => ?_)|refine zdn [0, 0] hG (tePut w0 p wb T w x.1 5 _) rfl rfl rfl (fun _ s hG => ?_)|refine zbe rfl rfl (by omega) ?_)|refine zp ?_|refine zyl 0 rfl ?_|refine zyf rfl ?_|refine zch ?_|refine zci rfl ?_
     exact zeq ⟨rfl, (i + 1, s), ⟨rfl, rfl, rfl, rfl, rfl, rfl, trivial⟩, ⟨rfl, hG, by dsimp only; omega⟩, by dsimp only; omega⟩
   · simp only [Te.add, if_pos hn, if_neg hv, Pg.bind_assoc, Pg.pure_bind] at hG
     repeat' first|refine zck ?_|refine zcm ?_|refine zcn ?_|refine zyq ?_|(refine zap rfl ?_;first|refine zdv rfl rfl h64 ?_|refine zdu rfl rfl ?_|refine zdn [0, 0] hG (teGet w0 p wb T w x.1 4) rfl rfl rfl (fun c s hG => ?_)|refine zdn [0, 0] hG (tePut w0 p wb T w x.1 4 _) rfl rfl rfl (fun _ s hG => ?_)|refine zbe rfl rfl (by omega) ?_|refine zbf rfl rfl (by omega) ?_)|refine zp ?_|refine zyl 0 rfl ?_|refine zyf rfl ?_|refine zch ?_|refine zci rfl ?_|refine zcj rfl ?_
     exact zeq ⟨rfl, (i + 1, s), ⟨rfl, rfl, rfl, rfl, rfl, rfl, trivial⟩, ⟨rfl, hG, by dsimp only; omega⟩, by dsimp only; omega⟩
 · by_cases hv : v ≠ 0
   · simp only [Te.add, if_neg hn, if_pos hv, Pg.bind_assoc, Pg.pure_bind] at hG
     repeat' first|refine zck ?_|refine zcm ?_|refine zcn ?_|refine zyq ?_|(refine zap rfl ?_;first|refine zdv rfl rfl h64 ?_|refine zdu rfl rfl ?_|refine zdn [0, 0] hG (teGet w0 p wb T w x.1 5) rfl rfl rfl (fun c s hG => ?_)|refine zdn [0, 0] hG (tePut w0 p wb T w x.1 5 _) rfl rfl rfl (fun _ s hG => ?_)|refine zbe rfl rfl (by omega) ?_|refine zbf rfl rfl (by omega) ?_)|refine zp ?_|refine zyl 0 rfl ?_|refine zyf rfl ?_|refine zch ?_|refine zci rfl ?_|refine zcj rfl ?_
     exact zeq ⟨rfl, (i + 1, s), ⟨rfl, rfl, rfl, rfl, rfl, rfl, trivial⟩, ⟨rfl, hG, by dsimp only; omega⟩, by dsimp only; omega⟩
   · simp only [Te.add, if_neg hn, if_neg hv, Pg.pure_bind] at hG
     repeat' first|refine zck ?_|refine zcm ?_|refine zcn ?_|refine zyq ?_|(refine zap rfl ?_;first|refine zdv rfl rfl h64 ?_|refine zbf rfl rfl (by omega) ?_)|refine zp ?_|refine zch ?_|refine zcj rfl ?_
     exact zeq ⟨rfl, (i + 1, s), ⟨rfl, rfl, rfl, rfl, rfl, rfl, trivial⟩, ⟨rfl, hG, by dsimp only; omega⟩, by dsimp only; omega⟩
theorem teHang (p wb : Nat) (T : Te) (w : Wk) (sh : Shared) (ad : Option Addr) (cap : Nat) (l : List (Int × Int)) (hR : RdSl w0 sh encS 2 (.slice ad l.length cap) l) (hl : l.length ≤ 128) (k a : Int) : ∀ s, Pg.Fits (T.hang l k a) s →
   FnE PP w0 sh 140 [ptrT wb, .slice ad l.length cap, .int .i64 k, .int .i64 a] [SpaceA p s, wkA wb p T w] (.tuple #[]) [SpaceA p (Pg.run (T.hang l k a) s).2, wkA wb p T w] := by
 intro s hS
 have hG := (At.start hS).to (Pg.bind_pure _).symm
 generalize Pg.run _ s = R at hG ⊢
 rcases List.eq_nil_or_concat l with rfl | ⟨L, x, he⟩
 · rw [show T.hang [] k a = Pg.pt T.root a from rfl] at hG
   refine zep en140 fn140 rfl rfl rfl ?_
   refine zyr ?_
   repeat' first|(refine zap rfl ?_;first|refine zce rfl ?_|refine zbo rfl rfl ?_)|refine zp ?_|refine zyn ?_
   refine zci rfl ?_
   repeat (first|refine zck ?_|refine zcl ?_|refine zcm ?_|refine zcn ?_|refine zco ?_)
   refine zyx ?_
   first|refine zcp (by kernel_rfl) ?_|refine zeh PP_mixed (by kernel_rfl) (by kernel_rfl) ?_
   repeat' first|(refine zap rfl ?_;first|refine zab 1 rfl rfl rfl ?_|refine zdk [0] hG (putG w0 p _ _) rfl rfl rfl zdj (fun u s hG => ?_))|refine zp ?_|refine zyf rfl ?_|refine zyn ?_
   rw [hG.done]
   exact zeg (zek (ends_none rfl ⟨rfl, rfl⟩))
 · rw [List.concat_eq_append] at he
   subst he
   have hg : T.hang (L ++ [x]) k a = Pg.pt (w64 (x.1 + Te.kid k x.2)) a := by simp [Te.hang]
   rw [hg] at hG
   obtain ⟨b, off, c, t, fr, rfl, e2, e3, e4⟩ := hR.cells (i := L.length) (x := x) (by simp)
   have hlen : (L ++ [x]).length = L.length + 1 := by simp
   rw [hlen] at hl ⊢
   have e3 := e3 (off + (((L.length + 1 : Nat) : Int) - 1).toNat * 2) (by omega)
   simp only [encS] at e3
   refine zep en140 fn140 rfl rfl rfl ?_
   refine zyr ?_
   repeat' first|(refine zap rfl ?_;first|refine zce rfl ?_|refine zbd rfl rfl (by omega) ?_)|refine zp ?_|refine zyn ?_
   refine zcj rfl ?_
   repeat (first|refine zck ?_|refine zcl ?_|refine zcm ?_|refine zcn ?_|refine zco ?_)
   refine zyr ?_
   repeat' first|(refine zap rfl ?_;first|refine zad rfl e2 e3 ?_|refine zar (fun q => ?_)|refine zce rfl ?_|refine zav rfl rfl (by omega) ?_|refine zae 2 rfl rfl rfl rfl rfl rfl rfl ?_|refine zas rfl rfl (by omega) ?_)|refine zp ?_|refine zyn ?_
   refine zeb [2] rfl ?_
   repeat' first|refine zyq ?_|(refine zap rfl ?_;first|refine zah [] (teKid w0 k x.2) rfl rfl rfl zdj rfl ?_|refine zdn [0, 0] hG (tePut w0 p wb T w x.1 _ _) rfl rfl rfl (fun _ s hG => ?_))|refine zp ?_|refine zyl 0 rfl ?_|refine zyf rfl ?_|refine zch ?_
   rw [hG.done]
   exact end_tmp0 rfl ⟨rfl, rfl⟩
end Go.Proofs.YtgdhcgnmffgkiaaGreatDoor
namespace Sim
open Go Go.Vc
def encPT (r : (Int × Bool) × Int) : Value := .tuple #[.int .i64 r.1.1, .bool r.1.2, .int .i64 r.2]
theorem above_le (k : Int) : ∀ l : List (Int × Int), Te.above k l ≤ l.length
 | [] => Nat.le_refl _
 | x :: l => by unfold Te.above; split; · have := above_le k l; simp; omega
                · simp
theorem above_drop (k : Int) : ∀ (l : List (Int × Int)) (i : Nat) (x : Int × Int), l[i]? = some x → i ≤ Te.above k l → (rankT x.2 > rankT k → i + 1 ≤ Te.above k l) ∧ (¬ rankT x.2 > rankT k → Te.above k l = i)
 | [], i, x, h, _ => by simp at h
 | y :: l, 0, x, h, _ => by
   simp at h; subst h
   unfold Te.above
   exact ⟨fun h => by rw [if_pos h]; omega, fun h => by rw [if_neg h]⟩
 | y :: l, i + 1, x, h, hi => by
   simp at h
   unfold Te.above at hi ⊢
   split at hi
   · rename_i hy
     rw [if_pos hy]
     obtain ⟨h1, h2⟩ := above_drop k l i x h (by omega)
     exact ⟨fun q => by have := h1 q; omega, fun q => by rw [h2 q]⟩
   · omega
end Sim
namespace Go.Proofs.YtgdhcgnmffgkiaaGreatDoor
variable (w0 : World)
open Go.Vc Sim
set_option maxHeartbeats 4000000
set_option maxRecDepth 20000
abbrev shT (T : Te) (b : Nat) : Nat × Obj := (b, .cells (List.toArray [.int .i64 T.pool.root, .int .i64 T.pool.frm, .int .i64 T.pool.nodes, .int .i64 T.root]) 120 (0, 0))
theorem all_wayOk (T : Te) {β : Type} (f : β → Int × Int → Pg (β × Bool)) (k : Int) : ∀ (j : Nat) (a : Int) (w : Wk) (acc : β), w.Ok → Pg.All (fun r : (β × Bool) × Wk => r.2.Ok) (T.wayK f k j a w acc)
 | 0, a, w, acc, hw => Pg.all_pure (by
     have h := Te.is_ok (T := T) (a := a) hw
     dsimp only
     split
     · exact ⟨h.1, h.2.1, fun q => by cases q⟩
     · exact h)
 | j + 1, a, w, acc, hw => by
   have h := Te.is_ok (T := T) (a := a) hw
   unfold Te.wayK
   refine Pg.all_ite (fun _ => ?_) (fun _ => Pg.all_pure h)
   refine Pg.all_then (fun key => Pg.all_then (fun r => ?_))
   exact Pg.all_ite (fun _ => Pg.all_pure h) (fun _ => Pg.all_ite (fun _ => Pg.all_pure h) (fun _ => Pg.all_then (fun b => all_wayOk T f k j b _ _ h)))
theorem pg_all_and {α : Type} {φ ψ : α → Prop} : ∀ {g : Pg α}, Pg.All φ g → Pg.All ψ g → Pg.All (fun a => φ a ∧ ψ a) g
 | .ret _, h, h' => ⟨h, h'⟩
 | .get _ _, h, h' => fun v => pg_all_and (h v) (h' v)
 | .put _ _ k, h, h' => pg_all_and (g := k) h h'
 | .mark _, h, h' => fun m => pg_all_and (h m) (h' m)
 | .back _ k, h, h' => pg_all_and (g := k) h h'
theorem all_path2 (T : Te) (hT : T.Ok) (k : Int) (w : Wk) (hw : w.Ok) : Pg.All (fun r : (List (Int × Int) × Bool) × Wk => r.1.1.length ≤ 128 ∧ r.1.2 = Te.hasKey k r.1.1 ∧ r.2.Ok) (T.path k w) := by
 unfold Te.path
 exact Pg.all_bind (fun r hr => Pg.all_pure (by exact ⟨hr.1, rfl, hr.2⟩)) (pg_all_and (all_way T hT k w) (by unfold Te.way; exact Pg.all_then (fun a => all_wayOk T _ k _ a w [] hw)))
theorem hasKey_last {k : Int} {l : List (Int × Int)} (h : Te.hasKey k l = true) : ∃ L x, l = L ++ [x] ∧ l.getLast? = some x := by
 rcases List.eq_nil_or_concat l with rfl | ⟨L, x, he⟩
 · simp [Te.hasKey] at h
 · rw [List.concat_eq_append] at he; subst he; exact ⟨L, x, rfl, by simp⟩
theorem tePut_fin (p eb m : Nat) (R : ((Int × Bool) × Int) × Sp) (was : Int) (had : Bool) (e : Int) (s : Sp) (ρ : Env) (Γx : List Asn) (h8 : ρ 8 = .int .i64 was) (h9 : ρ 9 = .bool had) (h10 : ρ 10 = ptrT eb) (hG : At R (Te.after m ((was, had), e)) s) :
   LeavesS PP w0 [] Tryz.f65 ρ [teD p eb m] (SpaceA p s :: erV eb e :: Γx) (fun v Γ => v = encPT R.1 ∧ Γ = [SpaceA p R.2]) := by
 refine leaves_defer1 [0, 0] (teUndo w0 p s m eb e) rfl rfl zdj ?_
 refine zek (zel [0] rfl (ends_three rfl h8 h9 (zeo 1 h10 rfl rfl) ?_))
 refine ⟨rfl, ?_⟩
 unfold Te.after at hG
 by_cases hE : e ≠ 0
 · dsimp only at hG
   rw [if_pos hE] at hG
   rw [hG.step.2.done, if_pos hE]
   exact ⟨rfl, rfl⟩
 · dsimp only at hG
   rw [if_neg hE] at hG
   rw [hG.done, if_neg hE]
   exact ⟨rfl, rfl⟩
theorem tePutKey (p : Nat) (T : Te) (hT : T.Ok) (k v : Int) : FnG w0 [] 65 [teV T, spP p, .int .i64 k, .int .i64 v] p (T.put k v) encPT := by
 intro s hS
 have hG := At.start hS
 generalize Pg.run _ s = R at hG ⊢
 simp only [Te.put, Te.putIn, Pg.bind_assoc, Pg.ite_bind, Pg.pure_bind] at hG
 refine zep en65 fn65 rfl rfl rfl ?_
 refine zyr ?_
 repeat' first|(refine zap rfl ?_;first|refine zar (fun eb => ?_)|refine zaq (cs := [_, _, _, _]) rfl (fun nb => ?_))|refine zp ?_|refine zyn ?_
 revert nb; intro gb
 refine zyr ?_
 repeat' first|(refine zap rfl ?_;first|refine zcd rfl rfl ?_|refine zdk [0] hG (markG w0 p) rfl rfl rfl zdj (fun m s hG => ?_))|refine zp ?_|refine zyn ?_
 refine zyr ?_
 repeat' first|(refine zap rfl ?_;first|refine zab 1 rfl rfl rfl ?_|refine zai [] (teStart w0 p T) rfl rfl rfl zdj (fun | _, _, ⟨wb, rfl, rfl⟩ => ?_))|refine zp ?_|refine zyn ?_
 have hall := Pg.all_run (s := s) (all_path2 T hT k T.start (Te.start_ok hT))
 have kp := tePath w0 p wb T hT k T.start s hG.step.1
 have hG := hG.step.2
 generalize Pg.run (T.path k T.start) s = q at hG kp hall
 obtain ⟨⟨⟨l, b⟩, w⟩, s⟩ := q
 dsimp only at hG kp hall
 obtain ⟨hl, hb, hok⟩ := hall
 refine zyr ?_
 repeat' first|(refine zap rfl ?_;refine zai [1, 0] kp rfl rfl rfl zdj (fun | _, _, ⟨v', rfl, rfl⟩ => ?_))|refine zp ?_|refine zyn ?_
 refine run_lendE [2] rfl fun sh' hi hR => ?_
 obtain ⟨ad, cap, rfl, _⟩ := id hR
 refine zeb [2] rfl ?_
 have hR := hR.mono (sh' := shT T gb :: sh') (fun q hq => List.mem_cons_of_mem _ hq)
 repeat (first|refine zck ?_|refine zcl ?_|refine zcm ?_|refine zcn ?_|refine zco ?_)
 obtain ⟨lo, lf⟩ := w
 dsimp only at hG
 cases lo with
 | true =>
   rw [if_pos rfl] at hG
   repeat' first|refine zck ?_|refine zyq ?_|(refine zap rfl ?_;first|refine zab 1 rfl rfl rfl ?_|refine zae 2 rfl rfl rfl rfl rfl rfl rfl ?_)|refine zp ?_|refine zyf rfl ?_|refine zch ?_|refine zci rfl ?_
   refine zec [0, 1] rfl ?_
   exact zeg (tePut_fin w0 p eb m R 0 false 24 s _ _ rfl rfl rfl hG)
 | false =>
 rw [if_neg (by decide)] at hG
 refine zyr ?_
 repeat' first|(refine zap rfl ?_;refine zab 1 rfl rfl rfl ?_)|refine zp ?_|refine zyf rfl ?_|refine zyn ?_
 refine zcj rfl ?_
 repeat (first|refine zck ?_|refine zcl ?_|refine zcm ?_|refine zcn ?_|refine zco ?_)
 cases b with
 | true =>
   obtain ⟨L, x, rfl, hx⟩ := hasKey_last hb.symm
   rw [hx] at hG
   have hlen : (L ++ [x]).length = L.length + 1 := by simp
   obtain ⟨bb, off, c, t, fr, rfl, e2, e3, e4⟩ := hR.cells (i := L.length) (x := x) (by simp)
   rw [hlen] at hl
   simp only [Te.putAs, Pg.bind_assoc, Pg.pure_bind] at hG
   have ka := fun z s hS (w : Wk) => teAdd w0 p wb T w (shT T gb :: sh') (some ⟨bb, off, none⟩) cap (L ++ [x]) hR (by rw [hlen]; exact hl) 0 z s hS
   rw [hlen] at ka ⊢
   refine zyr ?_
   repeat' refine zp ?_
   all_goals refine zyn ?_
   refine zci rfl ?_
   repeat (first|refine zck ?_|refine zcl ?_|refine zcm ?_|refine zcn ?_|refine zco ?_)
   refine zyr ?_
   repeat' first|(refine zap rfl ?_;first|refine zad rfl e2 (e4 0 _ rfl _ (by omega)) ?_|refine zce rfl ?_|refine zav rfl rfl (by omega) ?_|refine zas rfl rfl (by omega) ?_)|refine zp ?_|refine zyf rfl ?_|refine zyn ?_
   refine zyr ?_
   repeat' first|(refine zap rfl ?_;refine zdn [0, 0] hG (teGet w0 p wb T _ x.1 1) rfl rfl rfl (fun old s hG => ?_))|refine zp ?_|refine zyn ?_
   refine zyr ?_
   repeat' first|(refine zap rfl ?_;refine zdn [0, 0] hG (tePut w0 p wb T _ x.1 1 v) rfl rfl rfl (fun _ s hG => ?_))|refine zp ?_|refine zyn ?_
   have ka := ka _ s hG.step.1 (false, lf)
   have hG := hG.step.2
   refine zyr ?_
   repeat' first|(refine zap rfl ?_;first|refine zev rfl rfl ?_|refine zah [0, 0] ka rfl rfl rfl (fun _ h => h) rfl ?_)|refine zp ?_|refine zyn ?_
   repeat' first|refine zyq ?_|(refine zap rfl ?_;refine zae 2 rfl rfl rfl rfl rfl rfl rfl ?_)|refine zp ?_|refine zch ?_
   refine zec [0, 1] rfl ?_
   exact zeg (tePut_fin w0 p eb m R old true 0 _ _ _ rfl rfl rfl hG)
 | false =>
   rw [Te.putAs_false] at hG
   simp only [Te.putNew, Pg.bind_assoc, Pg.ite_bind, Pg.pure_bind] at hG
   refine zyr ?_
   repeat' refine zp ?_
   all_goals refine zyn ?_
   refine zcj rfl ?_
   repeat (first|refine zck ?_|refine zcl ?_|refine zcm ?_|refine zcn ?_|refine zco ?_)
   refine zyr ?_
   repeat' first|(refine zap rfl ?_;first|refine zdk [0] hG (takeG w0 p T.pool hT.1) rfl rfl rfl zdj (fun t s hG => ?_)|refine zae 2 rfl rfl rfl rfl rfl rfl rfl ?_)|refine zp ?_|refine zyl 0 rfl ?_|refine zyf rfl ?_|refine zyn ?_
   obtain ⟨a, e⟩ := t
   dsimp only at hG
   refine zyr ?_
   repeat' (refine zap rfl ?_;first|refine zab 2 rfl rfl rfl ?_|refine zbp rfl rfl ?_)
   all_goals refine zyn ?_
   refine zed rfl (fun hE => ?_) (fun hE => ?_)
   · rw [if_pos hE] at hG
     refine zyx ?_
     first|refine zcp (by kernel_rfl) ?_|refine zeh PP_mixed (by kernel_rfl) (by kernel_rfl) ?_
     repeat' first|(refine zap rfl ?_;first|refine zab 2 rfl rfl rfl ?_|refine zae 2 rfl rfl rfl rfl rfl rfl rfl ?_)|refine zp ?_|refine zyn ?_
     refine zec [0, 1] rfl ?_
     exact zeg (tePut_fin w0 p eb m R 0 false e s _ _ rfl rfl rfl hG)
   rw [if_neg hE] at hG
   have hE : e = 0 := by simpa using hE
   subst hE
   repeat (first|refine zck ?_|refine zcl ?_|refine zcm ?_|refine zcn ?_|refine zco ?_)
   refine zyr ?_
   repeat' refine zp ?_
   all_goals refine zch ?_
   all_goals repeat (refine zck ?_)
   have hab := above_le k l
   refine run_join (S := Unit) (fun _ => [(1, spP p), (2, .int .i64 k), (3, .int .i64 v), (4, ptrT gb), (10, ptrT eb), (11, ptrT wb), (12, .slice ad l.length cap), (16, .int .i64 a), (17, .int .i64 (Te.above k l : Nat))])
     (fun _ Γ => Γ = [SpaceA p s, wkA wb p T (false, lf), erV eb 0]) ?_ ?_
   · repeat (first|refine zck ?_|refine zcl ?_|refine zcm ?_|refine zcn ?_|refine zco ?_)
     refine run_loop (S := Nat) (fun i => [(1, spP p), (2, .int .i64 k), (3, .int .i64 v), (4, ptrT gb), (10, ptrT eb), (11, ptrT wb), (12, .slice ad l.length cap), (16, .int .i64 a), (17, .int .i64 (i : Nat))])
       (fun i Γ => Γ = [SpaceA p s, wkA wb p T (false, lf), erV eb 0] ∧ i ≤ Te.above k l) (fun i => l.length - i) 0 ⟨rfl, rfl, rfl, rfl, rfl, rfl, rfl, rfl, rfl, trivial⟩ ⟨rfl, Nat.zero_le _⟩ ?_
     rintro i Γ junk ⟨rfl, hi⟩
     by_cases hlt : i < l.length
     · obtain ⟨bb, off, c, t, fr, rfl, e2, e3, e4⟩ := hR.cells (i := i) (x := l[i]) (List.getElem?_eq_getElem hlt)
       obtain ⟨h1, h2⟩ := above_drop k l i l[i] (List.getElem?_eq_getElem hlt) hi
       generalize l[i] = x at e3 e4 h1 h2
       refine zyr ?_
       repeat' first|(refine zap rfl ?_;first|refine zad rfl e2 (e4 1 _ rfl _ (by omega)) ?_|refine zaj rfl ?_|refine zah [] (teRank w0 _) rfl rfl rfl zdj rfl ?_|refine zce rfl ?_|refine zbg rfl rfl (by omega) ?_|refine zbs rfl rfl ?_|refine zbu rfl ?_|refine zas rfl rfl (by omega) ?_)|refine zp ?_|refine zyf rfl ?_|refine zyn ?_
       refine zed rfl (fun hk => ?_) (fun hk => ?_)
       · have h3 := h1 hk
         repeat' first|refine zcm ?_|refine zcl ?_|refine zcn ?_|refine zyq ?_|(refine zap rfl ?_;refine zau rfl rfl (by omega) ?_)|refine zp ?_|refine zch ?_
         exact zeq ⟨rfl, i + 1, ⟨rfl, rfl, rfl, rfl, rfl, rfl, rfl, rfl, rfl, trivial⟩, ⟨rfl, h3⟩, by omega⟩
       · have h3 := h2 hk
         rw [h3]
         refine zer rfl rfl ?_
         exact zeq ⟨rfl, (), ⟨rfl, rfl, rfl, rfl, rfl, rfl, rfl, rfl, rfl, trivial⟩, rfl⟩
     · have h3 : Te.above k l = i := by omega
       rw [h3]
       refine zyr ?_
       repeat' first|(refine zap rfl ?_;first|refine zak rfl ?_|refine zce rfl ?_|refine zbh rfl rfl (by omega) ?_|refine zbv rfl ?_)|refine zp ?_|refine zyn ?_
       refine zcj rfl ?_
       refine zer rfl rfl ?_
       exact zeq ⟨rfl, (), ⟨rfl, rfl, rfl, rfl, rfl, rfl, rfl, rfl, rfl, trivial⟩, rfl⟩
   rintro _ Γ junk rfl
   repeat (first|refine zck ?_|refine zcl ?_|refine zcm ?_|refine zcn ?_|refine zco ?_)
   refine zyr ?_
   repeat' refine zp ?_
   all_goals refine zyn ?_
   refine zyr ?_
   repeat' first|(refine zap rfl ?_;refine zdn [0, 0] hG (tePut w0 p wb T _ a 0 k) rfl rfl rfl (fun _ s hG => ?_))|refine zp ?_|refine zyn ?_
   refine zyr ?_
   repeat' first|(refine zap rfl ?_;refine zdn [0, 0] hG (tePut w0 p wb T _ a 1 v) rfl rfl rfl (fun _ s hG => ?_))|refine zp ?_|refine zyn ?_
   refine zyr ?_
   repeat' refine zp ?_
   all_goals refine zyn ?_
   refine zyr ?_
   repeat' first|(refine zap rfl ?_;first|refine zce rfl ?_|refine zbq rfl rfl ?_)|refine zp ?_|refine zyn ?_
   refine run_join (S := (Int × Int) × Wk × Sp) (fun z => [(1, spP p), (2, .int .i64 k), (3, .int .i64 v), (4, ptrT gb), (10, ptrT eb), (11, ptrT wb), (12, .slice ad l.length cap), (17, .int .i64 (Te.above k l : Nat)), (18, .int .i64 a), (19, .int .i64 z.1.1), (20, .int .i64 z.1.2)])
     (fun z Γ => Γ = [SpaceA p z.2.2, wkA wb p T z.2.1, erV eb 0] ∧ At R (T.putEnd k v l a (z.1, z.2.1) >>= Te.after m) z.2.2) ?_ ?_
   · refine zed rfl (fun h => ?_) (fun h => ?_)
     · have hlt : Te.above k l < l.length := by omega
       have hx : l[Te.above k l]? = some l[Te.above k l] := List.getElem?_eq_getElem hlt
       rw [hx] at hG
       obtain ⟨bb, off, c, t, fr, rfl, e2, e3, e4⟩ := hR.cells hx
       generalize l[Te.above k l] = x at hG e3 e4
       rw [show T.cutAt k (some x) (false, lf) = T.split k 8258 x.1 (false, lf) from rfl] at hG
       refine zyr ?_
       repeat' first|(refine zap rfl ?_;first|refine zad rfl e2 (e4 0 _ rfl _ (by omega)) ?_|refine zdq [0, 0] hG (teSplit w0 p wb T hT k 8258 x.1 (false, lf) hok (by have := hok.2.1; dsimp only at this ⊢; omega)) rfl rfl rfl (fun r w3 s hG => ?_)|refine zas rfl rfl (by omega) ?_)|refine zp ?_|refine zyf rfl ?_|refine zyn ?_
       obtain ⟨r1, r2⟩ := r
       exact zeq ⟨rfl, ((r1, r2), w3, s), ⟨rfl, rfl, rfl, rfl, rfl, rfl, rfl, rfl, rfl, rfl, rfl, trivial⟩, ⟨rfl, hG⟩⟩
     · have hx : l[Te.above k l]? = none := List.getElem?_eq_none (by omega)
       rw [hx, show T.cutAt k none (false, lf) = pure ((0, 0), (false, lf)) from rfl, Pg.pure_bind] at hG
       repeat (first|refine zck ?_|refine zcl ?_|refine zcm ?_|refine zcn ?_|refine zco ?_)
       exact zeq ⟨rfl, ((0, 0), (false, lf), s), ⟨rfl, rfl, rfl, rfl, rfl, rfl, rfl, rfl, rfl, rfl, rfl, trivial⟩, ⟨rfl, hG⟩⟩
   rintro ⟨⟨x, y⟩, w, s⟩ Γ junk ⟨rfl, hG⟩
   dsimp only at hG ⊢
   simp only [Te.putEnd, Pg.bind_assoc, Pg.pure_bind] at hG
   have hlt : (l.take (Te.above k l)).length = Te.above k l := by simp; omega
   have hR2 := hR.pre hab
   repeat (first|refine zck ?_|refine zcl ?_|refine zcm ?_|refine zcn ?_|refine zco ?_)
   refine zyr ?_
   repeat' first|(refine zap rfl ?_;refine zdn [0, 0] hG (tePut w0 p wb T w a 2 x) rfl rfl rfl (fun _ s hG => ?_))|refine zp ?_|refine zyn ?_
   refine zyr ?_
   repeat' first|(refine zap rfl ?_;refine zdn [0, 0] hG (tePut w0 p wb T w a 3 y) rfl rfl rfl (fun _ s hG => ?_))|refine zp ?_|refine zyn ?_
   refine zyr ?_
   repeat' first|(refine zap rfl ?_;refine zdq [0, 0] hG (teRefresh w0 p wb T hT w a) rfl rfl rfl (fun _ w s hG => ?_))|refine zp ?_|refine zyn ?_
   have ka := teAdd w0 p wb T w (shT T gb :: sh') ad cap (l.take (Te.above k l)) (by rw [hlt]; exact hR2) (by omega) 1 v s hG.step.1
   have hG := hG.step.2
   generalize Pg.run (Te.add (l.take (Te.above k l)) 1 v) s = q at hG ka
   obtain ⟨_, s⟩ := q
   have kh := teHang w0 p wb T w (shT T gb :: sh') ad cap (l.take (Te.above k l)) (by rw [hlt]; exact hR2) (by omega) k a s hG.step.1
   have hG := hG.step.2
   generalize Pg.run (T.hang (l.take (Te.above k l)) k a) s = q at hG kh
   obtain ⟨_, s⟩ := q
   dsimp only at hG ka kh
   rw [hlt] at ka kh
   generalize Te.above k l = A at hab hlt ka kh ⊢
   refine zyr ?_
   repeat' first|(refine zap rfl ?_;first|refine reg_slice2 rfl rfl (by have := hR.cap; omega) ?_|refine zah [0, 0] ka rfl rfl rfl (fun _ h => h) rfl ?_)|refine zp ?_|refine zyn ?_
   refine zyr ?_
   repeat' first|(refine zap rfl ?_;first|refine reg_slice2 rfl rfl (by have := hR.cap; omega) ?_|refine zah [0, 0] kh rfl rfl rfl (fun _ h => h) rfl ?_)|refine zp ?_|refine zyn ?_
   first|refine zcp (by kernel_rfl) ?_|refine zcr [(.quiet, 0), (.quiet, 1), (.quiet, 2), (.quiet, 3), (.quiet, 4), (.quiet, 5), (.read, 6), (.quiet, 7), (.loud, 8), (.quiet, 9), (.loud, 10)] PP_mixed (by kernel_rfl) (by kernel_rfl) ?_|refine zeh PP_mixed (by kernel_rfl) (by kernel_rfl) ?_
   repeat' first|(refine zap rfl ?_;first|refine zdu rfl rfl ?_|refine zdk [0] hG (getG w0 p _) rfl rfl rfl zdj (fun c s hG => ?_)|refine zdk [0] hG (putG w0 p _ _) rfl rfl rfl zdj (fun _ s hG => ?_))|refine zp ?_|refine zyl 0 rfl ?_|refine zyf rfl ?_|refine zyn ?_
   obtain ⟨lo, lf⟩ := w
   dsimp only at hG
   cases lo with
   | true =>
     rw [if_pos rfl] at hG
     repeat' first|refine zck ?_|refine zyq ?_|(refine zap rfl ?_;first|refine zab 1 rfl rfl rfl ?_|refine zae 2 rfl rfl rfl rfl rfl rfl rfl ?_)|refine zp ?_|refine zyf rfl ?_|refine zch ?_|refine zci rfl ?_
     refine zec [0, 1] rfl ?_
     exact zeg (tePut_fin w0 p eb m R 0 false 24 s _ _ rfl rfl rfl hG)
   | false =>
     rw [if_neg (by decide)] at hG
     repeat' first|refine zck ?_|refine zcm ?_|refine zyq ?_|(refine zap rfl ?_;first|refine zab 1 rfl rfl rfl ?_|refine zae 2 rfl rfl rfl rfl rfl rfl rfl ?_)|refine zp ?_|refine zyf rfl ?_|refine zch ?_|refine zcj rfl ?_
     refine zec [0, 1] rfl ?_
     exact zeg (tePut_fin w0 p eb m R 0 false 0 s _ _ rfl rfl rfl hG)
set_option maxRecDepth 20000
section
variable {w0 : World} {n : Nat} {sh shf : Shared} {Q : Exit → Env → List Deferred → List Asn → Prop} {k : List Item} {ρ : Env} {df : List Deferred} {Γ Γr : List Asn}
variable {ops : Array Oper} {l : List (Fl × Nat × Oper)} {i : Nat} {ty : TypeId} {pos : String} {aft : Array Edge} {dst : Option Tmp}
variable {f : FuncId} {args : List Value} {fo : Operand} {cargs : Array Operand} {ats : Array TypeId} {first cap : Array Value}
theorem reg_callV (is : List Nat) {α β : Type} {R : β × Sp} {g : Pg α} {kk : α → Pg β} {s : Sp} {p b : Nat} {o : Obj} {v : Value} (hG : At R (g >>= kk) s) (spec : FnE PP w0 shf f args [SpaceA p s, pt b o] v [SpaceA p (Pg.run g s).2, pt b o])
   (hfo : ev ρ fo = .func (.func f) first cap) (hargs : first.toList ++ cargs.toList.map (ev ρ) ++ cap.toList = args)
   (hp : pick is Γ = some ([SpaceA p s, pt b o], Γr)) (hsh : ∀ p ∈ shf, p ∈ sh) (h : ∀ x s', At R (kk x) s' → Reg PP w0 n sh Q ops l k (ρ.setO dst v) df (SpaceA p s' :: pt b o :: Γr)) :
   Reg PP w0 n sh Q ops ((Fl.loud, i, ⟨dst, .call ⟨.value fo, cargs, ats⟩, ty, pos, aft, none⟩) :: l) k ρ df Γ :=
 zah is spec hfo hargs hp hsh rfl (h _ _ hG.step.2)
end
theorem teDrop_fin (p eb m : Nat) (R : ((Int × Bool) × Int) × Sp) (was : Int) (had : Bool) (e : Int) (s : Sp) (ρ : Env) (Γx : List Asn) (h8 : ρ 6 = .int .i64 was) (h9 : ρ 7 = .bool had) (h10 : ρ 8 = ptrT eb) (hG : At R (Te.after m ((was, had), e)) s) :
   LeavesS PP w0 [] Tryz.f67 ρ [teD p eb m] (SpaceA p s :: erV eb e :: Γx) (fun v Γ => v = encPT R.1 ∧ Γ = [SpaceA p R.2]) := by
 refine leaves_defer1 [0, 0] (teUndo w0 p s m eb e) rfl rfl zdj ?_
 refine zek (zel [0] rfl (ends_three rfl h8 h9 (zeo 1 h10 rfl rfl) ?_))
 refine ⟨rfl, ?_⟩
 unfold Te.after at hG
 by_cases hE : e ≠ 0
 · dsimp only at hG
   rw [if_pos hE] at hG
   rw [hG.step.2.done, if_pos hE]
   exact ⟨rfl, rfl⟩
 · dsimp only at hG
   rw [if_neg hE] at hG
   rw [hG.done, if_neg hE]
   exact ⟨rfl, rfl⟩
theorem teDropKey (p : Nat) (T : Te) (hT : T.Ok) (k : Int) : FnG w0 [] 67 [teV T, spP p, .int .i64 k] p (T.drop k) encPT := by
 intro s hS
 have hG := At.start hS
 generalize Pg.run _ s = R at hG ⊢
 simp only [Te.drop, Te.dropIn, Pg.bind_assoc, Pg.ite_bind, Pg.pure_bind] at hG
 refine zep en67 fn67 rfl rfl rfl ?_
 refine zyr ?_
 repeat' first|(refine zap rfl ?_;first|refine zar (fun eb => ?_)|refine zaq (cs := [_, _, _, _]) rfl (fun nb => ?_))|refine zp ?_|refine zyn ?_
 revert nb; intro gb
 refine zyr ?_
 repeat' first|(refine zap rfl ?_;first|refine zcd rfl rfl ?_|refine zdk [0] hG (markG w0 p) rfl rfl rfl zdj (fun m s hG => ?_))|refine zp ?_|refine zyn ?_
 refine zyr ?_
 repeat' first|(refine zap rfl ?_;first|refine zab 1 rfl rfl rfl ?_|refine zai [] (teStart w0 p T) rfl rfl rfl zdj (fun | _, _, ⟨wb, rfl, rfl⟩ => ?_))|refine zp ?_|refine zyn ?_
 have hall := Pg.all_run (s := s) (all_path2 T hT k T.start (Te.start_ok hT))
 have kp := tePath w0 p wb T hT k T.start s hG.step.1
 have hG := hG.step.2
 generalize Pg.run (T.path k T.start) s = q at hG kp hall
 obtain ⟨⟨⟨l, b⟩, w⟩, s⟩ := q
 dsimp only at hG kp hall
 obtain ⟨hl, hb, hok⟩ := hall
 refine zyr ?_
 repeat' first|(refine zap rfl ?_;refine zai [1, 0] kp rfl rfl rfl zdj (fun | _, _, ⟨v', rfl, rfl⟩ => ?_))|refine zp ?_|refine zyn ?_
 refine run_lendE [2] rfl fun sh' hi hR => ?_
 obtain ⟨ad, cap, rfl, _⟩ := id hR
 refine zeb [2] rfl ?_
 have hR := hR.mono (sh' := shT T gb :: sh') (fun q hq => List.mem_cons_of_mem _ hq)
 repeat (first|refine zck ?_|refine zcl ?_|refine zcm ?_|refine zcn ?_|refine zco ?_)
 obtain ⟨lo, lf⟩ := w
 dsimp only at hG
 cases lo with
 | true =>
   rw [if_pos rfl] at hG
   repeat' first|refine zck ?_|refine zyq ?_|(refine zap rfl ?_;first|refine zab 1 rfl rfl rfl ?_|refine zae 2 rfl rfl rfl rfl rfl rfl rfl ?_)|refine zp ?_|refine zyf rfl ?_|refine zch ?_|refine zci rfl ?_
   refine zec [0, 1] rfl ?_
   exact zeg (teDrop_fin w0 p eb m R 0 false 24 s _ _ rfl rfl rfl hG)
 | false =>
 rw [if_neg (by decide)] at hG
 refine zyr ?_
 repeat' first|(refine zap rfl ?_;refine zab 1 rfl rfl rfl ?_)|refine zp ?_|refine zyf rfl ?_|refine zyn ?_
 refine zcj rfl ?_
 repeat (first|refine zck ?_|refine zcl ?_|refine zcm ?_|refine zcn ?_|refine zco ?_)
 cases b with
 | false =>
   rw [Te.dropAs_false, Pg.pure_bind] at hG
   repeat' first|refine zck ?_|refine zyq ?_|(refine zap rfl ?_;first|refine zbx rfl ?_|refine zae 2 rfl rfl rfl rfl rfl rfl rfl ?_)|refine zp ?_|refine zch ?_|refine zci rfl ?_
   refine zec [0, 1] rfl ?_
   exact zeg (teDrop_fin w0 p eb m R 0 false 0 s _ _ rfl rfl rfl hG)
 | true =>
   obtain ⟨L, x, rfl, hx⟩ := hasKey_last hb.symm
   rw [hx] at hG
   have hlen : (L ++ [x]).length = L.length + 1 := by simp
   obtain ⟨bb, off, c, t, fr, rfl, e2, e3, e4⟩ := hR.cells (i := L.length) (x := x) (by simp)
   rw [hlen] at hl
   have hcap := hR.cap
   simp only [Te.dropAs, Te.dropAt, Pg.bind_assoc, Pg.ite_bind, Pg.pure_bind, List.dropLast_concat] at hG
   have hR2 := hR.pre (q := L.length) (by rw [hlen]; omega)
   rw [List.take_left] at hR2
   rw [hlen] at hcap ⊢
   have hm := fun a b => teMerge w0 p wb T hT 8258 a b (false, lf) hok (by have := hok.2.1; dsimp only at this ⊢; omega)
   generalize T.merge 8258 = MG at hG hm
   refine zyr ?_
   repeat' first|(refine zap rfl ?_;refine zbx rfl ?_)|refine zp ?_|refine zyn ?_
   refine zcj rfl ?_
   repeat (first|refine zck ?_|refine zcl ?_|refine zcm ?_|refine zcn ?_|refine zco ?_)
   refine zyr ?_
   repeat' first|(refine zap rfl ?_;first|refine zad rfl e2 (e4 0 _ rfl _ (by omega)) ?_|refine zce rfl ?_|refine zav rfl rfl (by omega) ?_|refine zas rfl rfl (by omega) ?_)|refine zp ?_|refine zyf rfl ?_|refine zyn ?_
   refine zyr ?_
   repeat' first|(refine zap rfl ?_;first|refine reg_slice2 (h' := (L.length : Int)) rfl (zes (by omega)) (by omega) ?_|refine zce rfl ?_|refine zav rfl rfl (by omega) ?_)|refine zp ?_|refine zyn ?_
   refine zyr ?_
   repeat' first|(refine zap rfl ?_;refine zdn [0, 0] hG (teGet w0 p wb T _ x.1 1) rfl rfl rfl (fun old s hG => ?_))|refine zp ?_|refine zyn ?_
   refine zyr ?_
   repeat' first|(refine zap rfl ?_;first|refine zdn [0, 0] hG (teGet w0 p wb T _ x.1 2) rfl rfl rfl (fun a s hG => ?_)|refine zdn [0, 0] hG (teGet w0 p wb T _ x.1 3) rfl rfl rfl (fun b s hG => ?_)|refine zdq [0, 0] hG (hm a b) rfl rfl rfl (fun r w s hG => ?_)|refine reg_callV [0, 0] hG (teHang w0 p wb T w (shT T gb :: sh') (some ⟨bb, off, none⟩) cap L hR2 (by omega) k r s hG.step.1) rfl rfl rfl (fun _ h => h) (fun _ s hG => ?_))|refine zp ?_|refine zyn ?_
   refine zyr ?_
   repeat' first|(refine zap rfl ?_;first|refine reg_neg rfl ?_|refine reg_callV [0, 0] hG (teAdd w0 p wb T w (shT T gb :: sh') (some ⟨bb, off, none⟩) cap L hR2 (by omega) (-1) (w64 (0 - old)) s hG.step.1) rfl rfl rfl (fun _ h => h) (fun _ s hG => ?_))|refine zp ?_|refine zyn ?_
   first|refine zcp (by kernel_rfl) ?_|refine zcr [(.quiet, 0), (.quiet, 1), (.quiet, 2), (.quiet, 3), (.quiet, 4), (.quiet, 5), (.read, 6), (.quiet, 7), (.loud, 8), (.quiet, 9), (.loud, 10)] PP_mixed (by kernel_rfl) (by kernel_rfl) ?_|refine zeh PP_mixed (by kernel_rfl) (by kernel_rfl) ?_
   repeat' first|(refine zap rfl ?_;first|refine zdu rfl rfl ?_|refine zev rfl rfl ?_|refine zdk [0] hG (getG w0 p _) rfl rfl rfl zdj (fun c s hG => ?_)|refine zdk [0] hG (putG w0 p _ _) rfl rfl rfl zdj (fun _ s hG => ?_))|refine zp ?_|refine zyl 0 rfl ?_|refine zyf rfl ?_|refine zyn ?_
   obtain ⟨lo, lf⟩ := w
   dsimp only at hG
   cases lo with
   | true =>
     rw [if_pos rfl] at hG
     repeat' first|refine zck ?_|refine zyq ?_|(refine zap rfl ?_;first|refine zab 1 rfl rfl rfl ?_|refine zae 2 rfl rfl rfl rfl rfl rfl rfl ?_)|refine zp ?_|refine zyf rfl ?_|refine zch ?_|refine zci rfl ?_
     refine zec [0, 1] rfl ?_
     exact zeg (teDrop_fin w0 p eb m R 0 false 24 s _ _ rfl rfl rfl hG)
   | false =>
     rw [if_neg (by decide)] at hG
     refine zyr ?_
     repeat' first|(refine zap rfl ?_;refine zab 1 rfl rfl rfl ?_)|refine zp ?_|refine zyf rfl ?_|refine zyn ?_
     refine zcj rfl ?_
     repeat (first|refine zck ?_|refine zcl ?_|refine zcm ?_|refine zcn ?_|refine zco ?_)
     refine zyr ?_
     repeat' first|(refine zap rfl ?_;refine zdk [0] hG (giveG w0 p T.pool hT.1 x.1) rfl rfl rfl zdj (fun e s hG => ?_))|refine zp ?_|refine zyl 0 rfl ?_|refine zyf rfl ?_|refine zyn ?_
     refine zyr ?_
     repeat' first|(refine zap rfl ?_;refine zbp rfl rfl ?_)|refine zp ?_|refine zyn ?_
     refine zed rfl (fun hE => ?_) (fun hE => ?_)
     · rw [if_pos hE] at hG
       repeat' first|refine zck ?_|refine zyq ?_|(refine zap rfl ?_;refine zae 2 rfl rfl rfl rfl rfl rfl rfl ?_)|refine zp ?_|refine zch ?_
       refine zec [0, 1] rfl ?_
       exact zeg (teDrop_fin w0 p eb m R 0 false e s _ _ rfl rfl rfl hG)
     · rw [if_neg hE] at hG
       repeat' first|refine zck ?_|refine zcm ?_|refine zyq ?_|(refine zap rfl ?_;refine zae 2 rfl rfl rfl rfl rfl rfl rfl ?_)|refine zp ?_|refine zch ?_
       refine zec [0, 1] rfl ?_
       exact zeg (teDrop_fin w0 p eb m R old true 0 s _ _ rfl rfl rfl hG)
end Go.Proofs.YtgdhcgnmffgkiaaGreatDoor
