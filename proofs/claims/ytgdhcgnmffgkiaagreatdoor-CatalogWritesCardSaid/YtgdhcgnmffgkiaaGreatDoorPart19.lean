import Derived.Sort.AssemblyPlain
import Derived.Sort.LotD5
import Derived.Test.YtgdhcgnmffgkiaaGreatDoorPart5
import Derived.Test.YtgdhcgnmffgkiaaGreatDoorPart1
import Derived.Test.YtgdhcgnmffgkiaaGreatDoorKit
import Derived.Test.YtgdhcgnmffgkiaaGreatDoorPart11
import Derived.Test.YtgdhcgnmffgkiaaGreatDoorPart13
import Derived.Test.YtgdhcgnmffgkiaaGreatDoorPart16
import Derived.Test.YtgdhcgnmffgkiaaGreatDoorPart18
/- Own work: lemmas of this claim. -/
namespace Go.Proofs.YtgdhcgnmffgkiaaGreatDoor
variable (w0 : World)
open Go.Vc Sim
set_option maxHeartbeats 4000000
theorem zipL_succ {bs cs : List Int} {q : Nat} {b c : Int} (hb : bs[q]? = some b) (hc : cs[q]? = some c) : ((bs.take (q + 1)).zip (cs.take (q + 1))).reverse = (b, c) :: ((bs.take q).zip (cs.take q)).reverse := by
 have h1 := (List.getElem?_eq_some_iff.1 hb).1
 have h2 := (List.getElem?_eq_some_iff.1 hc).1
 rw [List.take_add_one, List.take_add_one, hb, hc, List.zip_append (by simp; omega)]
 simp
theorem trDrop1 (p : Nat) (s : Sp) (m : Nat) (e was : Int) (had : Bool) (eb sb mb xb yb : Nat) :
    FnD PP w0 [] 128 [.pointer (some ⟨eb, 0, none⟩), .pointer (some ⟨sb, 0, none⟩), .pointer (some ⟨mb, 0, none⟩), .pointer (some ⟨xb, 0, none⟩), .pointer (some ⟨yb, 0, none⟩)]
    [SpaceA p s, celT xb (.int .i64 was) 2, celT yb (.bool had) 4, celT eb (.int .i64 e) 39, celT mb (.int .i64 m) 3, celT sb (spP p) 24]
    fun v Γ' => v = .tuple #[] ∧ Γ' = [SpaceA p (if e ≠ 0 then s.back m else s), celT xb (.int .i64 (if e ≠ 0 then 0 else was)) 2, celT yb (.bool (if e ≠ 0 then false else had)) 4, celT eb (.int .i64 e) 39, celT mb (.int .i64 m) 3, celT sb (spP p) 24] := by
  refine fnD_of_run en128 fn128 rfl rfl rfl ?_
 
  repeat' first|refine zck ?_|refine zyq ?_|(refine zap rfl ?_;first|refine zab 3 rfl rfl rfl ?_|refine zbp rfl rfl ?_)|refine zch ?_
  refine zed rfl (fun hE => ?_) (fun hE => ?_)
  · repeat' first|refine zck ?_|refine zyq ?_|(refine zap rfl ?_;first|refine zab 4 rfl rfl rfl ?_|refine zab 5 rfl rfl rfl ?_|refine zah [0] (back_spec w0 p s m) rfl rfl rfl zdj rfl ?_|refine zae 1 rfl rfl rfl rfl rfl rfl rfl ?_|refine zae 2 rfl rfl rfl rfl rfl rfl rfl ?_)|refine zch ?_
    refine run_nil ⟨rfl, ends_none rfl ?_⟩
    rw [if_pos hE, if_pos hE, if_pos hE]; exact ⟨rfl, rfl⟩
  · repeat' first|refine zcm ?_|(refine zap rfl ?_;first|refine zaj rfl ?_|refine zak rfl ?_|refine zal rfl ?_|refine zam rfl rfl (fun _ => ?_) (fun _ => ?_))|refine zch ?_
    refine run_nil ⟨rfl, ends_none rfl ?_⟩
    rw [if_neg hE, if_neg hE, if_neg hE]; exact ⟨rfl, rfl⟩
def dropD (eb sb mb xb yb : Nat) : Deferred := { target := .fn (.func 128) (List.toArray [.pointer (some ⟨eb, 0, none⟩), .pointer (some ⟨sb, 0, none⟩), .pointer (some ⟨mb, 0, none⟩), .pointer (some ⟨xb, 0, none⟩), .pointer (some ⟨yb, 0, none⟩)]), args := #[] }
theorem drop_fin (p eb sb mb xb yb : Nat) (m : Nat) (R : ((Int × Bool) × Int) × Sp) (was : Int) (had : Bool) (e : Int) (s : Sp) (ρ : Env) (h6 : ρ 6 = .pointer (some ⟨xb, 0, none⟩)) (h7 : ρ 7 = .pointer (some ⟨yb, 0, none⟩)) (h8 : ρ 8 = .pointer (some ⟨eb, 0, none⟩)) (hG : At R (Tr.afterD m ((was, had), e)) s) :
   LeavesS PP w0 [] Tryz.f63 ρ [dropD eb sb mb xb yb] [SpaceA p s, celT xb (.int .i64 was) 2, celT yb (.bool had) 4, celT eb (.int .i64 e) 39, celT mb (.int .i64 m) 3, celT sb (spP p) 24] (fun v Γ => v = encPR R.1 ∧ Γ = [SpaceA p R.2]) := by
 refine leaves_defer1 [0, 0, 0, 0, 0, 0] (trDrop1 w0 p s m e was had eb sb mb xb yb) rfl rfl zdj ?_
 refine zek (zel [0] rfl (ends_three rfl (zeo 1 h6 rfl rfl) (zeo 2 h7 rfl rfl) (zeo 3 h8 rfl rfl) ?_))
 refine ⟨rfl, ?_⟩
 unfold Tr.afterD at hG
 by_cases hE : e ≠ 0
 · dsimp only at hG
   rw [if_pos hE] at hG
   rw [hG.step.2.done, if_pos hE, if_pos hE, if_pos hE]
   exact ⟨rfl, rfl⟩
 · dsimp only at hG
   rw [if_neg hE] at hG
   rw [hG.done, if_neg hE, if_neg hE, if_neg hE]
   exact ⟨rfl, rfl⟩
theorem trDrop (p : Nat) (T : Tr) (hT : T.Ok) (_ : T.IsI) (n : Int) : FnG w0 [] 63 [trV T, spP p, .int .i64 n] p (T.drop n (hsI n)) encPR := by
 have hH := hsI_in n
 have hsp := trHash w0 n
 intro s hS
 have hG := At.start hS
 generalize Pg.run _ s = R at hG ⊢
 generalize hsI n = H at hH hsp hG
 simp only [Tr.drop, Tr.dropIn, Tr.dropAt, Pg.bind_assoc, Pg.ite_bind, Pg.pure_bind] at hG
 refine zep en63 fn63 rfl rfl rfl ?_
 refine zyr ?_
 repeat' (refine zap rfl ?_;first|refine zaq (cs := [_]) rfl (fun nb => ?_)|refine zaq (cs := [_, _, _, _, _]) rfl (fun nb => ?_)|refine zar (fun nb => ?_))
 all_goals refine zyn ?_
 rename_i tb sb xb yb
 revert nb; intro eb
 refine zeb [1] rfl ?_
 refine run_share_keep [1] rfl ?_
 refine zyr ?_
 repeat' first|(refine zap rfl ?_;refine zey [] (trNum w0 n) rfl rfl rfl zdj rfl ?_)|refine zp ?_|refine zyl 1 rfl ?_|refine zyf rfl ?_|refine zyn ?_
 refine zyr ?_
 repeat' first|(refine zap rfl ?_;refine zbx rfl ?_)|refine zp ?_|refine zyn ?_
 refine zcj rfl ?_
 refine zyr ?_
 repeat' first|(refine zap rfl ?_;first|refine zdk [0] hG (markG w0 p) rfl rfl rfl zdj (fun m s hG => ?_)|refine zae 4 rfl rfl rfl rfl rfl rfl rfl ?_|refine zar (fun nb => ?_))|refine zyl 0 rfl ?_|refine zyn ?_
 revert nb; intro mb
 refine run_share_keep [4] rfl ?_
 refine zyr ?_
 repeat' first|(refine zap rfl ?_;refine zcd rfl rfl ?_)|refine zp ?_|refine zyn ?_
 refine zyr ?_
 repeat' first|(refine zap rfl ?_;first|refine zae 6 rfl rfl rfl rfl rfl rfl rfl ?_|refine zey [] hsp rfl rfl rfl zdj rfl ?_|(refine reg_callX [0] hG (T.all_down hT _) (trDown w0 p T hT _ hH.1) rfl rfl rfl zdj ?_; rintro ⟨w, ok⟩ s v' Γ1 hw hwr hG; obtain ⟨a1, c1, a2, c2, rfl, rfl⟩ := (show ∃ a1 c1 a2 c2, v' = .tuple #[wayV a1 c1 a2 c2 w, .bool ok] ∧ Γ1 = WayA a1 c1 a2 c2 w from hwr))|refine zar (fun nb => ?_))|refine zp ?_|refine zyl 1 rfl ?_|refine zyl 2 rfl ?_|refine zyf rfl ?_|refine zyn ?_
 dsimp only at hG hw
 revert nb; intro wb
 refine zec [0, 5, 2, 2, 2, 0, 0] rfl ?_
 refine zeb [1] rfl ?_
 cases ok with
 | false =>
   simp only [Bool.false_eq_true, if_false] at hG
   repeat' first|refine zck ?_|refine zyq ?_|(refine zap rfl ?_;first|refine zbx rfl ?_|refine zae 1 rfl rfl rfl rfl rfl rfl rfl ?_|refine zae 2 rfl rfl rfl rfl rfl rfl rfl ?_|refine zae 3 rfl rfl rfl rfl rfl rfl rfl ?_)|refine zp ?_|refine zch ?_|refine zci rfl ?_
   refine zec [0, 0, 0, 0] rfl ?_
   exact zeg (drop_fin w0 p eb sb mb xb yb m R 0 false 24 s _ rfl rfl rfl hG)
 | true =>
   simp only [if_true] at hG
   refine zyr ?_
   repeat' first|(refine zap rfl ?_;refine zbx rfl ?_)|refine zp ?_|refine zyn ?_
   refine zcj rfl ?_
   refine zyr ?_
   repeat' first|(refine zap rfl ?_; (refine zdl [0] hG (T.all_leaf w hw n) (trLeaf w0 p T hT w hw a1 c1 a2 c2 n) rfl rfl rfl zdj (fun l s hl hG => ?_)))|refine zp ?_|refine zyl 0 rfl ?_|refine zyl 2 rfl ?_|refine zyl 3 rfl ?_|refine zyn ?_
   obtain ⟨⟨c, a⟩, ok⟩ := l
   obtain ⟨hk1, hk2, hk3, hk4⟩ := id hl
   obtain ⟨hl1, hl2, hl3, hl4⟩ := hl
   dsimp only at hG hl1 hl2 hl3 hl4
   cases ok with
   | false =>
     simp only [Bool.false_eq_true, if_false] at hG
     repeat' first|refine zck ?_|refine zyq ?_|(refine zap rfl ?_;first|refine zbx rfl ?_|refine zae 1 rfl rfl rfl rfl rfl rfl rfl ?_|refine zae 2 rfl rfl rfl rfl rfl rfl rfl ?_|refine zae 3 rfl rfl rfl rfl rfl rfl rfl ?_)|refine zp ?_|refine zch ?_|refine zci rfl ?_
     refine zec [0, 0, 0, 0] rfl ?_
     exact zeg (drop_fin w0 p eb sb mb xb yb m R 0 false 24 s _ rfl rfl rfl hG)
   | true =>
     simp only [if_true] at hG
     refine zyr ?_
     repeat' first|(refine zap rfl ?_;refine zbx rfl ?_)|refine zp ?_|refine zyn ?_
     refine zcj rfl ?_
     by_cases ha : a = 0
     · rw [if_pos ha] at hG
       repeat' first|refine zck ?_|refine zcm ?_|refine zyq ?_|(refine zap rfl ?_;first|refine zbc rfl rfl (by omega) ?_|refine zae 1 rfl rfl rfl rfl rfl rfl rfl ?_|refine zae 2 rfl rfl rfl rfl rfl rfl rfl ?_|refine zae 3 rfl rfl rfl rfl rfl rfl rfl ?_)|refine zp ?_|refine zch ?_|refine zci rfl ?_
       refine zec [0, 0, 0, 0] rfl ?_
       exact zeg (drop_fin w0 p eb sb mb xb yb m R 0 false 0 s _ rfl rfl rfl hG)
     · rw [if_neg ha] at hG
       refine zyr ?_
       repeat' first|(refine zap rfl ?_;refine zbd rfl rfl (by omega) ?_)|refine zp ?_|refine zyn ?_
       refine zcj rfl ?_
       refine zyr ?_
       repeat' first|(refine zap rfl ?_;first|refine zdk [0] hG (getG w0 p _) rfl rfl rfl zdj (fun was s hG => ?_)|refine zau rfl rfl (by omega) ?_|refine zae 1 rfl rfl rfl rfl rfl rfl rfl ?_)|refine zp ?_|refine zyl 2 rfl ?_|refine zyn ?_
       refine zyr ?_
       repeat' first|(refine zap rfl ?_;first|refine zdk [0] hG (getG w0 p _) rfl rfl rfl zdj (fun x s hG => ?_)|refine zdk [0] hG (putG w0 p _ _) rfl rfl rfl zdj (fun u s hG => ?_)|refine zau rfl rfl (by omega) ?_)|refine zp ?_|refine zyl 2 rfl ?_|refine zyn ?_
       refine zyr ?_
       repeat' first|(refine zap rfl ?_;first|refine zdk [0] hG (trGive w0 p T hT _) rfl rfl rfl zdj (fun e s hG => ?_)|refine zae 3 rfl rfl rfl rfl rfl rfl rfl ?_)|refine zp ?_|refine zyl 2 rfl ?_|refine zyl 3 rfl ?_|refine zyn ?_
       refine zyr ?_
       repeat' (refine zap rfl ?_;first|refine zab 3 rfl rfl rfl ?_|refine zbp rfl rfl ?_)
       all_goals refine zyn ?_
       refine zed rfl (fun hE => ?_) (fun hE => ?_)
       · rw [if_pos hE] at hG
         refine zyx ?_
         refine run_drawT [3] [(.quiet, 0), (.loud, 1), (.loud, 2)] [(.loud, 3)] PP_mixed (by kernel_rfl) (by kernel_rfl) rfl ?_
         repeat' first|(refine zap rfl ?_;first|refine zae 1 rfl rfl rfl rfl rfl rfl rfl ?_|refine zae 2 rfl rfl rfl rfl rfl rfl rfl ?_)|refine zyl 0 rfl ?_
         all_goals refine reg_turn ?_
         all_goals repeat' (refine zap rfl ?_;first|refine zae 0 rfl rfl rfl rfl rfl rfl rfl ?_)
         all_goals refine zyn ?_
         refine zec [1, 1, 1, 0] rfl ?_
         exact zeg (drop_fin w0 p eb sb mb xb yb m R 0 false e s _ rfl rfl rfl hG)
       · rw [if_neg hE] at hG
         have he : e = 0 := by omega
         subst he
         refine run_slots [(3, .pointer (some ⟨tb, 0, none⟩)), (4, .pointer (some ⟨sb, 0, none⟩)), (6, .pointer (some ⟨xb, 0, none⟩)), (7, .pointer (some ⟨yb, 0, none⟩)), (8, .pointer (some ⟨eb, 0, none⟩)), (12, .pointer (some ⟨wb, 0, none⟩))] ⟨rfl, rfl, rfl, rfl, rfl, rfl, trivial⟩ (fun junk => ?_)
         refine zef 1 (celT xb (.int .i64 was) 2) rfl (fun _ h => h) rfl ?_
         refine zef 2 (celT yb (.bool false) 4) rfl (fun _ h => h) rfl ?_
         refine zef 3 (celT eb (.int .i64 0) 39) rfl (fun _ h => h) rfl ?_
         obtain ⟨hw1, hw2, hw3, hw4, hw5, hw6⟩ := id hw
         refine zyr ?_
         repeat' first|(refine zap rfl ?_;refine zdk [0] hG (trAdd w0 p T hT _ _ (by decide)) rfl rfl rfl zdj (fun u s hG => ?_))|refine zyl 2 rfl ?_|refine zyl 3 rfl ?_|refine zyn ?_
         refine zyr ?_
         repeat' first|(refine zap rfl ?_;first|refine zce rfl ?_|refine zav rfl rfl (by omega) ?_)|refine zp ?_|refine zyl 0 rfl ?_|refine zyf rfl ?_|refine zyn ?_
         have hL : (w.bs.zip w.cs).reverse = ((w.bs.take w.bs.length).zip (w.cs.take w.bs.length)).reverse := by rw [List.take_length, show w.bs.length = w.cs.length by omega, List.take_length]
         rw [hL] at hG
         refine run_loop (S := Nat × Sp) (fun st => [(3, .pointer (some ⟨tb, 0, none⟩)), (4, .pointer (some ⟨sb, 0, none⟩)), (6, .pointer (some ⟨xb, 0, none⟩)), (7, .pointer (some ⟨yb, 0, none⟩)), (8, .pointer (some ⟨eb, 0, none⟩)), (12, .pointer (some ⟨wb, 0, none⟩)), (15, .int .i64 ((st.1 : Int) - 1))])
           (fun st Γ => Γ = [SpaceA p st.2, celT xb (.int .i64 was) 2, celT yb (.bool false) 4, celT eb (.int .i64 0) 39, SlA 34 1 a1 w.bs.length c1 (intsV w.bs), SlA 34 1 a2 w.cs.length c2 (intsV w.cs)] ∧ At R (T.fold was ((w.bs.take st.1).zip (w.cs.take st.1)).reverse >>= fun r => Tr.afterD m r) st.2 ∧ st.1 ≤ w.bs.length)
           (fun st => st.1) (w.bs.length, s) ⟨rfl, rfl, rfl, rfl, rfl, rfl, rfl, trivial⟩ ⟨rfl, hG, Nat.le_refl _⟩ ?_
         rintro ⟨j, s⟩ Γ junk ⟨rfl, hG, hj⟩
         dsimp only at hG hj ⊢
         cases j with
         | zero =>
           simp only [List.take_zero, List.zip_nil_left, List.reverse_nil, Tr.fold, Pg.pure_bind] at hG
           refine zyr ?_
           repeat' first|(refine zap rfl ?_;refine zbn rfl rfl (by omega) ?_)|refine zp ?_|refine zyn ?_
           refine zcj rfl ?_
           refine zer rfl rfl ?_
           repeat' first|refine zck ?_|refine zyq ?_|(refine zap rfl ?_;first|refine zab 1 rfl rfl rfl ?_|refine zae 1 rfl rfl rfl rfl rfl rfl rfl ?_|refine zae 2 rfl rfl rfl rfl rfl rfl rfl ?_|refine zae 3 rfl rfl rfl rfl rfl rfl rfl ?_)|refine zch ?_
           refine zec [0, 0, 0, 0] rfl ?_
           exact zeg (drop_fin w0 p eb sb mb xb yb m R was true 0 s _ rfl rfl rfl hG)
         | succ q =>
           obtain ⟨bq, hbq⟩ : ∃ b, w.bs[q]? = some b := ⟨w.bs[q], List.getElem?_eq_getElem (by omega)⟩
           obtain ⟨cq, hcq⟩ : ∃ c, w.cs[q]? = some c := ⟨w.cs[q], List.getElem?_eq_getElem (by omega)⟩
           rw [zipL_succ hbq hcq] at hG
           simp only [Tr.fold, Pg.bind_assoc, Pg.ite_bind, Pg.pure_bind] at hG
           have hbr := hw6 bq (List.mem_of_getElem? hbq)
           refine run_sl_cases 4 rfl (fun h1 h2 h3 h4 => absurd h2 (by omega)) (fun ab e1 e2 e3 => ?_)
           subst e1
           refine run_sl_cases 5 rfl (fun h1 h2 h3 h4 => absurd h2 (by omega)) (fun cb e1 e2 e3 => ?_)
           subst e1
           have hrb : ∀ o, o = q → rd false 1 (intsV w.bs) o = some (.int .i64 bq) := fun o ho => rd_one (c := (intsV w.bs).toArray) (by simp [intsV, hbq]) o ho
           have hrc : ∀ o, o = q → rd false 1 (intsV w.cs) o = some (.int .i64 cq) := fun o ho => rd_one (c := (intsV w.cs).toArray) (by simp [intsV, hcq]) o ho
           refine zyr ?_
           repeat' first|(refine zap rfl ?_;refine zbm rfl rfl (by omega) ?_)|refine zp ?_|refine zyn ?_
           refine zci rfl ?_
           refine zyx ?_
           first|refine zcp (by kernel_rfl) ?_|refine zcr [(.read, 0), (.read, 1), (.quiet, 2), (.read, 3), (.quiet, 4), (.quiet, 5), (.read, 6), (.loud, 7), (.quiet, 8), (.quiet, 9), (.quiet, 10), (.quiet, 11), (.quiet, 12)] PP_mixed (by kernel_rfl) (by kernel_rfl) ?_|refine zeh PP_mixed (by kernel_rfl) (by kernel_rfl) ?_
           repeat' first|(refine zap rfl ?_;first|refine zag 4 rfl rfl (hrb _ (by omega)) (by decide) ?_|refine zdk [0] hG (trAlone w0 p T hT bq hbr) rfl rfl rfl zdj (fun o s hG => ?_)|refine zas rfl rfl (by omega) ?_)|refine zp ?_|refine zyl 0 rfl ?_|refine zyl 2 rfl ?_|refine zyl 3 rfl ?_|refine zyf rfl ?_|refine zyn ?_
           refine zyr ?_
           repeat' first|(refine zap rfl ?_;refine zbx rfl ?_)|refine zp ?_|refine zyn ?_
           refine zee rfl (fun hE2 => ?_) (fun hE2 => ?_)
           · have hE2 : o.2 = false := by simpa using hE2
             simp only [hE2, Bool.false_eq_true, if_false] at hG
             refine zer rfl rfl ?_
             repeat' first|refine zck ?_|refine zyq ?_|(refine zap rfl ?_;first|refine zab 1 rfl rfl rfl ?_|refine zae 1 rfl rfl rfl rfl rfl rfl rfl ?_|refine zae 2 rfl rfl rfl rfl rfl rfl rfl ?_|refine zae 3 rfl rfl rfl rfl rfl rfl rfl ?_)|refine zch ?_
             refine zec [0, 0, 0, 0] rfl ?_
             exact zeg (drop_fin w0 p eb sb mb xb yb m R was true 0 s _ rfl rfl rfl hG)
           · have hE2 : o.2 = true := by simpa using hE2
             simp only [hE2, if_true] at hG
             refine zyx ?_
             first|refine zcp (by kernel_rfl) ?_|refine zcr [(.read, 0), (.quiet, 1), (.read, 2), (.quiet, 3), (.quiet, 4), (.read, 5), (.quiet, 6), (.loud, 7)] PP_mixed (by kernel_rfl) (by kernel_rfl) ?_|refine zeh PP_mixed (by kernel_rfl) (by kernel_rfl) ?_
             repeat' first|(refine zap rfl ?_;first|refine zag 5 rfl rfl (hrc _ (by omega)) (by decide) ?_|refine zdk [0] hG (putG w0 p _ _) rfl rfl rfl zdj (fun u s hG => ?_)|refine zas rfl rfl (by omega) ?_)|refine zp ?_|refine zyl 0 rfl ?_|refine zyl 2 rfl ?_|refine zyf rfl ?_|refine zyn ?_
             first|refine zcp (by kernel_rfl) ?_|refine zcr [(.read, 0), (.read, 1), (.quiet, 2), (.read, 3), (.quiet, 4), (.quiet, 5), (.read, 6), (.loud, 7), (.loud, 8)] PP_mixed (by kernel_rfl) (by kernel_rfl) ?_|refine zeh PP_mixed (by kernel_rfl) (by kernel_rfl) ?_
             repeat' first|(refine zap rfl ?_;first|refine zag 4 rfl rfl (hrb _ (by omega)) (by decide) ?_|refine zdk [0] hG (trGive w0 p T hT _) rfl rfl rfl zdj (fun e s hG => ?_)|refine zae 3 rfl rfl rfl rfl rfl rfl rfl ?_|refine zas rfl rfl (by omega) ?_)|refine zp ?_|refine zyl 0 rfl ?_|refine zyl 2 rfl ?_|refine zyl 3 rfl ?_|refine zyf rfl ?_|refine zyn ?_
             refine zyr ?_
             repeat' (refine zap rfl ?_;first|refine zab 3 rfl rfl rfl ?_|refine zbp rfl rfl ?_)
             all_goals refine zyn ?_
             refine zed rfl (fun hE3 => ?_) (fun hE3 => ?_)
             · rw [if_pos hE3] at hG
               refine zyx ?_
               refine run_drawT [3] [(.quiet, 0), (.loud, 1), (.loud, 2)] [(.loud, 3)] PP_mixed (by kernel_rfl) (by kernel_rfl) rfl ?_
               repeat' first|(refine zap rfl ?_;first|refine zae 1 rfl rfl rfl rfl rfl rfl rfl ?_|refine zae 2 rfl rfl rfl rfl rfl rfl rfl ?_)|refine zyl 0 rfl ?_
               all_goals refine reg_turn ?_
               all_goals repeat' (refine zap rfl ?_;first|refine zae 0 rfl rfl rfl rfl rfl rfl rfl ?_)
               all_goals refine zyn ?_
               refine zec [1, 1, 1, 0] rfl ?_
               exact cut_ret (drop_fin w0 p eb sb mb xb yb m R 0 false e s _ rfl rfl rfl hG)
             · rw [if_neg hE3] at hG
               have he : e = 0 := by omega
               subst he
               repeat' first|refine zcm ?_|refine zcn ?_|refine zyq ?_|(refine zap rfl ?_;refine zav rfl rfl (by omega) ?_)|refine zp ?_|refine zch ?_
               exact zeq ⟨rfl, (q, s), ⟨rfl, rfl, rfl, rfl, rfl, rfl, zes (by dsimp only; omega), trivial⟩, ⟨rfl, hG, by dsimp only; omega⟩, Nat.lt_succ_self q⟩
end Go.Proofs.YtgdhcgnmffgkiaaGreatDoor
namespace Sim
open Go Go.Vc
open Pg
theorem Pg.all_mono {α : Type} {φ ψ : α → Prop} (h : ∀ a, φ a → ψ a) : ∀ {g : Pg α}, All φ g → All ψ g
 | ret a, hg => h a hg
 | get _ _, hg => fun v => all_mono h (hg v)
 | put _ _ k, hg => all_mono (g := k) h hg
 | mark _, hg => fun m => all_mono h (hg m)
 | back _ k, hg => all_mono (g := k) h hg
namespace Tr
variable (T : Tr)
end Tr
end Sim
namespace Go.Proofs.YtgdhcgnmffgkiaaGreatDoor
open Go.Vc Sim
set_option maxHeartbeats 4000000
end Go.Proofs.YtgdhcgnmffgkiaaGreatDoor
namespace Go.Proofs.YtgdhcgnmffgkiaaGreatDoor.SF
open Go.Vc
end Go.Proofs.YtgdhcgnmffgkiaaGreatDoor.SF
namespace Go.Proofs.YtgdhcgnmffgkiaaGreatDoor.SF
open Go.Vc
open Go.Sort (swp insInner insOuter insertionSort)
end Go.Proofs.YtgdhcgnmffgkiaaGreatDoor.SF
namespace Go.Proofs.YtgdhcgnmffgkiaaGreatDoor.SF
open Go.Vc
open Go.Sort (swp reverseLoop reverseRange siftDown heapBuild heapPop heapSort)
end Go.Proofs.YtgdhcgnmffgkiaaGreatDoor.SF
namespace Go.Proofs.YtgdhcgnmffgkiaaGreatDoor.SF
open Go.Vc
open Go.Sort (swp siftDown heapBuild heapPop heapSort)
end Go.Proofs.YtgdhcgnmffgkiaaGreatDoor.SF
namespace Go.Proofs.YtgdhcgnmffgkiaaGreatDoor.SF
open Go.Vc
open Go.Sort (swp scanUp scanDown partLoop partition partEqLoop partitionEqual)
set_option maxHeartbeats 4000000
end Go.Proofs.YtgdhcgnmffgkiaaGreatDoor.SF
namespace Go.Proofs.YtgdhcgnmffgkiaaGreatDoor.SF
open Go.Vc
open Go.Sort (swp scanUp scanDown partEqLoop partitionEqual)
set_option maxHeartbeats 4000000
end Go.Proofs.YtgdhcgnmffgkiaaGreatDoor.SF
namespace Go.Proofs.YtgdhcgnmffgkiaaGreatDoor.SF
open Go.Vc
open Go.Sort (swp scanSorted shiftDown shiftUp partialIns partialInsertionSort)
set_option maxHeartbeats 4000000
end Go.Proofs.YtgdhcgnmffgkiaaGreatDoor.SF
namespace Go.Proofs.YtgdhcgnmffgkiaaGreatDoor.SF
open Go.Vc
open Go.Sort (order2 median medianAdjacent choosePivot Hint)
end Go.Proofs.YtgdhcgnmffgkiaaGreatDoor.SF
namespace Go.Proofs.YtgdhcgnmffgkiaaGreatDoor.SF
open Go.Vc
open Go.Sort (order2 median medianAdjacent choosePivot Hint)
set_option maxHeartbeats 4000000
end Go.Proofs.YtgdhcgnmffgkiaaGreatDoor.SF
namespace Go.Proofs.YtgdhcgnmffgkiaaGreatDoor
open Go.Vc
end Go.Proofs.YtgdhcgnmffgkiaaGreatDoor
namespace Go.Proofs.YtgdhcgnmffgkiaaGreatDoor
open Go.Vc
open Go.Sort (ltInt swp insInner insOuter insertionSort)
end Go.Proofs.YtgdhcgnmffgkiaaGreatDoor
namespace Go.Proofs.YtgdhcgnmffgkiaaGreatDoor
open Go.Vc
open Go.Sort (ltInt swp reverseLoop reverseRange siftDown heapBuild heapPop heapSort)
end Go.Proofs.YtgdhcgnmffgkiaaGreatDoor
namespace Go.Proofs.YtgdhcgnmffgkiaaGreatDoor
open Go.Vc
open Go.Sort (ltInt swp siftDown heapBuild heapPop heapSort)
end Go.Proofs.YtgdhcgnmffgkiaaGreatDoor
namespace Go.Proofs.YtgdhcgnmffgkiaaGreatDoor
open Go.Vc
open Go.Sort (ltInt swp scanUp scanDown partLoop partition partEqLoop partitionEqual)
set_option maxHeartbeats 4000000
end Go.Proofs.YtgdhcgnmffgkiaaGreatDoor
namespace Go.Proofs.YtgdhcgnmffgkiaaGreatDoor
open Go.Vc
open Go.Sort (ltInt swp scanUp scanDown partEqLoop partitionEqual)
set_option maxHeartbeats 4000000
end Go.Proofs.YtgdhcgnmffgkiaaGreatDoor
namespace Go.Proofs.YtgdhcgnmffgkiaaGreatDoor
open Go.Vc
open Go.Sort (ltInt swp scanSorted shiftDown shiftUp partialIns partialInsertionSort)
set_option maxHeartbeats 4000000
end Go.Proofs.YtgdhcgnmffgkiaaGreatDoor
namespace Go.Proofs.YtgdhcgnmffgkiaaGreatDoor
open Go.Vc
open Go.Sort (ltInt order2 median medianAdjacent choosePivot Hint)
end Go.Proofs.YtgdhcgnmffgkiaaGreatDoor
namespace Go.Proofs.YtgdhcgnmffgkiaaGreatDoor
open Go.Vc
open Go.Sort (ltInt order2 median medianAdjacent choosePivot Hint)
set_option maxHeartbeats 4000000
end Go.Proofs.YtgdhcgnmffgkiaaGreatDoor
namespace Go.Proofs.YtgdhcgnmffgkiaaGreatDoor
open Go.Vc
open Go.Sort (bitsLen xorNextN)
section
variable {P : Program} {w0 : World} {n : Nat} {sh : Shared} {Q : Exit → Env → List Deferred → List Asn → Prop} {k : List Item} {ρ : Env} {df : List Deferred} {Γ : List Asn}
variable {ops : Array Oper} {l : List (Fl × Nat × Oper)} {b : Fl} {i d : Nat} {ty : TypeId} {pos : String} {aft : Array Edge}
end
end Go.Proofs.YtgdhcgnmffgkiaaGreatDoor
namespace Go.Proofs.YtgdhcgnmffgkiaaGreatDoor.SF
open Go.Vc
open Go.Sort (swp bitsLen xorNextN xorNext breakStep breakPatterns)
section
variable {P : Program} {w0 : World} {n : Nat} {sh : Shared} {Q : Exit → Env → List Deferred → List Asn → Prop} {k : List Item} {ρ : Env} {df : List Deferred} {Γ : List Asn}
variable {ops : Array Oper} {l : List (Fl × Nat × Oper)} {b : Fl} {i d : Nat} {ty : TypeId} {pos : String} {aft : Array Edge}
end
set_option maxHeartbeats 4000000
end Go.Proofs.YtgdhcgnmffgkiaaGreatDoor.SF
namespace Go.Proofs.YtgdhcgnmffgkiaaGreatDoor.SF
open Go.Vc
open Go.Sort (swp bitsLen Hint insertionSort heapSort breakPatterns choosePivot reverseRange partialInsertionSort partitionEqual partition pdq)
end Go.Proofs.YtgdhcgnmffgkiaaGreatDoor.SF
namespace Go.Proofs.YtgdhcgnmffgkiaaGreatDoor.SF
open Go.Vc
open Go.Sort (swp bitsLen Hint insertionSort heapSort breakPatterns choosePivot reverseRange partialInsertionSort partitionEqual partition pdq)
set_option maxHeartbeats 4000000
end Go.Proofs.YtgdhcgnmffgkiaaGreatDoor.SF
namespace Go.Proofs.YtgdhcgnmffgkiaaGreatDoor.SF
open Go.Vc
open Go.Sort (bitsLen pdq)
end Go.Proofs.YtgdhcgnmffgkiaaGreatDoor.SF
namespace Go.Proofs.YtgdhcgnmffgkiaaGreatDoor.SF
open Go.Vc
end Go.Proofs.YtgdhcgnmffgkiaaGreatDoor.SF
namespace Go.Proofs.YtgdhcgnmffgkiaaGreatDoor
variable (w0 : World)
open Go.Vc Sim
set_option maxHeartbeats 4000000
theorem trLen (p : Nat) (T : Tr) (hT : T.Ok) : FnG w0 [] 64 [trV T, spP p] p T.len (.int .i64) := by
 intro s hS
 have hG := At.start hS
 generalize Pg.run _ s = R at hG ⊢
 unfold Tr.len at hG
 have hr := hT.r1
 have hr0 := hT.r0
 refine zep en64 fn64 rfl rfl rfl ?_
 replace hG : At R (Pg.gt (T.root + 1) >>= fun u => Pg.ret u) s := hG
 repeat' first|refine zck ?_|refine zyq ?_|(refine zap rfl ?_;first|refine zab 1 rfl rfl rfl ?_|refine zdk [0] hG (getG w0 p _) rfl rfl rfl zdj (fun u s hG => ?_)|refine zau rfl rfl (by omega) ?_|refine zaq (cs := [_, _, _, _, _]) rfl (fun nb => ?_))|refine zp ?_|refine zyf rfl ?_|refine zch ?_
 rw [hG.done]
 refine zec [0] rfl ?_
 exact zej rfl ⟨rfl, rfl⟩
end Go.Proofs.YtgdhcgnmffgkiaaGreatDoor
namespace Sim
open Go Go.Vc
open Pg
theorem Pg.bd_all0 {α β : Type} {f : α → Pg β} {φ : α → Prop} {n : Nat} : ∀ {g : Pg α}, Bd 0 g → All φ g → (∀ a, φ a → Bd n (f a)) → Bd n (g >>= f)
 | ret a, _, h2, h3 => h3 a h2
 | get x k, h1, h2, h3 => by
   have ih := fun v => bd_all0 (g := k v) (h1 v) (h2 v) h3
   cases n <;> exact ih
 | put _ _ k, h1, _, _ => (show False from h1).elim
 | mark k, h1, h2, h3 => by
   have ih := fun v => bd_all0 (g := k v) (h1 v) (h2 v) h3
   cases n <;> exact ih
 | back _ k, h1, h2, h3 => by
   have ih := bd_all0 (g := k) h1 h2 h3
   cases n <;> exact ih
namespace Tr
variable (T : Tr)
theorem bd_dropAt (w : TWay) (hw : w.bs.length ≤ 4) (cell at_ : Int) : Bd 26 (T.dropAt w cell at_) := by
 unfold Tr.dropAt
 have hl : (w.bs.zip w.cs).reverse.length ≤ 4 := by rw [List.length_reverse, List.length_zip]; omega
 refine bd_then (bd_gt0 _) (fun _ => bd_then (bd_gt0 _) (fun _ => bd_then (bd_pt _ _) (fun _ => bd_then (T.bd_give _) (fun _ => bd_ite (bd_pure _) (bd_then (T.bd_add _ _) (fun _ => (T.bd_fold _ _).mono (by omega)) (by decide))) (by decide)) (by decide)) (by decide)) (by decide)
theorem bd_dropIn (hT : T.Ok) (n h : Int) : Bd 26 (T.dropIn n h) := by
 unfold Tr.dropIn
 refine bd_all0 (T.bd_down h) (T.all_down hT h) fun w hw => bd_ite (bd_then (T.bd_leaf _ _) (fun _ => bd_ite (bd_ite (bd_pure _) (T.bd_dropAt _ ?_ _ _)) (bd_pure _)) (by decide)) (bd_pure _)
 have := hw.1; have := hw.2.2.1; omega
theorem bd_drop (hT : T.Ok) (n h : Int) : Bd 26 (T.drop n h) := by
 unfold Tr.drop
 refine bd_then bd_mk0 (fun _ => bd_then (T.bd_dropIn hT _ _) (fun _ => ?_) (by decide)) (by decide)
 unfold Tr.afterD
 exact bd_ite (bd_then (bd_bk0 _) (fun _ => bd_pure _) (by decide)) (bd_pure _)
end Tr
end Sim
namespace Sim
open Go Go.Vc
open Pg
namespace Te
variable (T : Te)
theorem bd_ofW (a c : Int) (w : Wk) : Bd 0 (T.ofW a c w) := by unfold Te.ofW; repeat' first|exact bd_pure _|with_reducible refine bd_ite ?_ ?_|with_reducible refine bd_then (bd_gt0 _) ?_ (by decide) | intro _
theorem bd_refresh (a : Int) (w : Wk) : Bd 2 (T.refresh a w) := by unfold Te.refresh; repeat' first|with_reducible refine bd_then (T.bd_ofW _ _ _) ?_ (by decide)|exact bd_pure _|with_reducible refine bd_then (bd_gt0 _) ?_ (by decide)|with_reducible refine bd_then (bd_pt _ _) ?_ (by decide) | intro _
theorem bd_wayK {β : Type} (f : β → Int × Int → Pg (β × Bool)) (hf : ∀ a x, Bd 0 (f a x)) (k : Int) : ∀ (j : Nat) (a : Int) (w : Wk) (acc : β), Bd 0 (T.wayK f k j a w acc)
 | 0, _, _, _ => bd_pure _
 | j + 1, a, w, acc => by
   unfold Te.wayK
   repeat' first|exact bd_wayK f hf k j _ _ _|with_reducible refine bd_then (hf _ _) ?_ (by decide)|exact bd_pure _|with_reducible refine bd_ite ?_ ?_|with_reducible refine bd_then (bd_gt0 _) ?_ (by decide) | intro _
theorem bd_way {β : Type} (f : β → Int × Int → Pg (β × Bool)) (hf : ∀ a x, Bd 0 (f a x)) (k : Int) (w : Wk) (acc : β) : Bd 0 (T.way f k w acc) := bd_then (bd_gt0 _) (fun _ => T.bd_wayK f hf k _ _ _ _) (by decide)
theorem bd_pathF (a : List (Int × Int)) (x : Int × Int) : Bd 0 (pathF a x) := bd_pure _
theorem bd_getF (k a : Int) (x : Int × Int) : Bd 0 (getF k a x) := by unfold Te.getF; repeat' first|exact bd_pure _|with_reducible refine bd_ite ?_ ?_|with_reducible refine bd_then (bd_gt0 _) ?_ (by decide) | intro _
theorem bd_nextF (k : Int) (a : Int × Bool) (x : Int × Int) : Bd 0 (nextF k a x) := bd_pure _
theorem bd_path (k : Int) (w : Wk) : Bd 0 (T.path k w) := bd_then (T.bd_way _ bd_pathF _ _ _) (fun _ => bd_pure _) (by decide)
theorem bd_get (k : Int) : Bd 0 (T.get k) := bd_then (T.bd_way _ (bd_getF k) _ _ _) (fun _ => bd_pure _) (by decide)
theorem bd_next (k : Int) : Bd 0 (T.next k) := bd_then (T.bd_way _ (bd_nextF k) _ _ _) (fun _ => bd_pure _) (by decide)
theorem bd_sumO (a : Int) : Bd 0 (sumO a) := bd_gt0 _
theorem bd_countO (a : Int) : Bd 0 (countO a) := bd_pure _
theorem bd_untilK (k : Int) (inc : Bool) (cell : Int) (own : Int → Pg Int) (ho : ∀ a, Bd 0 (own a)) : ∀ (j : Nat) (a : Int) (w : Wk) (t : Int), Bd 0 (T.untilK k inc cell own j a w t)
 | 0, _, _, _ => bd_pure _
 | j + 1, a, w, t => by
   unfold Te.untilK
   repeat' first|exact bd_untilK k inc cell own ho j _ _ _|with_reducible refine bd_then (ho _) ?_ (by decide)|with_reducible refine bd_then (T.bd_ofW _ _ _) ?_ (by decide)|exact bd_pure _|with_reducible refine bd_ite ?_ ?_|with_reducible refine bd_then (bd_gt0 _) ?_ (by decide) | intro _
theorem bd_between (x y cell : Int) (own : Int → Pg Int) (ho : ∀ a, Bd 0 (own a)) : Bd 0 (T.between x y cell own) :=
 bd_ite (bd_pure _) (bd_then (i := 0) (bd_then (bd_gt0 _) (fun _ => T.bd_untilK _ _ _ _ ho _ _ _ _) (by decide)) (fun _ => bd_then (i := 0) (bd_then (bd_gt0 _) (fun _ => T.bd_untilK _ _ _ _ ho _ _ _ _) (by decide)) (fun _ => bd_pure _) (by decide)) (by decide))
theorem bd_nthK : ∀ (j : Nat) (a : Int) (w : Wk) (n : Int), Bd 0 (T.nthK j a w n)
 | 0, _, _, _ => bd_pure _
 | j + 1, a, w, n => by
   unfold Te.nthK
   repeat' first|exact bd_nthK j _ _ _|with_reducible refine bd_then (T.bd_ofW _ _ _) ?_ (by decide)|exact bd_pure _|with_reducible refine bd_ite ?_ ?_|with_reducible refine bd_then (bd_gt0 _) ?_ (by decide) | intro _
theorem bd_nth (n : Int) : Bd 0 (T.nth n) := bd_ite (bd_pure _) (bd_then (bd_gt0 _) (fun _ => T.bd_nthK _ _ _ _) (by decide))
theorem bd_add : ∀ (l : List (Int × Int)) (n v : Int), Bd (2 * l.length) (add l n v)
 | [], _, _ => bd_pure _
 | x :: l, n, v => by
   unfold Te.add
   refine bd_seq (i := 1) (j := 1 + 2 * l.length) (bd_ite (bd_then (bd_gt0 _) (fun _ => bd_pt _ _) (by decide)) (bd_pure _)) (fun _ => ?_) (by simp only [List.length_cons]; omega)
   exact bd_seq (i := 1) (j := 2 * l.length) (bd_ite (bd_then (bd_gt0 _) (fun _ => bd_pt _ _) (by decide)) (bd_pure _)) (fun _ => bd_add l n v) (by omega)
theorem bd_split (k : Int) : ∀ (j : Nat) (a : Int) (w : Wk), Bd (3 * j) (T.split k j a w)
 | 0, _, _ => bd_pure _
 | j + 1, a, w => by
   unfold Te.split
   refine bd_ite (bd_then (bd_gt0 _) (fun key => bd_ite ?_ ?_) (Nat.zero_le _)) (bd_pure _)
   · exact bd_then (bd_gt0 _) (fun b => bd_seq (i := 3 * j) (j := 3) (bd_split k j b _) (fun r => bd_then (bd_pt _ _) (fun _ => bd_then (T.bd_refresh _ _) (fun _ => bd_pure _) (by decide)) (by decide)) (by omega)) (Nat.zero_le _)
   · exact bd_then (bd_gt0 _) (fun b => bd_seq (i := 3 * j) (j := 3) (bd_split k j b _) (fun r => bd_then (bd_pt _ _) (fun _ => bd_then (T.bd_refresh _ _) (fun _ => bd_pure _) (by decide)) (by decide)) (by omega)) (Nat.zero_le _)
theorem bd_merge : ∀ (j : Nat) (a b : Int) (w : Wk), Bd (3 * j) (T.merge j a b w)
 | 0, _, _, _ => bd_pure _
 | j + 1, a, b, w => by
   unfold Te.merge
   refine bd_ite (bd_ite (bd_then (bd_gt0 _) (fun x => bd_then (bd_gt0 _) (fun y => bd_ite ?_ ?_) (Nat.zero_le _)) (Nat.zero_le _)) (bd_pure _)) (bd_pure _)
   · exact bd_then (bd_gt0 _) (fun c => bd_seq (i := 3 * j) (j := 3) (bd_merge j c b _) (fun r => bd_then (bd_pt _ _) (fun _ => bd_then (T.bd_refresh _ _) (fun _ => bd_pure _) (by decide)) (by decide)) (by omega)) (Nat.zero_le _)
   · exact bd_then (bd_gt0 _) (fun c => bd_seq (i := 3 * j) (j := 3) (bd_merge j a c _) (fun r => bd_then (bd_pt _ _) (fun _ => bd_then (T.bd_refresh _ _) (fun _ => bd_pure _) (by decide)) (by decide)) (by omega)) (Nat.zero_le _)
theorem bd_hang (l : List (Int × Int)) (k a : Int) : Bd 1 (T.hang l k a) := by
 unfold Te.hang
 split <;> exact bd_pt _ _
theorem bd_after {α : Type} (m : Nat) (r : α × Int) : Bd 0 (after m r) := by unfold Te.after; repeat' first|exact bd_pure _|with_reducible refine bd_ite ?_ ?_|with_reducible refine bd_then (bd_bk0 _) ?_ (by decide) | intro _
theorem all_wayP (k : Int) : ∀ (j : Nat) (a : Int) (w : Wk) (acc : List (Int × Int)), All (fun r => r.1.1.length ≤ acc.length + j) (T.wayK pathF k j a w acc)
 | 0, _, _, acc => Nat.le_refl acc.length
 | j + 1, a, w, acc => by
   unfold Te.wayK
   refine all_ite (fun _ => all_then fun key => ?_) (fun _ => all_pure (Nat.le_add_right _ _))
   have e : (pathF acc (a, key)) = pure (acc ++ [(a, key)], true) := rfl
   rw [e, pure_bind]
   dsimp only
   rw [if_neg (by decide)]
   refine all_ite (fun _ => all_pure (by simp only [List.length_append, List.length_singleton]; omega)) fun _ => all_then fun b => ?_
   refine all_mono (fun r hr => ?_) (all_wayP k j b _ (acc ++ [(a, key)]))
   simp only [List.length_append, List.length_singleton] at hr
   omega
theorem all_path (k : Int) (w : Wk) : All (fun r => r.1.1.length ≤ T.pool.nodes.toNat) (T.path k w) := by
 unfold Te.path
 refine all_bind (ψ := fun r => r.1.1.length ≤ T.pool.nodes.toNat) (fun r h => all_pure h) (all_then fun a => ?_)
 exact all_mono (fun r hr => by simpa using hr) (T.all_wayP k _ a w [])
theorem bd_cutAt (k : Int) (w : Wk) : ∀ o : Option (Int × Int), Bd 24774 (T.cutAt k o w)
 | none => bd_pure _
 | some x => T.bd_split k 8258 x.1 w
theorem bd_putEnd (k v : Int) (l : List (Int × Int)) (hl : l.length ≤ 128) (a : Int) (r : (Int × Int) × Wk) : Bd 262 (T.putEnd k v l a r) := by
 unfold Te.putEnd
 have h : 2 * (l.take (above k l)).length ≤ 256 := by rw [List.length_take]; omega
 exact bd_then (bd_pt _ _) (fun _ => bd_then (bd_pt _ _) (fun _ => bd_then (T.bd_refresh _ _) (fun u => bd_then ((bd_add _ _ _).mono h) (fun _ => bd_then (T.bd_hang _ _ _) (fun _ => bd_then (bd_gt0 _) (fun c => bd_then (bd_pt _ _) (fun _ => bd_pure _) (by decide)) (by decide)) (by decide)) (by decide)) (by decide)) (by decide)) (by decide)
theorem bd_putNew (k v : Int) (l : List (Int × Int)) (hl : l.length ≤ 128) (w : Wk) : Bd 25040 (T.putNew k v l w) := by
 unfold Te.putNew
 exact bd_then (bd_takeP _) (fun t => bd_ite (bd_pure _) (bd_then (bd_pt _ _) (fun _ => bd_then (bd_pt _ _) (fun _ => bd_then (T.bd_cutAt _ _ _) (fun r => (T.bd_putEnd k v l hl _ _).mono (by decide)) (by decide)) (by decide)) (by decide))) (by decide)
theorem bd_putAs (k v : Int) (l : List (Int × Int)) (hl : l.length ≤ 128) (w : Wk) : ∀ (b : Bool) (o : Option (Int × Int)), Bd 25040 (T.putAs k v l w b o)
 | true, some x => bd_then (bd_gt0 _) (fun old => bd_then (bd_pt _ _) (fun _ => bd_then ((bd_add l 0 _).mono (show _ ≤ 256 by omega)) (fun _ => bd_pure _) (by decide)) (by decide)) (by decide)
 | true, none => T.bd_putNew k v l hl w
 | false, some _ => T.bd_putNew k v l hl w
 | false, none => T.bd_putNew k v l hl w
theorem bd_putIn (hT : T.Ok) (k v : Int) : Bd 25040 (T.putIn k v) := by
 unfold Te.putIn
 have hn := hT.1.2.2.2.2.2.2
 exact bd_all0 (T.bd_path _ _) (T.all_path _ _) fun r hr => bd_ite (bd_pure _) (T.bd_putAs _ _ _ (by omega) _ _ _)
theorem bd_put (hT : T.Ok) (k v : Int) : Bd 25040 (T.put k v) := bd_then bd_mk0 (fun m => bd_then (T.bd_putIn hT k v) (fun r => bd_after m r) (by decide)) (by decide)
theorem bd_dropAt (k : Int) (l : List (Int × Int)) (hl : l.length ≤ 128) (x : Int × Int) (w : Wk) : Bd 25040 (T.dropAt k l x w) := by
 unfold Te.dropAt
 exact bd_then (bd_gt0 _) (fun old => bd_then (bd_gt0 _) (fun a => bd_then (bd_gt0 _) (fun b => bd_then (T.bd_merge 8258 a b w) (fun r => bd_then (T.bd_hang _ _ _) (fun _ => bd_then ((bd_add l _ _).mono (show _ ≤ 256 by omega)) (fun _ => bd_then (bd_gt0 _) (fun c => bd_then (bd_pt _ _) (fun _ => bd_ite (bd_pure _) (bd_then (bd_giveP _ _) (fun e => bd_ite (bd_pure _) (bd_pure _)) (by decide))) (by decide)) (by decide)) (by decide)) (by decide)) (by decide)) (by decide)) (by decide)) (by decide)
theorem bd_dropAs (k : Int) (l : List (Int × Int)) (hl : l.length ≤ 128) (w : Wk) : ∀ (b : Bool) (o : Option (Int × Int)), Bd 25040 (T.dropAs k l w b o)
 | true, some x => T.bd_dropAt k _ (by rw [List.length_dropLast]; omega) x w
 | true, none => bd_pure _
 | false, some _ => bd_pure _
 | false, none => bd_pure _
theorem bd_dropIn (hT : T.Ok) (k : Int) : Bd 25040 (T.dropIn k) := by
 unfold Te.dropIn
 have hn := hT.1.2.2.2.2.2.2
 exact bd_all0 (T.bd_path _ _) (T.all_path _ _) fun r hr => bd_ite (bd_pure _) (T.bd_dropAs _ _ (by omega) _ _ _)
theorem bd_drop (hT : T.Ok) (k : Int) : Bd 25040 (T.drop k) := bd_then bd_mk0 (fun m => bd_then (T.bd_dropIn hT k) (fun r => bd_after m r) (by decide)) (by decide)
end Te
end Sim
namespace Sim
open Go Go.Vc
def fixE (q : Int × Int) : Int × Int := (if q.2 ≠ 0 then 0 else q.1, q.2)
def Few (s : Sp) : Prop := s.puts.length ≤ 100000000
theorem Few.fits {α : Type} {g : Pg α} {n : Nat} {s : Sp} (h : Few s) (hb : Pg.Bd n g) (hn : n ≤ 30000) : Pg.Fits g s := Pg.fits_of g n s hb (by unfold Few at h; omega)
theorem Few.sm {s : Sp} (h : Few s) {j : Nat} (hj : j ≤ 30000) : Sm s j := by unfold Sm; unfold Few at h; omega
end Sim
namespace Go.Proofs.YtgdhcgnmffgkiaaGreatDoor
open Go.Vc Sim
set_option maxHeartbeats 4000000
abbrev FnL {α : Type} (w0 : World) (f : FuncId) (args : List Value) (p : Nat) (g : Pg α) (enc : α → Value) : Prop :=
 ∀ s, Few s → FnE PP w0 [] f args [SpaceA p s] (enc (Pg.run g s).1) [SpaceA p (Pg.run g s).2]
theorem fnL {w0 : World} {α : Type} {f : FuncId} {args : List Value} {p : Nat} {g : Pg α} {enc : α → Value} (spec : FnG w0 [] f args p g enc) {n : Nat} (hb : Pg.Bd n g) (hn : n ≤ 30000 := by decide) : FnL w0 f args p g enc :=
  fun s hs => spec s (hs.fits hb hn)
structure MtF (w0 : World) (k r : Int) (m : ByteArray × Int × Bool) (st : Int → Int → Int → Sp → (Int × Int) × Sp) : Prop where
 eqv : ∀ x y z s t, Eqv s t → (st x y z s).1 = (st x y z t).1 ∧ Eqv (st x y z s).2 (st x y z t).2
 len : ∀ x y z s, Few s → (st x y z s).2.puts.length ≤ s.puts.length + 30000
 dir : ∀ p x y z s, Few s → FnE PP w0 [] 15 [spP p, rootV k r, .string m.1, threeV x y z] [SpaceA p s] (encI2 (st x y z s).1) [SpaceA p (st x y z s).2]
 cat : ∀ (sh : Shared) p s (l : List Int) a c, Few s → (l.length : Int) = m.2.1 → RdSl w0 sh encI 1 (.slice a l.length c) l →
   FnE PP w0 sh 13 [spP p, poolV awP, rootV k r, .string m.1, .slice a l.length c] [SpaceA p s] (encI2 (st (l.getD 0 0) (l.getD 1 0) (l.getD 2 0) s).1) [SpaceA p (st (l.getD 0 0) (l.getD 1 0) (l.getD 2 0) s).2]
theorem len_bd {α : Type} {g : Pg α} {n : Nat} (hb : Pg.Bd n g) (hn : n ≤ 30000) (s : Sp) (_ : Few s) : (Pg.run g s).2.puts.length ≤ s.puts.length + 30000 := by
 have := Pg.run_len g n s hb
 omega
theorem len_sm {t s : Sp} {n : Nat} (h : ∀ j, Sm s (j + n) → Sm t j) (hn : n ≤ 30000) (hs : Few s) : t.puts.length ≤ s.puts.length + 30000 := by
 unfold Few at hs
 have := h (1099511627776 - n - s.puts.length) (by unfold Sm; omega)
 unfold Sm at this
 omega
theorem getD_some {l : List Int} {n : Nat} (h : n < l.length) : l[n]? = some (l.getD n 0) := by
 rw [List.getD_eq_getElem?_getD, List.getElem?_eq_getElem h]; rfl
end Go.Proofs.YtgdhcgnmffgkiaaGreatDoor
