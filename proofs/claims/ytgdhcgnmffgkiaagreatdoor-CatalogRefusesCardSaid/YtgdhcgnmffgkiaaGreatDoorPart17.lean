import Derived.Sort.AssemblyPlain
import Derived.Sort.LotD5
import Derived.Test.YtgdhcgnmffgkiaaGreatDoorPart16
import Derived.Test.YtgdhcgnmffgkiaaGreatDoorPart5
import Derived.Test.YtgdhcgnmffgkiaaGreatDoorPart1
import Derived.Test.YtgdhcgnmffgkiaaGreatDoorKit
import Derived.Test.YtgdhcgnmffgkiaaGreatDoorPart8
/- Own work: lemmas of this claim. -/
namespace Go.Proofs.YtgdhcgnmffgkiaaGreatDoor
variable (w0 : World)
open Go.Vc Sim
set_option maxHeartbeats 16000000
theorem dqPush (p : Nat) (P : Pl) (hP : P.Ok) (r v : Int) (b : Bool) : FnG w0 [] 54 [spP p, poolV P, .int .i64 r, .bool b, .int .i64 v] p (Dq.push P r v b) (.int .i64) := by
 intro s hS
 have hG := At.start hS
 generalize Pg.run _ s = R at hG ⊢
 simp only [Dq.push, Dq.pushIn, Pg.bind_assoc, Pg.ite_bind, Pg.pure_bind] at hG
 refine zep en54 fn54 rfl rfl rfl ?_
 refine zyr ?_
 repeat' (refine zap rfl ?_;first|refine zar (fun eb => ?_)|refine zaq (cs := [_, _, _]) rfl (fun nb => ?_))
 all_goals refine zyn ?_
 refine zeb [1] rfl ?_
 refine zyr ?_
 repeat' first|(refine zap rfl ?_;first|refine zcd rfl rfl ?_|refine zdk [0] hG (markG w0 p) rfl rfl rfl zdj (fun m s hG => ?_))|refine zp ?_|refine zyn ?_
 refine zyr ?_
 repeat' first|(refine zap rfl ?_;first|refine zdk [0] hG (takeG w0 p P hP) rfl rfl rfl zdj (fun t s hG => ?_)|refine zae 1 rfl rfl rfl rfl rfl rfl rfl ?_)|refine zp ?_|refine zyl 0 rfl ?_|refine zyn ?_
 obtain ⟨a, e⟩ := t
 dsimp only at hG
 refine zyr ?_
 repeat' (refine zap rfl ?_;first|refine zab 1 rfl rfl rfl ?_|refine zbp rfl rfl ?_)
 all_goals refine zyn ?_
 refine zed rfl (fun hE => ?_) (fun hE => ?_)
 · rw [if_pos hE] at hG
   refine zyr ?_
   repeat' (refine zap rfl ?_;first|refine zab 1 rfl rfl rfl ?_|refine zae 1 rfl rfl rfl rfl rfl rfl rfl ?_)
   all_goals refine zyn ?_
   exact zeg (dqPush_fin w0 p eb m R e s _ rfl hG)
 rw [if_neg hE] at hG
 have hE : e = 0 := by simpa using hE
 subst hE
 refine zyr ?_
 repeat' first|(refine zap rfl ?_;first|refine zbx rfl ?_|refine zah [] (dqSide w0 _) rfl rfl rfl zdj rfl ?_)|refine zp ?_|refine zyn ?_
 refine zyr ?_
 repeat' first|(refine zap rfl ?_;first|refine zdu rfl rfl ?_|refine zdk [0] hG (getG w0 p _) rfl rfl rfl zdj (fun en s hG => ?_))|refine zp ?_|refine zyn ?_
 refine zyr ?_
 repeat' first|(refine zap rfl ?_;first|refine zdu rfl rfl ?_|refine zdk [0] hG (putG w0 p _ _) rfl rfl rfl zdj (fun u s hG => ?_))|refine zp ?_|refine zyn ?_
 refine zyr ?_
 repeat' first|(refine zap rfl ?_;first|refine zdu rfl rfl ?_|refine zdk [0] hG (putG w0 p _ _) rfl rfl rfl zdj (fun u s hG => ?_))|refine zp ?_|refine zyn ?_
 refine zyr ?_
 repeat' first|(refine zap rfl ?_;first|refine zdu rfl rfl ?_|refine zdk [0] hG (putG w0 p _ _) rfl rfl rfl zdj (fun u s hG => ?_))|refine zp ?_|refine zyn ?_
 by_cases hn : en = 0
 · subst hn
   rw [if_pos rfl] at hG
   simp only [Dq.tail, Pg.bind_assoc, Pg.pure_bind] at hG
   refine zyr ?_
   repeat' first|(refine zap rfl ?_;refine zbc rfl rfl (by omega) ?_)|refine zp ?_|refine zyn ?_
   refine zci rfl ?_
   refine zyr ?_
   repeat' first|(refine zap rfl ?_;first|refine zdu rfl rfl ?_|refine zdk [0] hG (putG w0 p _ _) rfl rfl rfl zdj (fun u s hG => ?_))|refine zp ?_|refine zyn ?_
   refine zyr ?_
   repeat' first|(refine zap rfl ?_;first|refine zdu rfl rfl ?_|refine zdk [0] hG (putG w0 p _ _) rfl rfl rfl zdj (fun u s hG => ?_))|refine zp ?_|refine zyn ?_
   refine zyr ?_
   repeat' first|(refine zap rfl ?_;first|refine zdu rfl rfl ?_|refine zdk [0] hG (dqMore w0 p _ _) rfl rfl rfl zdj (fun u s hG => ?_))|refine zp ?_|refine zyn ?_
   refine zyr ?_
   repeat' first|(refine zap rfl ?_;first|refine zdu rfl rfl ?_|refine zdk [0] hG (dqMore w0 p _ _) rfl rfl rfl zdj (fun u s hG => ?_))|refine zp ?_|refine zyn ?_
   refine zyr ?_
   repeat' (refine zap rfl ?_;refine zae 1 rfl rfl rfl rfl rfl rfl rfl ?_)
   all_goals refine zyn ?_
   exact zeg (dqPush_fin w0 p eb m R 0 s _ rfl hG)
 rw [if_neg hn] at hG
 have kn := dqIs w0 P hP en
 cases hN : P.node en with
 | true =>
   rw [hN, if_pos rfl] at hG
   rw [hN] at kn
   simp only [Dq.tail, Pg.bind_assoc, Pg.pure_bind] at hG
   refine zyr ?_
   repeat' first|(refine zap rfl ?_;refine zbd rfl rfl (by omega) ?_)|refine zp ?_|refine zyn ?_
   refine zcj rfl ?_
   refine zyr ?_
   repeat' first|(refine zap rfl ?_;first|refine zbx rfl ?_|refine zah [] kn rfl rfl rfl zdj rfl ?_)|refine zp ?_|refine zyl 0 rfl ?_|refine zyn ?_
   refine zcj rfl ?_
   refine zyr ?_
   repeat' first|(refine zap rfl ?_;first|refine zdu rfl rfl ?_|refine zdk [0] hG (putG w0 p _ _) rfl rfl rfl zdj (fun u s hG => ?_))|refine zp ?_|refine zyn ?_
   refine zyr ?_
   repeat' first|(refine zap rfl ?_;first|refine zdu rfl rfl ?_|refine zdk [0] hG (putG w0 p _ _) rfl rfl rfl zdj (fun u s hG => ?_))|refine zp ?_|refine zyn ?_
   refine zyr ?_
   repeat' first|(refine zap rfl ?_;first|refine zdu rfl rfl ?_|refine zdk [0] hG (dqMore w0 p _ _) rfl rfl rfl zdj (fun u s hG => ?_))|refine zp ?_|refine zyn ?_
   refine zyr ?_
   repeat' first|(refine zap rfl ?_;first|refine zdu rfl rfl ?_|refine zdk [0] hG (dqMore w0 p _ _) rfl rfl rfl zdj (fun u s hG => ?_))|refine zp ?_|refine zyn ?_
   refine zyr ?_
   repeat' (refine zap rfl ?_;refine zae 1 rfl rfl rfl rfl rfl rfl rfl ?_)
   all_goals refine zyn ?_
   exact zeg (dqPush_fin w0 p eb m R 0 s _ rfl hG)
 | false =>
   rw [hN, if_neg (by decide)] at hG
   rw [hN] at kn
   try simp only [Pg.pure_bind] at hG
   refine zyr ?_
   repeat' first|(refine zap rfl ?_;refine zbd rfl rfl (by omega) ?_)|refine zp ?_|refine zyn ?_
   refine zcj rfl ?_
   refine zyr ?_
   repeat' first|(refine zap rfl ?_;first|refine zbx rfl ?_|refine zah [] kn rfl rfl rfl zdj rfl ?_)|refine zp ?_|refine zyl 0 rfl ?_|refine zyn ?_
   refine zci rfl ?_
   refine zyr ?_
   repeat' (refine zap rfl ?_;refine zae 1 rfl rfl rfl rfl rfl rfl rfl ?_)
   all_goals refine zyn ?_
   exact zeg (dqPush_fin w0 p eb m R 24 s _ rfl hG)
theorem ctrFits (a n : Int) : FnE PP w0 [] 108 [.int .i64 a, .int .i64 n] [] (.bool (Ctr.fits a n)) [] := by
 unfold Ctr.fits
 by_cases h : n > 0
 · rw [if_pos h]
   refine zep en108 fn108 rfl rfl rfl ?_
   refine zyr ?_
   repeat' refine zp ?_
   all_goals refine zyn ?_
   refine zyr ?_
   repeat' first|(refine zap rfl ?_;refine zbk rfl rfl (by omega) ?_)|refine zp ?_|refine zyn ?_
   refine zci rfl ?_
   repeat' first|refine zck ?_|refine zyq ?_|(refine zap rfl ?_;first|refine zev (t := 2) rfl rfl ?_|refine zbr rfl rfl ?_)|refine zp ?_|refine zch ?_
   exact zej rfl ⟨rfl, rfl⟩
 · rw [if_neg h]
   refine zep en108 fn108 rfl rfl rfl ?_
   refine zyr ?_
   repeat' refine zp ?_
   all_goals refine zyn ?_
   refine zyr ?_
   repeat' first|(refine zap rfl ?_;refine zbl rfl rfl (by omega) ?_)|refine zp ?_|refine zyn ?_
   refine zcj rfl ?_
   repeat' first|refine zck ?_|refine zcm ?_|refine zyq ?_|(refine zap rfl ?_;first|refine zev (t := 2) rfl rfl ?_|refine zbt rfl rfl ?_)|refine zp ?_|refine zch ?_
   exact zej rfl ⟨rfl, rfl⟩
theorem ctrAdd (p : Nat) (r n : Int) : FnG w0 [] 44 [spP p, .int .i64 r, .int .i64 n] p (Ctr.add r n) encI2 := by
 intro s hS
 have hG := At.start hS
 generalize Pg.run _ s = R at hG ⊢
 unfold Ctr.add at hG
 refine zep en44 fn44 rfl rfl rfl ?_
 refine zyr ?_
 repeat' refine zp ?_
 all_goals refine zyn ?_
 refine zyr ?_
 repeat' first|(refine zap rfl ?_;refine zdk [0] hG (ctrGet w0 p r) rfl rfl rfl zdj (fun x s hG => ?_))|refine zp ?_|refine zyn ?_
 have hft := ctrFits w0 x n
 cases hf : Ctr.fits x n with
 | false =>
   rw [hf] at hft
   rw [hf, if_neg (by decide)] at hG
   rw [hG.done]
   repeat' first|refine zck ?_|refine zyq ?_|(refine zap rfl ?_;first|refine zbx rfl ?_|refine zah [] hft rfl rfl rfl zdj rfl ?_)|refine zp ?_|refine zch ?_|refine zci rfl ?_
   exact zei rfl ⟨rfl, rfl⟩
 | true =>
   rw [hf] at hft
   rw [hf, if_pos rfl] at hG
   repeat' first|refine zck ?_|refine zcm ?_|refine zyq ?_|(refine zap rfl ?_;first|refine zbx rfl ?_|refine zdu (t := 2) rfl rfl ?_|refine zah [] hft rfl rfl rfl zdj rfl ?_|refine zdk [0] hG (putG w0 p _ _) rfl rfl rfl zdj (fun u s hG => ?_))|refine zp ?_|refine zch ?_|refine zcj rfl ?_
   rw [hG.done]
   exact zei rfl ⟨rfl, rfl⟩
theorem zipL_succ {bs cs : List Int} {q : Nat} {b c : Int} (hb : bs[q]? = some b) (hc : cs[q]? = some c) : ((bs.take (q + 1)).zip (cs.take (q + 1))).reverse = (b, c) :: ((bs.take q).zip (cs.take q)).reverse := by
 have h1 := (List.getElem?_eq_some_iff.1 hb).1
 have h2 := (List.getElem?_eq_some_iff.1 hc).1
 rw [List.take_add_one, List.take_add_one, hb, hc, List.zip_append (by simp; omega)]
 simp
theorem trDrop1 (p : Nat) (s : Sp) (m : Nat) (e was : Int) (had : Bool) (eb sb mb xb yb : Nat) :
    FnD PP w0 [] 128 [.pointer (some ⟨eb, 0, none⟩), .pointer (some ⟨sb, 0, none⟩), .pointer (some ⟨mb, 0, none⟩), .pointer (some ⟨xb, 0, none⟩), .pointer (some ⟨yb, 0, none⟩)]
    [SpaceA p s, celT xb (.int .i64 was) 2, celT yb (.bool had) 4, celT eb (.int .i64 e) 39, celT mb (.int .i64 m) 3, celT sb (spP p) 24]
    fun v Γ' => v = .tuple #[] ∧ Γ' = [SpaceA p (if e ≠ 0 then s.back m else s), celT xb (.int .i64 (if e ≠ 0 then 0 else was)) 2, celT yb (.bool (if e ≠ 0 then false else had)) 4, celT eb (.int .i64 e) 39, celT mb (.int .i64 m) 3, celT sb (spP p) 24] := by
  refine fnD_of_run en128 fn128 rfl rfl rfl ?_
 
  repeat' first|refine zck ?_|refine zyq ?_|(refine zap rfl ?_;first|refine zab 3 rfl rfl rfl ?_|refine zbp rfl rfl ?_)|refine zch ?_
  refine zed rfl (fun hE => ?_) (fun hE => ?_)
  · repeat' first|refine zck ?_|refine zyq ?_|(refine zap rfl ?_;first|refine zab 4 rfl rfl rfl ?_|refine zab 5 rfl rfl rfl ?_|refine zah [0] (back_spec w0 p s m) rfl rfl rfl zdj rfl ?_|refine zae 1 rfl rfl rfl rfl rfl rfl rfl ?_|refine zae 2 rfl rfl rfl rfl rfl rfl rfl ?_)|refine zch ?_
    refine run_nil ⟨rfl, ends_none rfl ?_⟩
    rw [if_pos hE, if_pos hE, if_pos hE]; exact ⟨rfl, rfl⟩
  · repeat' first|refine zcm ?_|(refine zap rfl ?_;first|refine zaj rfl ?_|refine zak rfl ?_|refine zal rfl ?_|refine zam rfl rfl (fun _ => ?_) (fun _ => ?_))|refine zch ?_
    refine run_nil ⟨rfl, ends_none rfl ?_⟩
    rw [if_neg hE, if_neg hE, if_neg hE]; exact ⟨rfl, rfl⟩
def dropD (eb sb mb xb yb : Nat) : Deferred := { target := .fn (.func 128) (List.toArray [.pointer (some ⟨eb, 0, none⟩), .pointer (some ⟨sb, 0, none⟩), .pointer (some ⟨mb, 0, none⟩), .pointer (some ⟨xb, 0, none⟩), .pointer (some ⟨yb, 0, none⟩)]), args := #[] }
theorem drop_fin (p eb sb mb xb yb : Nat) (m : Nat) (R : ((Int × Bool) × Int) × Sp) (was : Int) (had : Bool) (e : Int) (s : Sp) (ρ : Env) (h6 : ρ 6 = .pointer (some ⟨xb, 0, none⟩)) (h7 : ρ 7 = .pointer (some ⟨yb, 0, none⟩)) (h8 : ρ 8 = .pointer (some ⟨eb, 0, none⟩)) (hG : At R (Tr.afterD m ((was, had), e)) s) :
   LeavesS PP w0 [] Tryz.f63 ρ [dropD eb sb mb xb yb] [SpaceA p s, celT xb (.int .i64 was) 2, celT yb (.bool had) 4, celT eb (.int .i64 e) 39, celT mb (.int .i64 m) 3, celT sb (spP p) 24] (fun v Γ => v = encPR R.1 ∧ Γ = [SpaceA p R.2]) := by
 refine leaves_defer1 [0, 0, 0, 0, 0, 0] (trDrop1 w0 p s m e was had eb sb mb xb yb) rfl rfl zdj ?_
 refine zek (zel [0] rfl (ends_three rfl (zeo 1 h6 rfl rfl) (zeo 2 h7 rfl rfl) (zeo 3 h8 rfl rfl) ?_))
 refine ⟨rfl, ?_⟩
 unfold Tr.afterD at hG
 by_cases hE : e ≠ 0
 · dsimp only at hG
   rw [if_pos hE] at hG
   rw [hG.step.2.done, if_pos hE, if_pos hE, if_pos hE]
   exact ⟨rfl, rfl⟩
 · dsimp only at hG
   rw [if_neg hE] at hG
   rw [hG.done, if_neg hE, if_neg hE, if_neg hE]
   exact ⟨rfl, rfl⟩
theorem trDrop (p : Nat) (T : Tr) (hT : T.Ok) (_ : T.IsI) (n : Int) : FnG w0 [] 63 [trV T, spP p, .int .i64 n] p (T.drop n (hsI n)) encPR := by
 have hH := hsI_in n
 have hsp := trHash w0 n
 intro s hS
 have hG := At.start hS
 generalize Pg.run _ s = R at hG ⊢
 generalize hsI n = H at hH hsp hG
 simp only [Tr.drop, Tr.dropIn, Tr.dropAt, Pg.bind_assoc, Pg.ite_bind, Pg.pure_bind] at hG
 refine zep en63 fn63 rfl rfl rfl ?_
 refine zyr ?_
 repeat' (refine zap rfl ?_;first|refine zaq (cs := [_]) rfl (fun nb => ?_)|refine zaq (cs := [_, _, _, _, _]) rfl (fun nb => ?_)|refine zar (fun nb => ?_))
 all_goals refine zyn ?_
 rename_i tb sb xb yb
 revert nb; intro eb
 refine zeb [1] rfl ?_
 refine run_share_keep [1] rfl ?_
 refine zyr ?_
 repeat' first|(refine zap rfl ?_;refine zey [] (trNum w0 n) rfl rfl rfl zdj rfl ?_)|refine zp ?_|refine zyl 1 rfl ?_|refine zyf rfl ?_|refine zyn ?_
 refine zyr ?_
 repeat' first|(refine zap rfl ?_;refine zbx rfl ?_)|refine zp ?_|refine zyn ?_
 refine zcj rfl ?_
 refine zyr ?_
 repeat' first|(refine zap rfl ?_;first|refine zdk [0] hG (markG w0 p) rfl rfl rfl zdj (fun m s hG => ?_)|refine zae 4 rfl rfl rfl rfl rfl rfl rfl ?_|refine zar (fun nb => ?_))|refine zyl 0 rfl ?_|refine zyn ?_
 revert nb; intro mb
 refine run_share_keep [4] rfl ?_
 refine zyr ?_
 repeat' first|(refine zap rfl ?_;refine zcd rfl rfl ?_)|refine zp ?_|refine zyn ?_
 refine zyr ?_
 repeat' first|(refine zap rfl ?_;first|refine zae 6 rfl rfl rfl rfl rfl rfl rfl ?_|refine zey [] hsp rfl rfl rfl zdj rfl ?_|(refine reg_callX [0] hG (T.all_down hT _) (trDown w0 p T hT _ hH.1) rfl rfl rfl zdj ?_; rintro ⟨w, ok⟩ s v' Γ1 hw hwr hG; obtain ⟨a1, c1, a2, c2, rfl, rfl⟩ := (show ∃ a1 c1 a2 c2, v' = .tuple #[wayV a1 c1 a2 c2 w, .bool ok] ∧ Γ1 = WayA a1 c1 a2 c2 w from hwr))|refine zar (fun nb => ?_))|refine zp ?_|refine zyl 1 rfl ?_|refine zyl 2 rfl ?_|refine zyf rfl ?_|refine zyn ?_
 dsimp only at hG hw
 revert nb; intro wb
 refine zec [0, 5, 2, 2, 2, 0, 0] rfl ?_
 refine zeb [1] rfl ?_
 cases ok with
 | false =>
   simp only [Bool.false_eq_true, if_false] at hG
   repeat' first|refine zck ?_|refine zyq ?_|(refine zap rfl ?_;first|refine zbx rfl ?_|refine zae 1 rfl rfl rfl rfl rfl rfl rfl ?_|refine zae 2 rfl rfl rfl rfl rfl rfl rfl ?_|refine zae 3 rfl rfl rfl rfl rfl rfl rfl ?_)|refine zp ?_|refine zch ?_|refine zci rfl ?_
   refine zec [0, 0, 0, 0] rfl ?_
   exact zeg (drop_fin w0 p eb sb mb xb yb m R 0 false 24 s _ rfl rfl rfl hG)
 | true =>
   simp only [if_true] at hG
   refine zyr ?_
   repeat' first|(refine zap rfl ?_;refine zbx rfl ?_)|refine zp ?_|refine zyn ?_
   refine zcj rfl ?_
   refine zyr ?_
   repeat' first|(refine zap rfl ?_; (refine zdl [0] hG (T.all_leaf w hw n) (trLeaf w0 p T hT w hw a1 c1 a2 c2 n) rfl rfl rfl zdj (fun l s hl hG => ?_)))|refine zp ?_|refine zyl 0 rfl ?_|refine zyl 2 rfl ?_|refine zyl 3 rfl ?_|refine zyn ?_
   obtain ⟨⟨c, a⟩, ok⟩ := l
   obtain ⟨hk1, hk2, hk3, hk4⟩ := id hl
   obtain ⟨hl1, hl2, hl3, hl4⟩ := hl
   dsimp only at hG hl1 hl2 hl3 hl4
   cases ok with
   | false =>
     simp only [Bool.false_eq_true, if_false] at hG
     repeat' first|refine zck ?_|refine zyq ?_|(refine zap rfl ?_;first|refine zbx rfl ?_|refine zae 1 rfl rfl rfl rfl rfl rfl rfl ?_|refine zae 2 rfl rfl rfl rfl rfl rfl rfl ?_|refine zae 3 rfl rfl rfl rfl rfl rfl rfl ?_)|refine zp ?_|refine zch ?_|refine zci rfl ?_
     refine zec [0, 0, 0, 0] rfl ?_
     exact zeg (drop_fin w0 p eb sb mb xb yb m R 0 false 24 s _ rfl rfl rfl hG)
   | true =>
     simp only [if_true] at hG
     refine zyr ?_
     repeat' first|(refine zap rfl ?_;refine zbx rfl ?_)|refine zp ?_|refine zyn ?_
     refine zcj rfl ?_
     by_cases ha : a = 0
     · rw [if_pos ha] at hG
       repeat' first|refine zck ?_|refine zcm ?_|refine zyq ?_|(refine zap rfl ?_;first|refine zbc rfl rfl (by omega) ?_|refine zae 1 rfl rfl rfl rfl rfl rfl rfl ?_|refine zae 2 rfl rfl rfl rfl rfl rfl rfl ?_|refine zae 3 rfl rfl rfl rfl rfl rfl rfl ?_)|refine zp ?_|refine zch ?_|refine zci rfl ?_
       refine zec [0, 0, 0, 0] rfl ?_
       exact zeg (drop_fin w0 p eb sb mb xb yb m R 0 false 0 s _ rfl rfl rfl hG)
     · rw [if_neg ha] at hG
       refine zyr ?_
       repeat' first|(refine zap rfl ?_;refine zbd rfl rfl (by omega) ?_)|refine zp ?_|refine zyn ?_
       refine zcj rfl ?_
       refine zyr ?_
       repeat' first|(refine zap rfl ?_;first|refine zdk [0] hG (getG w0 p _) rfl rfl rfl zdj (fun was s hG => ?_)|refine zau rfl rfl (by omega) ?_|refine zae 1 rfl rfl rfl rfl rfl rfl rfl ?_)|refine zp ?_|refine zyl 2 rfl ?_|refine zyn ?_
       refine zyr ?_
       repeat' first|(refine zap rfl ?_;first|refine zdk [0] hG (getG w0 p _) rfl rfl rfl zdj (fun x s hG => ?_)|refine zdk [0] hG (putG w0 p _ _) rfl rfl rfl zdj (fun u s hG => ?_)|refine zau rfl rfl (by omega) ?_)|refine zp ?_|refine zyl 2 rfl ?_|refine zyn ?_
       refine zyr ?_
       repeat' first|(refine zap rfl ?_;first|refine zdk [0] hG (trGive w0 p T hT _) rfl rfl rfl zdj (fun e s hG => ?_)|refine zae 3 rfl rfl rfl rfl rfl rfl rfl ?_)|refine zp ?_|refine zyl 2 rfl ?_|refine zyl 3 rfl ?_|refine zyn ?_
       refine zyr ?_
       repeat' (refine zap rfl ?_;first|refine zab 3 rfl rfl rfl ?_|refine zbp rfl rfl ?_)
       all_goals refine zyn ?_
       refine zed rfl (fun hE => ?_) (fun hE => ?_)
       · rw [if_pos hE] at hG
         refine zyx ?_
         refine run_drawT [3] [(.quiet, 0), (.loud, 1), (.loud, 2)] [(.loud, 3)] PP_mixed (by kernel_rfl) (by kernel_rfl) rfl ?_
         repeat' first|(refine zap rfl ?_;first|refine zae 1 rfl rfl rfl rfl rfl rfl rfl ?_|refine zae 2 rfl rfl rfl rfl rfl rfl rfl ?_)|refine zyl 0 rfl ?_
         all_goals refine reg_turn ?_
         all_goals repeat' (refine zap rfl ?_;first|refine zae 0 rfl rfl rfl rfl rfl rfl rfl ?_)
         all_goals refine zyn ?_
         refine zec [1, 1, 1, 0] rfl ?_
         exact zeg (drop_fin w0 p eb sb mb xb yb m R 0 false e s _ rfl rfl rfl hG)
       · rw [if_neg hE] at hG
         have he : e = 0 := by omega
         subst he
         refine run_slots [(3, .pointer (some ⟨tb, 0, none⟩)), (4, .pointer (some ⟨sb, 0, none⟩)), (6, .pointer (some ⟨xb, 0, none⟩)), (7, .pointer (some ⟨yb, 0, none⟩)), (8, .pointer (some ⟨eb, 0, none⟩)), (12, .pointer (some ⟨wb, 0, none⟩))] ⟨rfl, rfl, rfl, rfl, rfl, rfl, trivial⟩ (fun junk => ?_)
         refine zef 1 (celT xb (.int .i64 was) 2) rfl (fun _ h => h) rfl ?_
         refine zef 2 (celT yb (.bool false) 4) rfl (fun _ h => h) rfl ?_
         refine zef 3 (celT eb (.int .i64 0) 39) rfl (fun _ h => h) rfl ?_
         obtain ⟨hw1, hw2, hw3, hw4, hw5, hw6⟩ := id hw
         refine zyr ?_
         repeat' first|(refine zap rfl ?_;refine zdk [0] hG (trAdd w0 p T hT _ _ (by decide)) rfl rfl rfl zdj (fun u s hG => ?_))|refine zyl 2 rfl ?_|refine zyl 3 rfl ?_|refine zyn ?_
         refine zyr ?_
         repeat' first|(refine zap rfl ?_;first|refine zce rfl ?_|refine zav rfl rfl (by omega) ?_)|refine zp ?_|refine zyl 0 rfl ?_|refine zyf rfl ?_|refine zyn ?_
         have hL : (w.bs.zip w.cs).reverse = ((w.bs.take w.bs.length).zip (w.cs.take w.bs.length)).reverse := by rw [List.take_length, show w.bs.length = w.cs.length by omega, List.take_length]
         rw [hL] at hG
         refine run_loop (S := Nat × Sp) (fun st => [(3, .pointer (some ⟨tb, 0, none⟩)), (4, .pointer (some ⟨sb, 0, none⟩)), (6, .pointer (some ⟨xb, 0, none⟩)), (7, .pointer (some ⟨yb, 0, none⟩)), (8, .pointer (some ⟨eb, 0, none⟩)), (12, .pointer (some ⟨wb, 0, none⟩)), (15, .int .i64 ((st.1 : Int) - 1))])
           (fun st Γ => Γ = [SpaceA p st.2, celT xb (.int .i64 was) 2, celT yb (.bool false) 4, celT eb (.int .i64 0) 39, SlA 34 1 a1 w.bs.length c1 (intsV w.bs), SlA 34 1 a2 w.cs.length c2 (intsV w.cs)] ∧ At R (T.fold was ((w.bs.take st.1).zip (w.cs.take st.1)).reverse >>= fun r => Tr.afterD m r) st.2 ∧ st.1 ≤ w.bs.length)
           (fun st => st.1) (w.bs.length, s) ⟨rfl, rfl, rfl, rfl, rfl, rfl, rfl, trivial⟩ ⟨rfl, hG, Nat.le_refl _⟩ ?_
         rintro ⟨j, s⟩ Γ junk ⟨rfl, hG, hj⟩
         dsimp only at hG hj ⊢
         cases j with
         | zero =>
           simp only [List.take_zero, List.zip_nil_left, List.reverse_nil, Tr.fold, Pg.pure_bind] at hG
           refine zyr ?_
           repeat' first|(refine zap rfl ?_;refine zbn rfl rfl (by omega) ?_)|refine zp ?_|refine zyn ?_
           refine zcj rfl ?_
           refine zer rfl rfl ?_
           repeat' first|refine zck ?_|refine zyq ?_|(refine zap rfl ?_;first|refine zab 1 rfl rfl rfl ?_|refine zae 1 rfl rfl rfl rfl rfl rfl rfl ?_|refine zae 2 rfl rfl rfl rfl rfl rfl rfl ?_|refine zae 3 rfl rfl rfl rfl rfl rfl rfl ?_)|refine zch ?_
           refine zec [0, 0, 0, 0] rfl ?_
           exact zeg (drop_fin w0 p eb sb mb xb yb m R was true 0 s _ rfl rfl rfl hG)
         | succ q =>
           obtain ⟨bq, hbq⟩ : ∃ b, w.bs[q]? = some b := ⟨w.bs[q], List.getElem?_eq_getElem (by omega)⟩
           obtain ⟨cq, hcq⟩ : ∃ c, w.cs[q]? = some c := ⟨w.cs[q], List.getElem?_eq_getElem (by omega)⟩
           rw [zipL_succ hbq hcq] at hG
           simp only [Tr.fold, Pg.bind_assoc, Pg.ite_bind, Pg.pure_bind] at hG
           have hbr := hw6 bq (List.mem_of_getElem? hbq)
           refine run_sl_cases 4 rfl (fun h1 h2 h3 h4 => absurd h2 (by omega)) (fun ab e1 e2 e3 => ?_)
           subst e1
           refine run_sl_cases 5 rfl (fun h1 h2 h3 h4 => absurd h2 (by omega)) (fun cb e1 e2 e3 => ?_)
           subst e1
           have hrb : ∀ o, o = q → rd false 1 (intsV w.bs) o = some (.int .i64 bq) := fun o ho => rd_one (c := (intsV w.bs).toArray) (by simp [intsV, hbq]) o ho
           have hrc : ∀ o, o = q → rd false 1 (intsV w.cs) o = some (.int .i64 cq) := fun o ho => rd_one (c := (intsV w.cs).toArray) (by simp [intsV, hcq]) o ho
           refine zyr ?_
           repeat' first|(refine zap rfl ?_;refine zbm rfl rfl (by omega) ?_)|refine zp ?_|refine zyn ?_
           refine zci rfl ?_
           refine zyx ?_
           first|refine zcp (by kernel_rfl) ?_|refine zcr [(.read, 0), (.read, 1), (.quiet, 2), (.read, 3), (.quiet, 4), (.quiet, 5), (.read, 6), (.loud, 7), (.quiet, 8), (.quiet, 9), (.quiet, 10), (.quiet, 11), (.quiet, 12)] PP_mixed (by kernel_rfl) (by kernel_rfl) ?_|refine zeh PP_mixed (by kernel_rfl) (by kernel_rfl) ?_
           repeat' first|(refine zap rfl ?_;first|refine zag 4 rfl rfl (hrb _ (by omega)) (by decide) ?_|refine zdk [0] hG (trAlone w0 p T hT bq hbr) rfl rfl rfl zdj (fun o s hG => ?_)|refine zas rfl rfl (by omega) ?_)|refine zp ?_|refine zyl 0 rfl ?_|refine zyl 2 rfl ?_|refine zyl 3 rfl ?_|refine zyf rfl ?_|refine zyn ?_
           refine zyr ?_
           repeat' first|(refine zap rfl ?_;refine zbx rfl ?_)|refine zp ?_|refine zyn ?_
           refine zee rfl (fun hE2 => ?_) (fun hE2 => ?_)
           · have hE2 : o.2 = false := by simpa using hE2
             simp only [hE2, Bool.false_eq_true, if_false] at hG
             refine zer rfl rfl ?_
             repeat' first|refine zck ?_|refine zyq ?_|(refine zap rfl ?_;first|refine zab 1 rfl rfl rfl ?_|refine zae 1 rfl rfl rfl rfl rfl rfl rfl ?_|refine zae 2 rfl rfl rfl rfl rfl rfl rfl ?_|refine zae 3 rfl rfl rfl rfl rfl rfl rfl ?_)|refine zch ?_
             refine zec [0, 0, 0, 0] rfl ?_
             exact zeg (drop_fin w0 p eb sb mb xb yb m R was true 0 s _ rfl rfl rfl hG)
           · have hE2 : o.2 = true := by simpa using hE2
             simp only [hE2, if_true] at hG
             refine zyx ?_
             first|refine zcp (by kernel_rfl) ?_|refine zcr [(.read, 0), (.quiet, 1), (.read, 2), (.quiet, 3), (.quiet, 4), (.read, 5), (.quiet, 6), (.loud, 7)] PP_mixed (by kernel_rfl) (by kernel_rfl) ?_|refine zeh PP_mixed (by kernel_rfl) (by kernel_rfl) ?_
             repeat' first|(refine zap rfl ?_;first|refine zag 5 rfl rfl (hrc _ (by omega)) (by decide) ?_|refine zdk [0] hG (putG w0 p _ _) rfl rfl rfl zdj (fun u s hG => ?_)|refine zas rfl rfl (by omega) ?_)|refine zp ?_|refine zyl 0 rfl ?_|refine zyl 2 rfl ?_|refine zyf rfl ?_|refine zyn ?_
             first|refine zcp (by kernel_rfl) ?_|refine zcr [(.read, 0), (.read, 1), (.quiet, 2), (.read, 3), (.quiet, 4), (.quiet, 5), (.read, 6), (.loud, 7), (.loud, 8)] PP_mixed (by kernel_rfl) (by kernel_rfl) ?_|refine zeh PP_mixed (by kernel_rfl) (by kernel_rfl) ?_
             repeat' first|(refine zap rfl ?_;first|refine zag 4 rfl rfl (hrb _ (by omega)) (by decide) ?_|refine zdk [0] hG (trGive w0 p T hT _) rfl rfl rfl zdj (fun e s hG => ?_)|refine zae 3 rfl rfl rfl rfl rfl rfl rfl ?_|refine zas rfl rfl (by omega) ?_)|refine zp ?_|refine zyl 0 rfl ?_|refine zyl 2 rfl ?_|refine zyl 3 rfl ?_|refine zyf rfl ?_|refine zyn ?_
             refine zyr ?_
             repeat' (refine zap rfl ?_;first|refine zab 3 rfl rfl rfl ?_|refine zbp rfl rfl ?_)
             all_goals refine zyn ?_
             refine zed rfl (fun hE3 => ?_) (fun hE3 => ?_)
             · rw [if_pos hE3] at hG
               refine zyx ?_
               refine run_drawT [3] [(.quiet, 0), (.loud, 1), (.loud, 2)] [(.loud, 3)] PP_mixed (by kernel_rfl) (by kernel_rfl) rfl ?_
               repeat' first|(refine zap rfl ?_;first|refine zae 1 rfl rfl rfl rfl rfl rfl rfl ?_|refine zae 2 rfl rfl rfl rfl rfl rfl rfl ?_)|refine zyl 0 rfl ?_
               all_goals refine reg_turn ?_
               all_goals repeat' (refine zap rfl ?_;first|refine zae 0 rfl rfl rfl rfl rfl rfl rfl ?_)
               all_goals refine zyn ?_
               refine zec [1, 1, 1, 0] rfl ?_
               exact cut_ret (drop_fin w0 p eb sb mb xb yb m R 0 false e s _ rfl rfl rfl hG)
             · rw [if_neg hE3] at hG
               have he : e = 0 := by omega
               subst he
               repeat' first|refine zcm ?_|refine zcn ?_|refine zyq ?_|(refine zap rfl ?_;refine zav rfl rfl (by omega) ?_)|refine zp ?_|refine zch ?_
               exact zeq ⟨rfl, (q, s), ⟨rfl, rfl, rfl, rfl, rfl, rfl, zes (by dsimp only; omega), trivial⟩, ⟨rfl, hG, by dsimp only; omega⟩, Nat.lt_succ_self q⟩
end Go.Proofs.YtgdhcgnmffgkiaaGreatDoor
namespace Sim
open Go Go.Vc
open Pg
theorem Pg.all_mono {α : Type} {φ ψ : α → Prop} (h : ∀ a, φ a → ψ a) : ∀ {g : Pg α}, All φ g → All ψ g
 | ret a, hg => h a hg
 | get _ _, hg => fun v => all_mono h (hg v)
 | put _ _ k, hg => all_mono (g := k) h hg
 | mark _, hg => fun m => all_mono h (hg m)
 | back _ k, hg => all_mono (g := k) h hg
namespace Tr
variable (T : Tr)
end Tr
end Sim
namespace Go.Proofs.YtgdhcgnmffgkiaaGreatDoor
open Go.Vc Sim
set_option maxHeartbeats 4000000
end Go.Proofs.YtgdhcgnmffgkiaaGreatDoor
namespace Go.Proofs.YtgdhcgnmffgkiaaGreatDoor.SF
open Go.Vc
end Go.Proofs.YtgdhcgnmffgkiaaGreatDoor.SF
namespace Go.Proofs.YtgdhcgnmffgkiaaGreatDoor.SF
open Go.Vc
open Go.Sort (swp insInner insOuter insertionSort)
end Go.Proofs.YtgdhcgnmffgkiaaGreatDoor.SF
namespace Go.Proofs.YtgdhcgnmffgkiaaGreatDoor.SF
open Go.Vc
open Go.Sort (swp reverseLoop reverseRange siftDown heapBuild heapPop heapSort)
end Go.Proofs.YtgdhcgnmffgkiaaGreatDoor.SF
namespace Go.Proofs.YtgdhcgnmffgkiaaGreatDoor.SF
open Go.Vc
open Go.Sort (swp siftDown heapBuild heapPop heapSort)
end Go.Proofs.YtgdhcgnmffgkiaaGreatDoor.SF
namespace Go.Proofs.YtgdhcgnmffgkiaaGreatDoor.SF
open Go.Vc
open Go.Sort (swp scanUp scanDown partLoop partition partEqLoop partitionEqual)
set_option maxHeartbeats 4000000
end Go.Proofs.YtgdhcgnmffgkiaaGreatDoor.SF
namespace Go.Proofs.YtgdhcgnmffgkiaaGreatDoor.SF
open Go.Vc
open Go.Sort (swp scanUp scanDown partEqLoop partitionEqual)
set_option maxHeartbeats 4000000
end Go.Proofs.YtgdhcgnmffgkiaaGreatDoor.SF
namespace Go.Proofs.YtgdhcgnmffgkiaaGreatDoor.SF
open Go.Vc
open Go.Sort (swp scanSorted shiftDown shiftUp partialIns partialInsertionSort)
set_option maxHeartbeats 4000000
end Go.Proofs.YtgdhcgnmffgkiaaGreatDoor.SF
namespace Go.Proofs.YtgdhcgnmffgkiaaGreatDoor.SF
open Go.Vc
open Go.Sort (order2 median medianAdjacent choosePivot Hint)
end Go.Proofs.YtgdhcgnmffgkiaaGreatDoor.SF
namespace Go.Proofs.YtgdhcgnmffgkiaaGreatDoor.SF
open Go.Vc
open Go.Sort (order2 median medianAdjacent choosePivot Hint)
set_option maxHeartbeats 4000000
end Go.Proofs.YtgdhcgnmffgkiaaGreatDoor.SF
namespace Go.Proofs.YtgdhcgnmffgkiaaGreatDoor
open Go.Vc
end Go.Proofs.YtgdhcgnmffgkiaaGreatDoor
namespace Go.Proofs.YtgdhcgnmffgkiaaGreatDoor
open Go.Vc
open Go.Sort (ltInt swp insInner insOuter insertionSort)
end Go.Proofs.YtgdhcgnmffgkiaaGreatDoor
namespace Go.Proofs.YtgdhcgnmffgkiaaGreatDoor
open Go.Vc
open Go.Sort (ltInt swp reverseLoop reverseRange siftDown heapBuild heapPop heapSort)
end Go.Proofs.YtgdhcgnmffgkiaaGreatDoor
namespace Go.Proofs.YtgdhcgnmffgkiaaGreatDoor
open Go.Vc
open Go.Sort (ltInt swp siftDown heapBuild heapPop heapSort)
end Go.Proofs.YtgdhcgnmffgkiaaGreatDoor
namespace Go.Proofs.YtgdhcgnmffgkiaaGreatDoor
open Go.Vc
open Go.Sort (ltInt swp scanUp scanDown partLoop partition partEqLoop partitionEqual)
set_option maxHeartbeats 4000000
end Go.Proofs.YtgdhcgnmffgkiaaGreatDoor
namespace Go.Proofs.YtgdhcgnmffgkiaaGreatDoor
open Go.Vc
open Go.Sort (ltInt swp scanUp scanDown partEqLoop partitionEqual)
set_option maxHeartbeats 4000000
end Go.Proofs.YtgdhcgnmffgkiaaGreatDoor
namespace Go.Proofs.YtgdhcgnmffgkiaaGreatDoor
open Go.Vc
open Go.Sort (ltInt swp scanSorted shiftDown shiftUp partialIns partialInsertionSort)
set_option maxHeartbeats 4000000
end Go.Proofs.YtgdhcgnmffgkiaaGreatDoor
namespace Go.Proofs.YtgdhcgnmffgkiaaGreatDoor
open Go.Vc
open Go.Sort (ltInt order2 median medianAdjacent choosePivot Hint)
end Go.Proofs.YtgdhcgnmffgkiaaGreatDoor
namespace Go.Proofs.YtgdhcgnmffgkiaaGreatDoor
open Go.Vc
open Go.Sort (ltInt order2 median medianAdjacent choosePivot Hint)
set_option maxHeartbeats 4000000
end Go.Proofs.YtgdhcgnmffgkiaaGreatDoor
namespace Go.Proofs.YtgdhcgnmffgkiaaGreatDoor
open Go.Vc
open Go.Sort (bitsLen xorNextN)
section
variable {P : Program} {w0 : World} {n : Nat} {sh : Shared} {Q : Exit → Env → List Deferred → List Asn → Prop} {k : List Item} {ρ : Env} {df : List Deferred} {Γ : List Asn}
variable {ops : Array Oper} {l : List (Fl × Nat × Oper)} {b : Fl} {i d : Nat} {ty : TypeId} {pos : String} {aft : Array Edge}
end
end Go.Proofs.YtgdhcgnmffgkiaaGreatDoor
namespace Go.Proofs.YtgdhcgnmffgkiaaGreatDoor.SF
open Go.Vc
open Go.Sort (swp bitsLen xorNextN xorNext breakStep breakPatterns)
section
variable {P : Program} {w0 : World} {n : Nat} {sh : Shared} {Q : Exit → Env → List Deferred → List Asn → Prop} {k : List Item} {ρ : Env} {df : List Deferred} {Γ : List Asn}
variable {ops : Array Oper} {l : List (Fl × Nat × Oper)} {b : Fl} {i d : Nat} {ty : TypeId} {pos : String} {aft : Array Edge}
end
set_option maxHeartbeats 4000000
end Go.Proofs.YtgdhcgnmffgkiaaGreatDoor.SF
namespace Go.Proofs.YtgdhcgnmffgkiaaGreatDoor.SF
open Go.Vc
open Go.Sort (swp bitsLen Hint insertionSort heapSort breakPatterns choosePivot reverseRange partialInsertionSort partitionEqual partition pdq)
end Go.Proofs.YtgdhcgnmffgkiaaGreatDoor.SF
namespace Go.Proofs.YtgdhcgnmffgkiaaGreatDoor.SF
open Go.Vc
open Go.Sort (swp bitsLen Hint insertionSort heapSort breakPatterns choosePivot reverseRange partialInsertionSort partitionEqual partition pdq)
set_option maxHeartbeats 4000000
end Go.Proofs.YtgdhcgnmffgkiaaGreatDoor.SF
namespace Go.Proofs.YtgdhcgnmffgkiaaGreatDoor.SF
open Go.Vc
open Go.Sort (bitsLen pdq)
end Go.Proofs.YtgdhcgnmffgkiaaGreatDoor.SF
namespace Go.Proofs.YtgdhcgnmffgkiaaGreatDoor.SF
open Go.Vc
end Go.Proofs.YtgdhcgnmffgkiaaGreatDoor.SF
namespace Go.Proofs.YtgdhcgnmffgkiaaGreatDoor
variable (w0 : World)
open Go.Vc Sim
set_option maxHeartbeats 4000000
theorem trLen (p : Nat) (T : Tr) (hT : T.Ok) : FnG w0 [] 64 [trV T, spP p] p T.len (.int .i64) := by
 intro s hS
 have hG := At.start hS
 generalize Pg.run _ s = R at hG ⊢
 unfold Tr.len at hG
 have hr := hT.r1
 have hr0 := hT.r0
 refine zep en64 fn64 rfl rfl rfl ?_
 replace hG : At R (Pg.gt (w64 (T.root + 1)) >>= fun u => Pg.ret u) s := hG
 repeat' first|refine zck ?_|refine zyq ?_|(refine zap rfl ?_;first|refine zdw rfl rfl (by omega) ?_|refine zau rfl rfl (by omega) ?_|refine zdu rfl rfl ?_|refine zab 1 rfl rfl rfl ?_|refine zdk [0] hG (getG w0 p _) rfl rfl rfl zdj (fun u s hG => ?_)|refine zaq (cs := [_, _, _, _, _]) rfl (fun nb => ?_))|refine zp ?_|refine zyf rfl ?_|refine zch ?_
 rw [hG.done]
 refine zec [0] rfl ?_
 exact zej rfl ⟨rfl, rfl⟩
theorem heNode (p wb : Nat) (H : He) (hH : H.Ok) (b : Bool) (n : Int) : FnE PP w0 [] 280 [.pointer (some ⟨wb, 0, none⟩), .int .i64 n] [hwA wb p H b] (.int .i64 (H.nd n b).1) [hwA wb p H (H.nd n b).2] := by
 have kn := node_spec w0 H.pool hH.1 n
 unfold He.nd
 cases hN : H.pool.node n with
 | true =>
   rw [hN] at kn
   rw [if_pos rfl]
   refine zep en280 fn280 rfl rfl rfl ?_
   repeat' first|refine zck ?_|refine zcm ?_|refine zyq ?_|(refine zap rfl ?_;first|refine zbx rfl ?_|refine zab 0 rfl rfl rfl ?_|refine zah [] kn rfl rfl rfl zdj rfl ?_)|refine zp ?_|refine zyf rfl ?_|refine zch ?_|refine zcj rfl ?_
   exact zej rfl ⟨rfl, rfl⟩
 | false =>
   rw [hN] at kn
   rw [if_neg (by decide)]
   refine zep en280 fn280 rfl rfl rfl ?_
   repeat' first|refine zck ?_|refine zyq ?_|(refine zap rfl ?_;first|refine zbx rfl ?_|refine zab 0 rfl rfl rfl ?_|refine zah [] kn rfl rfl rfl zdj rfl ?_|refine zae 0 rfl rfl rfl rfl rfl rfl rfl ?_)|refine zp ?_|refine zyf rfl ?_|refine zch ?_|refine zci rfl ?_
   exact zej rfl ⟨rfl, rfl⟩
theorem heRow (p wb : Nat) (H : He) (hH : H.Ok) (b : Bool) (x : Int) (hx : 1 ≤ x ∧ x ≤ 100) : FnW w0 277 [.pointer (some ⟨wb, 0, none⟩), .int .i64 x] p wb H b (H.row x b) (fun a => .tuple #[.int .i64 a, .int .i64 ((x - 1) % 8)]) := by
 intro s hS; have hG := At.start hS; generalize Pg.run _ s = R at hG ⊢
 unfold He.row at hG
 refine zep en277 fn277 rfl rfl rfl ?_
 repeat' first|refine zck ?_|refine zyq ?_|(refine zap rfl ?_;first|refine zdn [0, 0] hG (heRoot w0 p wb H b _) rfl rfl rfl (fun v s hG => ?_)|refine zah [1] (heNode w0 p wb H hH b _) rfl rfl rfl zdj rfl ?_|refine zau rfl rfl (by omega) ?_|refine zav rfl rfl (by omega) ?_|refine zax rfl rfl (by omega) ?_|refine zay rfl rfl (by omega) ?_)|refine zp ?_|refine zch ?_
 rw [hG.done]
 refine zec [1, 0] rfl ?_
 exact zei rfl ⟨rfl, rfl⟩
theorem heItem (p wb : Nat) (H : He) (hH : H.Ok) (b : Bool) (x : Int) (hx : 1 ≤ x ∧ x ≤ 100) : FnW w0 157 [.pointer (some ⟨wb, 0, none⟩), .int .i64 x] p wb H b (H.item x b) (.int .i64) := by
 intro s hS; have hG := At.start hS; generalize Pg.run _ s = R at hG ⊢
 unfold He.item at hG
 refine zep en157 fn157 rfl rfl rfl ?_
 refine zyr ?_
 repeat' refine zp ?_
 all_goals refine zyn ?_
 refine zyr ?_
 repeat' first|(refine zap rfl ?_;refine zdp [0, 0] hG (heRow w0 p wb H hH b x hx) rfl rfl rfl (fun a c s hG => ?_))|refine zp ?_|refine zyn ?_
 dsimp only at hG
 by_cases ha : a = 0
 · rw [if_pos ha] at hG
   rw [hG.done]
   repeat' first|refine zck ?_|refine zyq ?_|(refine zap rfl ?_;refine zbc rfl rfl (by omega) ?_)|refine zp ?_|refine zch ?_|refine zci rfl ?_
   exact zej rfl ⟨rfl, rfl⟩
 · rw [if_neg ha] at hG
   repeat' first|refine zck ?_|refine zcm ?_|refine zyq ?_|(refine zap rfl ?_;first|refine zdn [0, 0] hG (heGet w0 p wb H c a _) rfl rfl rfl (fun v s hG => ?_)|refine zah [1] (heNode w0 p wb H hH c _) rfl rfl rfl zdj rfl ?_|refine zbd rfl rfl (by omega) ?_)|refine zp ?_|refine zch ?_|refine zcj rfl ?_
   rw [hG.done]
   refine zec [1, 0] rfl ?_
   exact zej rfl ⟨rfl, rfl⟩
theorem heLay (p wb : Nat) (H : He) (hH : H.Ok) (b : Bool) (x a : Int) (hx : 1 ≤ x ∧ x ≤ 100) : FnW w0 276 [.pointer (some ⟨wb, 0, none⟩), .int .i64 x, .int .i64 a] p wb H b (H.lay x a b) encU := by
 intro s hS; have hG := At.start hS; generalize Pg.run _ s = R at hG ⊢
 unfold He.lay at hG
 refine zep en276 fn276 rfl rfl rfl ?_
 refine zyr ?_
 repeat' first|(refine zap rfl ?_;refine zdp [0, 0] hG (heRow w0 p wb H hH b x hx) rfl rfl rfl (fun r c s hG => ?_))|refine zp ?_|refine zyn ?_
 dsimp only at hG
 repeat' first|refine zyq ?_|(refine zap rfl ?_;refine zdn [0, 0] hG (hePut w0 p wb H c _ _ _) rfl rfl rfl (fun v s hG => ?_))|refine zp ?_|refine zch ?_
 rw [hG.done]
 exact end_tmp0 rfl ⟨rfl, rfl⟩
theorem heRise (p wb : Nat) (H : He) (hH : H.Ok) (b : Bool) (x a : Int) (hx : 1 ≤ x ∧ x ≤ 100) : FnW w0 155 [.pointer (some ⟨wb, 0, none⟩), .int .i64 x, .int .i64 a] p wb H b (H.rise x a b) (.int .i64) := by
 intro s hS; have hG := At.start hS; generalize Pg.run _ s = R at hG ⊢
 unfold He.rise at hG
 refine zep en155 fn155 rfl rfl rfl ?_
 refine zyr ?_
 repeat' refine zp ?_
 all_goals refine zyn ?_
 refine zyr ?_
 repeat' first|(refine zap rfl ?_;first|refine zar (fun t7 => ?_)|refine zdn [0, 0] hG (heKey w0 p wb H b a) rfl rfl rfl (fun own s hG => ?_)|refine zae 2 rfl rfl rfl rfl rfl rfl rfl ?_)|refine zp ?_|refine zyn ?_
 refine zeb [2] rfl ?_
 repeat (first|refine zck ?_|refine zcl ?_|refine zcm ?_|refine zcn ?_|refine zco ?_)
 refine run_loop (S := Int × Bool × Nat × Sp) (fun v => [(0, .pointer (some ⟨wb, 0, none⟩)), (1, .int .i64 v.1), (2, .int .i64 a), (7, .pointer (some ⟨t7, 0, none⟩))])
   (fun v Γ => Γ = [SpaceA p v.2.2.2, hwA wb p H v.2.1] ∧ At R (H.riseK own a v.2.2.1 v.1 v.2.1) v.2.2.2 ∧ 1 ≤ v.1 ∧ v.1 ≤ 100 ∧ v.1 < 2 ^ v.2.2.1) (fun v => v.2.2.1) (x, b, 7, s) ⟨rfl, rfl, rfl, rfl, trivial⟩ ⟨rfl, hG, hx.1, hx.2, by dsimp only; omega⟩ ?_
 rintro ⟨y, c, k, s⟩ Γ junk ⟨rfl, hG, h1, h2, h3⟩
 dsimp only at hG h1 h2 h3 ⊢
 obtain ⟨j, rfl⟩ : ∃ j, k = j + 1 := by
   cases k with
   | zero => simp at h3; omega
   | succ j => exact ⟨j, rfl⟩
 rw [He.riseK] at hG
 by_cases hc : 1 < y ∧ c = false
 · rw [if_pos hc] at hG
   obtain ⟨hy1, rfl⟩ := hc
   refine zyr ?_
   repeat' first|(refine zap rfl ?_;first|refine zbx rfl ?_|refine zaj rfl ?_|refine zab 1 rfl rfl rfl ?_|refine zbk rfl rfl (by omega) ?_|refine zbu rfl ?_)|refine zp ?_|refine zyf rfl ?_|refine zyn ?_
   refine zci rfl ?_
   refine zyr ?_
   repeat' first|(refine zap rfl ?_;first|refine zdp [0, 0] hG (heItem w0 p wb H hH false (y / 2) (by omega)) rfl rfl rfl (fun u c s hG => ?_)|refine zax rfl rfl (by omega) ?_)|refine zp ?_|refine zyn ?_
   dsimp only at hG
   refine zyr ?_
   repeat' first|(refine zap rfl ?_;first|refine zbx rfl ?_|refine zdn [0, 0] hG (heKey w0 p wb H _ _) rfl rfl rfl (fun q s hG => ?_)|refine zah [] (heAhead w0 own q) rfl rfl rfl zdj rfl ?_)|refine zp ?_|refine zyl 0 rfl ?_|refine zyn ?_
   refine zee rfl (fun hE => ?_) (fun hE => ?_)
   · have hE : ahdB own q = false := by simpa using hE
     simp only [hE, Bool.false_eq_true, if_false] at hG
     refine zer rfl rfl ?_
     repeat' first|refine zck ?_|refine zyq ?_|(refine zap rfl ?_;refine zdp [0, 0] hG (heLay w0 p wb H hH c y a (by omega)) rfl rfl rfl (fun _ d s hG => ?_))|refine zp ?_|refine zch ?_
     rw [hG.done]
     exact zej rfl ⟨rfl, rfl⟩
   · have hE : ahdB own q = true := by simpa using hE
     simp only [hE, if_true] at hG
     repeat' first|refine zck ?_|refine zcm ?_|refine zcn ?_|refine zyq ?_|(refine zap rfl ?_;first|refine zdp [0, 0] hG (heLay w0 p wb H hH c y u (by omega)) rfl rfl rfl (fun _ d s hG => ?_)|refine zax rfl rfl (by omega) ?_)|refine zp ?_|refine zch ?_
     refine zeq ⟨rfl, (y / 2, d, j, s), ⟨rfl, rfl, rfl, rfl, trivial⟩, ⟨rfl, hG, by dsimp only; omega, by dsimp only; omega, ?_⟩, by dsimp only; omega⟩
     dsimp only
     rw [Int.pow_succ] at h3
     omega
 · rw [if_neg hc] at hG
   by_cases hy1 : 1 < y
   · have hct : c = true := by cases c with
       | true => rfl
       | false => exact absurd ⟨hy1, rfl⟩ hc
     subst hct
     refine zyr ?_
     repeat' first|(refine zap rfl ?_;first|refine zbx rfl ?_|refine zaj rfl ?_|refine zab 1 rfl rfl rfl ?_|refine zbk rfl rfl (by omega) ?_|refine zbu rfl ?_)|refine zp ?_|refine zyf rfl ?_|refine zyn ?_
     refine zcj rfl ?_
     refine zer rfl rfl ?_
     repeat' first|refine zck ?_|refine zyq ?_|(refine zap rfl ?_;refine zdp [0, 0] hG (heLay w0 p wb H hH true y a (by omega)) rfl rfl rfl (fun _ d s hG => ?_))|refine zp ?_|refine zch ?_
     rw [hG.done]
     exact zej rfl ⟨rfl, rfl⟩
   · repeat (first|refine zck ?_|refine zcl ?_|refine zcm ?_|refine zcn ?_)
     refine zyr ?_
     repeat' first|(refine zap rfl ?_;first|refine zak rfl ?_|refine zbl rfl rfl (by omega) ?_|refine zbv rfl ?_)|refine zp ?_|refine zyn ?_
     refine zcj rfl ?_
     refine zer rfl rfl ?_
     repeat' first|refine zck ?_|refine zyq ?_|(refine zap rfl ?_;refine zdp [0, 0] hG (heLay w0 p wb H hH c y a (by omega)) rfl rfl rfl (fun _ d s hG => ?_))|refine zp ?_|refine zch ?_
     rw [hG.done]
     exact zej rfl ⟨rfl, rfl⟩
end Go.Proofs.YtgdhcgnmffgkiaaGreatDoor
