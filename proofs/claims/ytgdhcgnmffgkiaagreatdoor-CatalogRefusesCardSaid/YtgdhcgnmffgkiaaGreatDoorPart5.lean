import Derived.Test.YtgdhcgnmffgkiaaGreatDoorPart4
import Derived.Test.YtgdhcgnmffgkiaaGreatDoorKit
import Derived.Test.YtgdhcgnmffgkiaaGreatDoorPart1
/- Own work: lemmas of this claim. -/
namespace Sim.Pg
theorem all_triv {α : Type} : ∀ (g : Pg α), All (fun _ => True) g
 | ret _ => trivial
 | get _ k => fun v => all_triv (k v)
 | put _ _ k => all_triv k
 | mark k => fun m => all_triv (k m)
 | back _ k => all_triv k
end Sim.Pg
namespace Go.Proofs.YtgdhcgnmffgkiaaGreatDoor
variable (w0 : World)
open Go.Vc Sim
set_option maxHeartbeats 4000000
theorem trSplit (p : Nat) (T : Tr) (hT : T.Ok) (hI : T.IsI) (w : TWay) (hw : w.depth ≤ 4) (a1 : Option Addr) (c1 : Nat) (a2 : Option Addr) (c2 : Nat) (h : Int) (hh : 0 ≤ h) :
   FnX w0 [] 125 [trV T, spP p, wayV a1 c1 a2 c2 w, .int .u64 h] p (T.split w h) [] (fun r v Γ => v = .tuple #[wayV a1 c1 a2 c2 r.1, .int .i64 r.2] ∧ Γ = []) := by
 intro s hS; have hG := At.start hS; generalize Pg.run _ s = R at hG ⊢
 unfold Tr.split at hG
 refine zep en125 fn125 rfl rfl rfl ?_
 refine zyr ?_
 repeat' first|(refine zap rfl ?_;first|refine zaq (cs := [_, _, _, _]) rfl (fun nb => ?_)|refine zaq (cs := [_, _, _, _, _]) rfl (fun nb => ?_)|refine zar (fun nb => ?_))|refine zp ?_|refine zyn ?_
 rename_i tb wb
 revert nb; intro rb
 refine zeb [1] rfl ?_
 refine run_loop (S := TWay × Sp) (fun st => [(1, spP p), (3, .int .u64 h), (4, .pointer (some ⟨tb, 0, none⟩)), (6, .pointer (some ⟨wb, 0, none⟩)), (8, .pointer (some ⟨rb, 0, none⟩))])
   (fun st Γ => Γ = [SpaceA p st.2, pt wb (.cells (List.toArray [.slice a1 w.bs.length c1, .slice a2 w.cs.length c2, .int .i64 st.1.cell, .int .i64 (st.1.depth : Int)]) 167 (0, 0)), pt rb (.cells (List.toArray [.slice none 0 0, .slice none 0 0, .int .i64 0, .int .i64 0]) 167 (0, 0))] ∧ At R (T.splitK h (4 - st.1.depth) st.1) st.2 ∧ st.1.depth ≤ 4 ∧ st.1.bs = w.bs ∧ st.1.cs = w.cs)
   (fun st => 4 - st.1.depth) (w, s) ⟨rfl, rfl, rfl, rfl, rfl, trivial⟩ ⟨rfl, hG, hw, rfl, rfl⟩ ?_
 rintro ⟨⟨bs, cs, cell, d⟩, s⟩ Γ junk ⟨rfl, hG, hd, rfl, rfl⟩
 dsimp only at hG hd ⊢
 by_cases h4 : d < 4
 · obtain ⟨k, hk⟩ : ∃ k, 4 - d = k + 1 := ⟨3 - d, by omega⟩
   rw [hk, Tr.splitK] at hG
   dsimp only at hG
   refine zyr ?_
   repeat' first|(refine zap rfl ?_;first|refine zaj rfl ?_|refine zab 1 rfl rfl rfl ?_|refine zdk [0] hG (getG w0 p _) rfl rfl rfl zdj (fun x s hG => ?_)|refine zbg rfl rfl (by omega) ?_|refine zbp rfl rfl ?_|refine zbu rfl ?_)|refine zp ?_|refine zyf rfl ?_|refine zyn ?_
   refine zed rfl (fun hx => ?_) (fun hx => ?_)
   · rw [if_neg hx] at hG
     refine zyr ?_
     repeat' first|(refine zap rfl ?_;first|refine zab 1 rfl rfl rfl ?_|refine zdk [0] hG (getG w0 p _) rfl rfl rfl zdj (fun v s hG => ?_))|refine zp ?_|refine zyf rfl ?_|refine zyn ?_
     refine zyr ?_
     repeat' first|(refine zap rfl ?_;refine zah [] (trNode w0 T hT _) rfl rfl rfl zdj rfl ?_)|refine zp ?_|refine zyl 0 rfl ?_|refine zyn ?_
     generalize hb : T.nodeB v = b at hG ⊢
     cases b with
     | false =>
       simp only [Bool.false_eq_true, if_false] at hG
       rw [hG.done]
       repeat' first|refine zck ?_|refine zyq ?_|(refine zap rfl ?_;first|refine zab 1 rfl rfl rfl ?_|refine zbx rfl ?_|refine zae 2 rfl rfl rfl rfl rfl rfl rfl ?_)|refine zp ?_|refine zch ?_|refine zci rfl ?_
       exact qret rfl (fun _ _ h => h) (zek (zel [0] rfl (zen rfl (zeo 2 rfl rfl rfl) rfl ⟨rfl, [], rfl, rfl, rfl⟩)))
     | true =>
       simp only [if_true] at hG
       refine zyr ?_
       repeat' first|(refine zap rfl ?_;refine zbx rfl ?_)|refine zp ?_|refine zyn ?_
       refine zcj rfl ?_
       refine zyr ?_
       repeat' first|(refine zap rfl ?_;first|refine reg_nilI rfl ?_|refine zdk [0] hG (getG w0 p _) rfl rfl rfl zdj (fun o s hG => ?_)|refine zey [] (trKey w0 _) rfl rfl rfl zdj rfl ?_)|refine zp ?_|refine zyl 0 rfl ?_|refine zyf rfl ?_|refine zyn ?_
       rw [if_pos (hI.has o)] at hG
       refine zyr ?_
       repeat' first|(refine zap rfl ?_;refine zbx rfl ?_)|refine zp ?_|refine zyn ?_
       refine zcj rfl ?_
       refine zyr ?_
       repeat' first|(refine zap rfl ?_;first|refine reg_makeSlice rfl rfl rfl (by decide) (by decide) (fun lb => ?_)|(refine reg_callX [0, 2] hG (Pg.all_triv _) (trTake w0 p _ T hT (List.replicate 8 0) (by decide)) rfl rfl rfl zdj ?_; rintro b s v' Γ1 _ ⟨rfl, rfl⟩ hG))|refine zp ?_|refine zyl 0 rfl ?_|refine zyn ?_
       refine zyr ?_
       repeat' first|(refine zap rfl ?_;refine zbp rfl rfl ?_)|refine zp ?_|refine zyn ?_
       refine zed rfl (fun hE => ?_) (fun hE => ?_)
       · rw [if_pos hE] at hG
         rw [hG.done]
         repeat' first|refine zck ?_|refine zyq ?_|(refine zap rfl ?_;first|refine zab 1 rfl rfl rfl ?_|refine zae 2 rfl rfl rfl rfl rfl rfl rfl ?_)|refine zp ?_|refine zch ?_
         exact qret rfl (fun _ _ h => h) (zek (zel [0] rfl (zen rfl (zeo 2 rfl rfl rfl) rfl ⟨rfl, [], rfl, rfl, rfl⟩)))
       · rw [if_neg hE] at hG
         have ho := hT.h0 o
         have hsp : FnE PP w0 [] 302 [.agg #[], .int .i64 o] [] (.int .u64 (T.hash o)) [] := by rw [hI.hash]; exact trHash w0 o
         refine zyx ?_
         refine run_drawT [1] [(.quiet, 0), (.quiet, 1), (.quiet, 2), (.quiet, 3), (.quiet, 4), (.loud, 5), (.quiet, 6), (.quiet, 7), (.quiet, 8), (.quiet, 9), (.quiet, 10), (.quiet, 11), (.quiet, 12), (.quiet, 13)] [(.loud, 14)] PP_mixed (by kernel_rfl) (by kernel_rfl) rfl ?_
         repeat' first|(refine zap rfl ?_;first|refine reg_shr (q := 3 * d) rfl (zes (by omega)) (by show 3 * d ≤ 64; omega) ?_|refine reg_dig (q := d) ho rfl rfl ?_|refine zbz rfl (by have := dig_bd8 (T.hash o) d; omega) ?_|refine zdu (t := 34) rfl rfl ?_|refine zey [] hsp rfl rfl rfl zdj rfl ?_|refine zaw rfl rfl (by omega) ?_)|refine zp ?_|refine zyl 0 rfl ?_|refine zyl 1 rfl ?_|refine zyf rfl ?_
         all_goals refine reg_turn ?_
         all_goals repeat' (refine zap rfl ?_;first|refine zdk [1] hG (putG w0 p _ _) rfl rfl rfl zdj (fun u s hG => ?_))
         all_goals refine zyn ?_
         repeat' first|refine zck ?_|refine zcn ?_|refine zyq ?_|(refine zap rfl ?_;first|refine reg_neg rfl ?_|refine reg_shr (q := 3 * d) rfl (zes (by omega)) (by show 3 * d ≤ 64; omega) ?_|refine reg_dig (q := d) hh rfl rfl ?_|refine zbz rfl (by have := dig_bd8 h d; omega) ?_|refine zdu (t := 34) rfl rfl ?_|refine zab 1 rfl rfl rfl ?_|refine zdk [0] hG (putG w0 p _ _) rfl rfl rfl zdj (fun u s hG => ?_)|refine zau rfl rfl (by omega) ?_|refine zaw rfl rfl (by omega) ?_|refine zae 1 rfl rfl rfl rfl rfl rfl rfl ?_)|refine zp ?_|refine zyf rfl ?_|refine zch ?_
         have e3 : ((d + 1 : Nat) : Int) = (d : Int) + 1 := by omega
         refine zeq ?_
         refine ⟨rfl, ?_⟩
         refine ⟨(⟨w.bs, w.cs, w64 (b.1 + dig h d), d + 1⟩, s), ?_⟩
         refine ⟨⟨rfl, rfl, rfl, rfl, rfl, trivial⟩, ⟨?_, ?_, h4, rfl, rfl⟩, ?_⟩
         · exact Eq.trans (b := [SpaceA p s, pt wb (.cells (List.toArray [.slice a1 w.bs.length c1, .slice a2 w.cs.length c2, .int .i64 (w64 (b.1 + dig h d)), .int .i64 ((d : Int) + 1)]) 167 (0, 0)), pt rb (.cells (List.toArray [.slice none 0 0, .slice none 0 0, .int .i64 0, .int .i64 0]) 167 (0, 0))]) rfl (by rw [← e3])
         · dsimp only; rw [show 4 - (d + 1) = k by omega]; exact hG
         · dsimp only; omega
   · have hx0 : x = 0 := by simpa using hx
     rw [if_pos hx0] at hG
     rw [hG.done]
     refine zer rfl rfl ?_
     repeat' first|refine zck ?_|refine zyq ?_|(refine zap rfl ?_;first|refine zab 1 rfl rfl rfl ?_|refine zae 2 rfl rfl rfl rfl rfl rfl rfl ?_)|refine zp ?_|refine zch ?_
     exact zeg (zek (zel [0] rfl (zen rfl (zeo 2 rfl rfl rfl) rfl ⟨rfl, [], rfl, rfl, rfl⟩)))
 · have hk : 4 - d = 0 := by omega
   rw [hk, Tr.splitK] at hG
   rw [hG.done]
   refine zyr ?_
   repeat' first|(refine zap rfl ?_;first|refine zak rfl ?_|refine zab 1 rfl rfl rfl ?_|refine zbh rfl rfl (by omega) ?_|refine zbv rfl ?_)|refine zp ?_|refine zyf rfl ?_|refine zyn ?_
   refine zcj rfl ?_
   refine zer rfl rfl ?_
   repeat' first|refine zck ?_|refine zyq ?_|(refine zap rfl ?_;first|refine zab 1 rfl rfl rfl ?_|refine zae 2 rfl rfl rfl rfl rfl rfl rfl ?_)|refine zp ?_|refine zch ?_
   exact zeg (zek (zel [0] rfl (zen rfl (zeo 2 rfl rfl rfl) rfl ⟨rfl, [], rfl, rfl, rfl⟩)))
abbrev celT (b : Nat) (v : Value) (T : TypeId) : Asn := pt b (.cells (List.toArray [v]) T (0, 0))
theorem trPut1 (p : Nat) (s : Sp) (m : Nat) (e : Int) (eb sb mb : Nat) :
    FnD PP w0 [] 121 [.pointer (some ⟨eb, 0, none⟩), .pointer (some ⟨sb, 0, none⟩), .pointer (some ⟨mb, 0, none⟩)]
    [SpaceA p s, celT eb (.int .i64 e) 39, celT mb (.int .i64 m) 3, celT sb (spP p) 24]
    fun v Γ' => v = .tuple #[] ∧ Γ' = [SpaceA p (if e ≠ 0 then s.back m else s), celT eb (.int .i64 e) 39, celT mb (.int .i64 m) 3, celT sb (spP p) 24] := by
  refine fnD_of_run en121 fn121 rfl rfl rfl ?_
 
  repeat' first|refine zck ?_|refine zyq ?_|(refine zap rfl ?_;first|refine zab 1 rfl rfl rfl ?_|refine zbp rfl rfl ?_)|refine zch ?_
  refine zed rfl (fun hE => ?_) (fun hE => ?_)
  · repeat' first|refine zyq ?_|(refine zap rfl ?_;first|refine zab 2 rfl rfl rfl ?_|refine zab 3 rfl rfl rfl ?_|refine zah [0] (back_spec w0 p s m) rfl rfl rfl zdj rfl ?_)|refine zch ?_
    refine run_nil ⟨rfl, ends_none rfl ?_⟩
    rw [if_pos hE]; exact ⟨rfl, rfl⟩
  · repeat' first|refine zcm ?_|(refine zap rfl ?_;first|refine zaj rfl ?_|refine zak rfl ?_|refine zal rfl ?_|refine zam rfl rfl (fun _ => ?_) (fun _ => ?_))|refine zch ?_
    refine run_nil ⟨rfl, ends_none rfl ?_⟩
    rw [if_neg hE]; exact ⟨rfl, rfl⟩
def putD (eb sb mb : Nat) : Deferred := { target := .fn (.func 121) (List.toArray [.pointer (some ⟨eb, 0, none⟩), .pointer (some ⟨sb, 0, none⟩), .pointer (some ⟨mb, 0, none⟩)]), args := #[] }
def encPR (r : (Int × Bool) × Int) : Value := .tuple #[.int .i64 r.1.1, .bool r.1.2, .int .i64 r.2]
theorem put_fin (p eb sb mb : Nat) (m : Nat) (R : ((Int × Bool) × Int) × Sp) (was : Int) (had : Bool) (e : Int) (s : Sp) (ρ : Env) (h8 : ρ 8 = .int .i64 was) (h9 : ρ 9 = .bool had) (h10 : ρ 10 = .pointer (some ⟨eb, 0, none⟩)) (hG : At R (Tr.afterP m ((was, had), e)) s) :
   LeavesS PP w0 [] Tryz.f58 ρ [putD eb sb mb] [SpaceA p s, celT eb (.int .i64 e) 39, celT mb (.int .i64 m) 3, celT sb (spP p) 24] (fun v Γ => v = encPR R.1 ∧ Γ = [SpaceA p R.2]) := by
 refine leaves_defer1 [0, 0, 0, 0] (trPut1 w0 p s m e eb sb mb) rfl rfl zdj ?_
 refine zek (zel [0] rfl (ends_three rfl h8 h9 (zeo 1 h10 rfl rfl) ?_))
 refine ⟨rfl, ?_⟩
 unfold Tr.afterP at hG
 by_cases hE : e ≠ 0
 · dsimp only at hG
   rw [if_pos hE] at hG
   rw [hG.step.2.done, if_pos hE]
   exact ⟨rfl, rfl⟩
 · dsimp only at hG
   rw [if_neg hE] at hG
   rw [hG.done, if_neg hE]
   exact ⟨rfl, rfl⟩
theorem trPut (p : Nat) (T : Tr) (hT : T.Ok) (hI : T.IsI) (n v : Int) : FnG w0 [] 58 [trV T, spP p, .int .i64 n, .int .i64 v] p (T.put n (hsI n) v) encPR := by
 have hH := hsI_in n
 have hsp := trHash w0 n
 intro s hS
 have hG := At.start hS
 generalize Pg.run _ s = R at hG ⊢
 generalize hsI n = H at hH hsp hG
 simp only [Tr.put, Tr.putIn, Tr.newIn, Pg.bind_assoc, Pg.ite_bind, Pg.pure_bind] at hG
 refine zep en58 fn58 rfl rfl rfl ?_
 refine zyr ?_
 repeat' first|(refine zap rfl ?_;first|refine zaq (cs := [_]) rfl (fun nb => ?_)|refine zaq (cs := [_, _, _, _, _]) rfl (fun nb => ?_)|refine zar (fun nb => ?_))|refine zp ?_|refine zyn ?_
 rename_i tb sb
 revert nb; intro eb
 refine zeb [1] rfl ?_
 refine run_share_keep [1] rfl ?_
 refine zyr ?_
 repeat' first|(refine zap rfl ?_;refine zey [] (trNum w0 n) rfl rfl rfl zdj rfl ?_)|refine zp ?_|refine zyl 1 rfl ?_|refine zyf rfl ?_|refine zyn ?_
 refine zyr ?_
 repeat' first|(refine zap rfl ?_;refine zbx rfl ?_)|refine zp ?_|refine zyn ?_
 refine zcj rfl ?_
 refine zyr ?_
 repeat' first|(refine zap rfl ?_;first|refine zdk [0] hG (markG w0 p) rfl rfl rfl zdj (fun m s hG => ?_)|refine zae 2 rfl rfl rfl rfl rfl rfl rfl ?_|refine zar (fun nb => ?_))|refine zyl 0 rfl ?_|refine zyn ?_
 revert nb; intro mb
 refine run_share_keep [2] rfl ?_
 refine zyr ?_
 repeat' first|(refine zap rfl ?_;refine zcd rfl rfl ?_)|refine zp ?_|refine zyn ?_
 refine zyr ?_
 repeat' first|(refine zap rfl ?_;refine zey [] hsp rfl rfl rfl zdj rfl ?_)|refine zp ?_|refine zyl 2 rfl ?_|refine zyf rfl ?_|refine zyn ?_
 refine zyr ?_
 repeat' first|(refine zap rfl ?_;first|(refine reg_callX [0] hG (T.all_down hT _) (trDown w0 p T hT _ hH.1) rfl rfl rfl zdj ?_; rintro w s v' Γ1 hw ⟨a1, c1, a2, c2, rfl, rfl⟩ hG)|refine zae 4 rfl rfl rfl rfl rfl rfl rfl ?_|refine zar (fun nb => ?_))|refine zp ?_|refine zyl 1 rfl ?_|refine zyl 2 rfl ?_|refine zyn ?_
 obtain ⟨w, ok⟩ := w
 dsimp only at hG hw
 refine zec [0, 2, 2] rfl ?_
 cases ok with
 | false =>
   simp only [Bool.false_eq_true, if_false] at hG
   repeat' first|refine zck ?_|refine zyq ?_|(refine zap rfl ?_;first|refine zbx rfl ?_|refine zae 1 rfl rfl rfl rfl rfl rfl rfl ?_)|refine zp ?_|refine zch ?_|refine zci rfl ?_
   refine zec [0, 0] rfl ?_
   exact zeg (put_fin w0 p eb sb mb m R 0 false 24 s _ rfl rfl rfl hG)
 | true =>
   simp only [if_true] at hG
   refine zyr ?_
   repeat' first|(refine zap rfl ?_;refine zbx rfl ?_)|refine zp ?_|refine zyn ?_
   refine zcj rfl ?_
   refine zyr ?_
   repeat' first|(refine zap rfl ?_;first|refine zab 2 rfl rfl rfl ?_|(refine zdl [0] hG (T.all_leaf w hw n) (trLeaf w0 p T hT w hw a1 c1 a2 c2 n) rfl rfl rfl zdj (fun l s hl hG => ?_)))|refine zp ?_|refine zyl 1 rfl ?_|refine zyl 2 rfl ?_|refine zyn ?_
   obtain ⟨⟨c, a⟩, ok⟩ := l
   obtain ⟨hk1, hk2, hk3, hk4⟩ := id hl
   obtain ⟨hl1, hl2, hl3, hl4⟩ := hl
   dsimp only at hG hl1 hl2 hl3 hl4
   cases ok with
   | false =>
     simp only [Bool.false_eq_true, if_false] at hG
     repeat' first|refine zck ?_|refine zyq ?_|(refine zap rfl ?_;first|refine zbx rfl ?_|refine zae 1 rfl rfl rfl rfl rfl rfl rfl ?_)|refine zp ?_|refine zch ?_|refine zci rfl ?_
     refine zec [0, 0] rfl ?_
     exact zeg (put_fin w0 p eb sb mb m R 0 false 24 s _ rfl rfl rfl hG)
   | true =>
     simp only [if_true] at hG
     refine zyr ?_
     repeat' first|(refine zap rfl ?_;refine zbx rfl ?_)|refine zp ?_|refine zyn ?_
     refine zcj rfl ?_
     by_cases ha : a = 0
     · rw [if_pos ha] at hG
       refine zyr ?_
       repeat' first|(refine zap rfl ?_;refine zbf rfl rfl (by omega) ?_)|refine zp ?_|refine zyn ?_
       refine zcj rfl ?_
       refine zyr ?_
       repeat' first|(refine zap rfl ?_;first|refine zab 2 rfl rfl rfl ?_|(refine reg_callX [0] hG (Pg.all_triv _) (trSplit w0 p T hT hI w hw.2.2.1 a1 c1 a2 c2 H hH.1) rfl rfl rfl zdj ?_; rintro ⟨w2, e2⟩ s v' Γ1 _ ⟨rfl, rfl⟩ hG)|refine zae 1 rfl rfl rfl rfl rfl rfl rfl ?_|refine zae 2 rfl rfl rfl rfl rfl rfl rfl ?_)|refine zp ?_|refine zyl 1 rfl ?_|refine zyl 2 rfl ?_|refine zyn ?_
       dsimp only at hG
       refine zyr ?_
       repeat' (refine zap rfl ?_;first|refine zab 1 rfl rfl rfl ?_|refine zbp rfl rfl ?_)
       all_goals refine zyn ?_
       refine zed rfl (fun hE => ?_) (fun hE => ?_)
       · rw [if_pos hE] at hG
         refine zyx ?_
         first|refine zcp (by kernel_rfl) ?_|refine zcr [(.read, 0), (.quiet, 1), (.quiet, 2), (.loud, 3)] PP_mixed (by kernel_rfl) (by kernel_rfl) ?_|refine zeh PP_mixed (by kernel_rfl) (by kernel_rfl) ?_
         repeat' first|(refine zap rfl ?_;first|refine zab 1 rfl rfl rfl ?_|refine zae 1 rfl rfl rfl rfl rfl rfl rfl ?_)|refine zp ?_|refine zyn ?_
         refine zec [0, 0] rfl ?_
         exact zeg (put_fin w0 p eb sb mb m R 0 false e2 s _ rfl rfl rfl hG)
       · rw [if_neg hE] at hG
         refine zyx ?_
         first|refine zcp (by kernel_rfl) ?_|refine zcr [(.quiet, 0), (.quiet, 1), (.quiet, 2), (.quiet, 3), (.read, 4), (.quiet, 5), (.read, 6), (.loud, 7), (.loud, 8), (.loud, 9), (.quiet, 10), (.quiet, 11), (.quiet, 12), (.quiet, 13), (.loud, 14)] PP_mixed (by kernel_rfl) (by kernel_rfl) ?_|refine zeh PP_mixed (by kernel_rfl) (by kernel_rfl) ?_
         repeat' first|(refine zap rfl ?_;first|refine zdt rfl rfl rfl rfl rfl rfl (fun lb => ?_)|refine zab 2 rfl rfl rfl ?_|refine zdk [0] hG (getG w0 p _) rfl rfl rfl zdj (fun x s hG => ?_)|(refine reg_callX [0, 2] hG (Pg.all_triv _) (trTake w0 p _ T hT [n, v, x] (Nat.le_of_ble_eq_true rfl)) rfl rfl rfl zdj ?_; rintro b s v' Γ1 _ ⟨rfl, rfl⟩ hG)|refine zae 1 rfl rfl rfl rfl rfl rfl rfl ?_)|refine zp ?_|refine zyl 1 rfl ?_|refine zyl 2 rfl ?_|refine zyf rfl ?_|refine zyn ?_
         refine zyr ?_
         repeat' (refine zap rfl ?_;first|refine zab 1 rfl rfl rfl ?_|refine zbp rfl rfl ?_)
         all_goals refine zyn ?_
         refine zed rfl (fun hE => ?_) (fun hE => ?_)
         · rw [if_pos hE] at hG
           refine zyx ?_
           first|refine zcp (by kernel_rfl) ?_|refine zcr [(.read, 0), (.quiet, 1), (.quiet, 2), (.loud, 3)] PP_mixed (by kernel_rfl) (by kernel_rfl) ?_|refine zeh PP_mixed (by kernel_rfl) (by kernel_rfl) ?_
           repeat' first|(refine zap rfl ?_;first|refine zab 1 rfl rfl rfl ?_|refine zae 1 rfl rfl rfl rfl rfl rfl rfl ?_)|refine zp ?_|refine zyn ?_
           refine zec [0, 0] rfl ?_
           exact zeg (put_fin w0 p eb sb mb m R 0 false b.2 s _ rfl rfl rfl hG)
         · rw [if_neg hE] at hG
           repeat' first|refine zck ?_|refine zcm ?_|refine zyq ?_|(refine zap rfl ?_;first|refine zab 2 rfl rfl rfl ?_|refine zdk [0] hG (putG w0 p _ _) rfl rfl rfl zdj (fun u s hG => ?_)|refine zdk [0] hG (trAdd w0 p T hT _ _ (by decide)) rfl rfl rfl zdj (fun u s hG => ?_)|refine zae 1 rfl rfl rfl rfl rfl rfl rfl ?_)|refine zp ?_|refine zyl 1 rfl ?_|refine zyl 2 rfl ?_|refine zyf rfl ?_|refine zch ?_
           refine zec [0, 0] rfl ?_
           exact zeg (put_fin w0 p eb sb mb m R 0 false 0 s _ rfl rfl rfl hG)
     · rw [if_neg ha] at hG
       repeat' first|refine zck ?_|refine zcm ?_|refine zyq ?_|(refine zap rfl ?_;first|refine zdk [0] hG (getG w0 p _) rfl rfl rfl zdj (fun x s hG => ?_)|refine zdk [0] hG (putG w0 p _ _) rfl rfl rfl zdj (fun u s hG => ?_)|refine zbe rfl rfl (by omega) ?_|refine zau rfl rfl (by omega) ?_|refine zae 1 rfl rfl rfl rfl rfl rfl rfl ?_)|refine zp ?_|refine zyl 1 rfl ?_|refine zch ?_|refine zci rfl ?_
       refine zec [0, 0] rfl ?_
       exact zeg (put_fin w0 p eb sb mb m R x true 0 s _ rfl rfl rfl hG)
end Go.Proofs.YtgdhcgnmffgkiaaGreatDoor
namespace Sim
open Go Go.Vc
def bs (l : List UInt8) : ByteArray := ⟨l.toArray⟩
def kwL : List ByteArray := [bs [97, 98, 111, 114, 116], bs [97, 110, 100], bs [101, 108, 115, 101], bs [102, 97, 108, 115, 101], bs [104, 111, 115, 116], bs [105, 102], bs [108, 101, 116], bs [110, 111, 116], bs [111, 112], bs [111, 114], bs [114, 101, 112, 101, 97, 116], bs [114, 101, 116, 117, 114, 110], bs [115, 116, 111, 114, 101], bs [116, 114, 117, 101]]
structure RuleT where
 num : Bool
 name : Bool
 meth : Bool
 sign : Bool
 or : Bool
 top : Int
 least : Int
 most : Int
structure PO where
 name : ByteArray
 params : List ByteArray
 body : List PS
structure PP' where
 stores : List (ByteArray × ByteArray)
 opers : List PO
end Sim
namespace Go.Vc
open Sim
abbrev encD (d : ByteArray × ByteArray) : List Value := [.string d.1, .string d.2]
def RdO (w0 : World) (sh : Shared) (o : PO) (cs : List Value) : Prop := ∃ vp vb, cs = [.string o.name, vp, vb] ∧ RdSl w0 sh encY 1 vp o.params ∧ RdSt w0 sh vb o.body
def RdOs (w0 : World) (sh : Shared) : List PO → List (List Value) → Prop
 | [], cl => cl = []
 | o :: l, cl => ∃ c cl', cl = c :: cl' ∧ RdO w0 sh o c ∧ RdOs w0 sh l cl'
def RdOl (w0 : World) (sh : Shared) (v : Value) (l : List PO) : Prop := ∃ cl, RdC w0 sh 3 v cl ∧ RdOs w0 sh l cl
def RdP (w0 : World) (sh : Shared) (v : Value) (p : PP') : Prop := ∃ vs vo, v = .agg #[vs, vo] ∧ RdSl w0 sh encD 2 vs p.stores ∧ RdOl w0 sh vo p.opers
section
variable {w0 : World} {sh sh' : Shared}
theorem RdO.mono {o : PO} {cs : List Value} (h : RdO w0 sh o cs) (hs : ∀ p ∈ sh, p ∈ sh') : RdO w0 sh' o cs := let ⟨vp, vb, h1, h2, h3⟩ := h; ⟨vp, vb, h1, h2.mono hs, h3.mono hs⟩
theorem RdOs.mono (hs : ∀ p ∈ sh, p ∈ sh') : ∀ {l : List PO} {cl : List (List Value)}, RdOs w0 sh l cl → RdOs w0 sh' l cl
 | [], _, h => h
 | _ :: _, _, h => let ⟨c, cl', h1, h2, h3⟩ := h; ⟨c, cl', h1, h2.mono hs, RdOs.mono hs h3⟩
theorem RdOl.mono {v : Value} {l : List PO} (h : RdOl w0 sh v l) (hs : ∀ p ∈ sh, p ∈ sh') : RdOl w0 sh' v l := let ⟨cl, h1, h2⟩ := h; ⟨cl, h1.mono hs, h2.mono hs⟩
theorem RdP.mono {v : Value} {p : PP'} (h : RdP w0 sh v p) (hs : ∀ p ∈ sh, p ∈ sh') : RdP w0 sh' v p := let ⟨vs, vo, h1, h2, h3⟩ := h; ⟨vs, vo, h1, h2.mono hs, h3.mono hs⟩
theorem RdOs.len : ∀ {l : List PO} {cl : List (List Value)}, RdOs w0 sh l cl → cl.length = l.length
 | [], _, h => by rw [show _ = [] from h]; rfl
 | _ :: l, _, h => by
   obtain ⟨c, cl', h1, h2, h3⟩ := h
   rw [h1, List.length_cons, List.length_cons, RdOs.len h3]
theorem RdOs.at : ∀ {l : List PO} {cl : List (List Value)}, RdOs w0 sh l cl → ∀ {i : Nat} {e : PO}, l[i]? = some e → ∃ c, cl[i]? = some c ∧ RdO w0 sh e c
 | [], _, _, i, e, he => by simp at he
 | _ :: l, _, h, i, e, he => by
   obtain ⟨c, cl', h1, h2, h3⟩ := h
   subst h1
   cases i with
   | zero => simp at he; subst he; exact ⟨c, rfl, h2⟩
   | succ i => rw [List.getElem?_cons_succ] at he ⊢; exact RdOs.at h3 he
theorem RdOl.len {v : Value} {l : List PO} (h : RdOl w0 sh v l) : ∃ a cap, v = .slice a l.length cap ∧ l.length ≤ cap := by
 obtain ⟨cl, h1, h2⟩ := h
 obtain ⟨a, cap, e, hc, _⟩ := id h1
 rw [h2.len] at e hc
 exact ⟨a, cap, e, hc⟩
theorem RdOl.at {a : Option Addr} {len cap : Nat} {l : List PO} (h : RdOl w0 sh (.slice a len cap) l) {i : Nat} {e : PO} (he : l[i]? = some e) :
   ∃ b off c T fr cs, a = some ⟨b, off, none⟩ ∧ (∀ hF Γ w, Sh sh hF → St w0 hF Γ w → w.heap[b]? = some (.cells c T fr)) ∧ (∀ o, o = off + i * 3 → rd true 3 c.toList o = some (.agg (List.toArray cs))) ∧ RdO w0 sh e cs ∧ (∀ k u, cs[k]? = some u → ∀ o, o = off + i * 3 + k → rd false 1 c.toList o = some u) := by
 obtain ⟨cl, h1, h2⟩ := h
 obtain ⟨c0, h3, h4⟩ := h2.at he
 obtain ⟨b, off, c, T, fr, e1, e2, e3, e4⟩ := h1.cells h3
 exact ⟨b, off, c, T, fr, c0, e1, e2, e3, h4, e4⟩
end
end Go.Vc
namespace Sim
open Go Go.Vc
def ctNames : List ByteArray := [bs [99, 111, 117, 110, 116, 101, 114], bs [115, 116, 97, 99, 107], bs [113, 117, 101, 117, 101], bs [100, 101, 113, 117, 101], bs [109, 97, 112], bs [116, 114, 101, 101], bs [104, 101, 97, 112], bs [97, 114, 114, 97, 121], bs [103, 114, 97, 112, 104], bs [102, 111, 114, 101, 115, 116]]
def ctRows : List (List (ByteArray × Int × Bool)) := [
 [(bs [103, 101, 116], 0, false), (bs [97, 100, 100], 1, true), (bs [115, 101, 116], 1, true)],
 [(bs [112, 117, 115, 104], 1, true), (bs [112, 111, 112], 0, true), (bs [116, 111, 112], 0, false), (bs [108, 101, 110], 0, false)],
 [(bs [112, 117, 116], 1, true), (bs [116, 97, 107, 101], 0, true), (bs [102, 105, 114, 115, 116], 0, false), (bs [108, 101, 110], 0, false)],
 [(bs [112, 117, 115, 104, 95, 108, 101, 102, 116], 1, true), (bs [112, 117, 115, 104, 95, 114, 105, 103, 104, 116], 1, true), (bs [112, 111, 112, 95, 108, 101, 102, 116], 0, true), (bs [112, 111, 112, 95, 114, 105, 103, 104, 116], 0, true), (bs [108, 101, 102, 116], 0, false), (bs [114, 105, 103, 104, 116], 0, false), (bs [108, 101, 110], 0, false)],
 [(bs [112, 117, 116], 2, true), (bs [103, 101, 116], 1, false), (bs [104, 97, 115], 1, false), (bs [100, 114, 111, 112], 1, true), (bs [108, 101, 110], 0, false)],
 [(bs [112, 117, 116], 2, true), (bs [103, 101, 116], 1, false), (bs [104, 97, 115], 1, false), (bs [100, 114, 111, 112], 1, true), (bs [115, 117, 109], 2, false), (bs [99, 111, 117, 110, 116], 2, false), (bs [110, 101, 120, 116], 1, false), (bs [110, 116, 104], 1, false), (bs [108, 101, 110], 0, false)],
 [(bs [112, 117, 115, 104], 2, true), (bs [112, 111, 112], 0, true), (bs [109, 105, 110], 0, false), (bs [108, 101, 97, 115, 116], 0, false), (bs [108, 111, 119, 101, 114], 2, true), (bs [100, 114, 111, 112], 1, true), (bs [108, 101, 110], 0, false)],
 [(bs [112, 117, 115, 104], 1, true), (bs [112, 111, 112], 0, true), (bs [103, 101, 116], 1, false), (bs [115, 101, 116], 2, true), (bs [115, 119, 97, 112], 2, true), (bs [108, 101, 110], 0, false)],
 [(bs [97, 100, 100], 1, true), (bs [108, 105, 110, 107], 3, true), (bs [99, 117, 116], 1, true), (bs [100, 114, 111, 112], 1, true), (bs [119, 101, 105, 103, 104, 116], 2, false), (bs [108, 97, 98, 101, 108], 1, false), (bs [111, 117, 116, 115], 1, false), (bs [105, 110, 115], 1, false), (bs [118, 101, 114, 116, 105, 99, 101, 115], 0, false), (bs [101, 100, 103, 101, 115], 0, false)],
 [(bs [109, 97, 107, 101], 0, true), (bs [102, 105, 110, 100], 1, false), (bs [117, 110, 105, 111, 110], 2, true), (bs [117, 110, 100, 111], 0, true), (bs [115, 97, 109, 101], 2, false), (bs [115, 105, 122, 101], 1, false), (bs [115, 101, 116, 115], 0, false)]]
def ctMeths (k : Int) : List (ByteArray × Int × Bool) := if 0 ≤ k ∧ k ≤ 9 then ctRows.getD k.toNat [] else []
def ctName (k : Int) : ByteArray := if 0 ≤ k ∧ k ≤ 9 then ctNames.getD k.toNat (bs []) else bs []
end Sim
namespace Sim
end Sim
namespace Go.Vc
open Sim
def kwCells : List Value := kwL.flatMap encY
def KwOk (w0 : World) : Prop := ∃ T fr, w0.heap[0]? = some (.cells (List.toArray kwCells) T fr)
theorem KwOk.rd {w0 : World} (h : KwOk w0) (sh : Shared) : RdSl w0 sh encY 1 (.slice (some ⟨0, 0, none⟩) 14 14) kwL := by
 obtain ⟨T, fr, h⟩ := h
 refine ⟨_, 14, rfl, Nat.le_refl _, .inr ⟨0, 0, _, T, fr, rfl, fun hF Γ w _ hst => (hst.base (Array.getElem?_eq_some_iff.1 h).1).trans h, fun i x hx => ⟨rfl, fun k u hu => ?_⟩⟩⟩
 have := flat_at (encE := encY) (q := 1) kwL (fun _ _ => rfl) i x hx k u hu
 simpa [kwCells] using this
end Go.Vc
namespace Go.Proofs.YtgdhcgnmffgkiaaGreatDoor
open Go.Vc Sim
end Go.Proofs.YtgdhcgnmffgkiaaGreatDoor
namespace Go.Vc
open Sim
abbrev MRow : Type := (ByteArray × Int × Bool) × Nat
abbrev encM (r : MRow) : List Value := [.string r.1.1, .int .i64 r.1.2.1, .bool r.1.2.2, .func (.func r.2) #[] #[]]
end Go.Vc
namespace Go.Proofs.YtgdhcgnmffgkiaaGreatDoor
variable (w0 : World)
open Go.Vc Sim
def ms0 : List MRow := [((bs [103, 101, 116], 0, false), 194), ((bs [97, 100, 100], 1, true), 196), ((bs [115, 101, 116], 1, true), 197)]
def ms1 : List MRow := [((bs [112, 117, 115, 104], 1, true), 198), ((bs [112, 111, 112], 0, true), 200), ((bs [116, 111, 112], 0, false), 201), ((bs [108, 101, 110], 0, false), 202)]
def ms2 : List MRow := [((bs [112, 117, 116], 1, true), 203), ((bs [116, 97, 107, 101], 0, true), 204), ((bs [102, 105, 114, 115, 116], 0, false), 205), ((bs [108, 101, 110], 0, false), 206)]
def ms3 : List MRow := [((bs [112, 117, 115, 104, 95, 108, 101, 102, 116], 1, true), 207), ((bs [112, 117, 115, 104, 95, 114, 105, 103, 104, 116], 1, true), 208), ((bs [112, 111, 112, 95, 108, 101, 102, 116], 0, true), 209), ((bs [112, 111, 112, 95, 114, 105, 103, 104, 116], 0, true), 210), ((bs [108, 101, 102, 116], 0, false), 211), ((bs [114, 105, 103, 104, 116], 0, false), 212), ((bs [108, 101, 110], 0, false), 213)]
def ms4 : List MRow := [((bs [112, 117, 116], 2, true), 221), ((bs [103, 101, 116], 1, false), 223), ((bs [104, 97, 115], 1, false), 225), ((bs [100, 114, 111, 112], 1, true), 227), ((bs [108, 101, 110], 0, false), 229)]
def ms5 : List MRow := [((bs [112, 117, 116], 2, true), 230), ((bs [103, 101, 116], 1, false), 232), ((bs [104, 97, 115], 1, false), 233), ((bs [100, 114, 111, 112], 1, true), 234), ((bs [115, 117, 109], 2, false), 235), ((bs [99, 111, 117, 110, 116], 2, false), 236), ((bs [110, 101, 120, 116], 1, false), 237), ((bs [110, 116, 104], 1, false), 238), ((bs [108, 101, 110], 0, false), 239)]
def ms6 : List MRow := [((bs [112, 117, 115, 104], 2, true), 240), ((bs [112, 111, 112], 0, true), 242), ((bs [109, 105, 110], 0, false), 243), ((bs [108, 101, 97, 115, 116], 0, false), 244), ((bs [108, 111, 119, 101, 114], 2, true), 245), ((bs [100, 114, 111, 112], 1, true), 246), ((bs [108, 101, 110], 0, false), 247)]
def ms7 : List MRow := [((bs [112, 117, 115, 104], 1, true), 214), ((bs [112, 111, 112], 0, true), 216), ((bs [103, 101, 116], 1, false), 217), ((bs [115, 101, 116], 2, true), 218), ((bs [115, 119, 97, 112], 2, true), 219), ((bs [108, 101, 110], 0, false), 220)]
def ms8 : List MRow := [((bs [97, 100, 100], 1, true), 248), ((bs [108, 105, 110, 107], 3, true), 250), ((bs [99, 117, 116], 1, true), 251), ((bs [100, 114, 111, 112], 1, true), 252), ((bs [119, 101, 105, 103, 104, 116], 2, false), 253), ((bs [108, 97, 98, 101, 108], 1, false), 254), ((bs [111, 117, 116, 115], 1, false), 255), ((bs [105, 110, 115], 1, false), 257), ((bs [118, 101, 114, 116, 105, 99, 101, 115], 0, false), 258), ((bs [101, 100, 103, 101, 115], 0, false), 259)]
def ms9 : List MRow := [((bs [109, 97, 107, 101], 0, true), 260), ((bs [102, 105, 110, 100], 1, false), 262), ((bs [117, 110, 105, 111, 110], 2, true), 263), ((bs [117, 110, 100, 111], 0, true), 264), ((bs [115, 97, 109, 101], 2, false), 265), ((bs [115, 105, 122, 101], 1, false), 266), ((bs [115, 101, 116, 115], 0, false), 267)]
def msK (k : Int) : List MRow := if k = 0 then ms0 else if k = 1 then ms1 else if k = 2 then ms2 else if k = 3 then ms3 else if k = 4 then ms4 else if k = 5 then ms5 else if k = 6 then ms6 else if k = 7 then ms7 else if k = 8 then ms8 else if k = 9 then ms9 else []
theorem msK_rows (k : Int) : (msK k).map (·.1) = ctMeths k := by
 unfold msK ctMeths
 by_cases h : 0 ≤ k ∧ k ≤ 9
 · rcases (by omega : k = 0 ∨ k = 1 ∨ k = 2 ∨ k = 3 ∨ k = 4 ∨ k = 5 ∨ k = 6 ∨ k = 7 ∨ k = 8 ∨ k = 9) with rfl | rfl | rfl | rfl | rfl | rfl | rfl | rfl | rfl | rfl <;> rfl
 · rw [if_neg h, if_neg (by omega), if_neg (by omega), if_neg (by omega), if_neg (by omega), if_neg (by omega), if_neg (by omega), if_neg (by omega), if_neg (by omega), if_neg (by omega), if_neg (by omega)]; rfl
abbrev mSl (s n : Nat) : Value := .slice (some ⟨s, 0, none⟩) n n
abbrev mPt (s : Nat) (l : List MRow) : Asn := pt s (.cells (List.toArray (l.flatMap encM)) 77 (0, 0))
theorem names_own : Vc.Fn PP w0 [] 40 [] [] (fun v Γ => ∃ nb, v = .slice (some ⟨nb, 0, none⟩) 10 10 ∧ Γ = [pt nb (.cells (List.toArray (ctNames.flatMap encY)) 9 (0, 0))]) := by
 refine zep en40 fn40 rfl rfl rfl ?_
 repeat' first|refine zck ?_|refine zyq ?_|(refine zap rfl ?_;refine zdt rfl rfl rfl rfl rfl rfl (fun nb => ?_))|refine zp ?_|refine zch ?_
 exact zej rfl ⟨_, rfl, rfl⟩
theorem names_spec : Vc.Fn PP w0 [] 40 [] [] (fun v Γ => ∃ nb, v = .slice (some ⟨nb, 0, none⟩) 10 10 ∧ Γ = [Rds fun bl => RdSl w0 bl encY 1 v ctNames]) := by
 refine zep en40 fn40 rfl rfl rfl ?_
 repeat' first|refine zck ?_|refine zyq ?_|(refine zap rfl ?_;refine zdt rfl rfl rfl rfl rfl rfl (fun nb => ?_))|refine zp ?_|refine zch ?_
 refine zef 0 (Rds fun bl => RdSl w0 bl encY 1 (.slice (some ⟨nb, 0, none⟩) 10 10) ctNames) rfl (fun g hg => Rds.mono (fun _ hb => RdSl.flat (encE := encY) (q := 1) (w0 := w0) (b := nb) (l := ctNames) (fun _ _ => rfl) hb) g (Rds.of_pt g hg)) rfl ?_
 exact zej rfl ⟨_, rfl, rfl⟩
theorem name_spec (k : Int) : FnE PP w0 [] 26 [.int .i64 k] [] (.string (ctName k)) [] := by
 by_cases h0 : k < 0
 · have hn : ctName k = bs [] := by unfold ctName; rw [if_neg (by omega)]
   rw [hn]
   refine zep en26 fn26 rfl rfl rfl ?_
   repeat' first|refine zck ?_|refine zyq ?_|(refine zap rfl ?_;first|refine zak rfl ?_|refine zbg rfl rfl (by omega) ?_|refine zbu rfl ?_)|refine zp ?_|refine zch ?_|refine zci rfl ?_
   exact zej rfl ⟨rfl, rfl⟩
 by_cases h9 : 9 < k
 · have hn : ctName k = bs [] := by unfold ctName; rw [if_neg (by omega)]
   rw [hn]
   refine zep en26 fn26 rfl rfl rfl ?_
   repeat' first|refine zck ?_|refine zyq ?_|(refine zap rfl ?_;first|refine zaj rfl ?_|refine zce rfl ?_|(refine zai [] (names_spec w0) rfl rfl rfl zdj ?_; rintro v Γ ⟨nb, rfl, rfl⟩)|refine zbh rfl rfl (by omega) ?_|refine zbm rfl rfl (by omega) ?_|refine zbv rfl ?_)|refine zp ?_|refine zch ?_|refine zci rfl ?_
   refine zec [] rfl ?_
   exact zej rfl ⟨rfl, rfl⟩
 obtain ⟨x, hx⟩ : ∃ x, ctNames[k.toNat]? = some x := ⟨_, List.getElem?_eq_getElem (by show k.toNat < 10; omega)⟩
 have hn : ctName k = x := by unfold ctName; rw [if_pos (by omega), List.getD_eq_getElem?_getD, hx]; rfl
 rw [hn]
 have hr : ∀ o, o = 0 + k.toNat * 1 → rd false 1 (ctNames.flatMap encY) o = some (.string x) := fun o ho => by
   have := flat_at (encE := encY) (q := 1) ctNames (fun _ _ => rfl) k.toNat x hx 0 _ rfl
   exact rd_one (c := (ctNames.flatMap encY).toArray) (o := k.toNat * 1 + 0) (by simpa using this) o (by omega)
 refine zep en26 fn26 rfl rfl rfl ?_
 repeat' first|refine zck ?_|refine zcm ?_|refine zyq ?_|(refine zap rfl ?_;first|refine zab 0 rfl rfl (hr _ (by omega)) ?_|refine zaj rfl ?_|refine zce rfl ?_|(refine zai [] (names_own w0) rfl rfl rfl zdj ?_; rintro v Γ ⟨nb, rfl, rfl⟩)|refine zbh rfl rfl (by omega) ?_|refine zbn rfl rfl (by omega) ?_|refine zbv rfl ?_|refine zas rfl rfl (by omega) ?_)|refine zp ?_|refine zch ?_|refine zcj rfl ?_
 refine zec [] rfl ?_
 exact zej rfl ⟨rfl, rfl⟩
theorem row_spec : Vc.Fn PP w0 [] 105 [] [] (fun v Γ => ∃ m s0 s1 s2 s3 s7, v = .map (some m) ∧ Γ = [pt m (mapI [(0, mSl s0 3), (1, mSl s1 4), (2, mSl s2 4), (3, mSl s3 7), (7, mSl s7 6)]), mPt s0 ms0, mPt s1 ms1, mPt s2 ms2, mPt s3 ms3, mPt s7 ms7]) := by
 refine zep en105 fn105 rfl rfl rfl ?_
 repeat' first|refine zck ?_|refine zyq ?_|(refine zap rfl ?_;first|refine zdt rfl rfl rfl rfl rfl rfl (fun nb => ?_)|refine reg_insert 0 rfl rfl rfl rfl rfl ?_|refine zcc (fun nb => ?_)|refine zcb rfl ?_)|refine zp ?_|refine zch ?_
 exact zej rfl ⟨_, _, _, _, _, _, rfl, rfl⟩
theorem keyed_spec : Vc.Fn PP w0 [] 106 [] [] (fun v Γ => ∃ m s4 s5 s6, v = .map (some m) ∧ Γ = [pt m (mapI [(4, mSl s4 5), (5, mSl s5 9), (6, mSl s6 7)]), mPt s4 ms4, mPt s5 ms5, mPt s6 ms6]) := by
 refine zep en106 fn106 rfl rfl rfl ?_
 repeat' first|refine zck ?_|refine zyq ?_|(refine zap rfl ?_;first|refine zdt rfl rfl rfl rfl rfl rfl (fun nb => ?_)|refine reg_insert 0 rfl rfl rfl rfl rfl ?_|refine zcc (fun nb => ?_)|refine zcb rfl ?_)|refine zp ?_|refine zch ?_
 exact zej rfl ⟨_, _, _, _, rfl, rfl⟩
theorem linked_spec : Vc.Fn PP w0 [] 107 [] [] (fun v Γ => ∃ m s8 s9, v = .map (some m) ∧ Γ = [pt m (mapI [(8, mSl s8 10), (9, mSl s9 7)]), mPt s8 ms8, mPt s9 ms9]) := by
 refine zep en107 fn107 rfl rfl rfl ?_
 repeat' first|refine zck ?_|refine zyq ?_|(refine zap rfl ?_;first|refine zdt rfl rfl rfl rfl rfl rfl (fun nb => ?_)|refine reg_insert 0 rfl rfl rfl rfl rfl ?_|refine zcc (fun nb => ?_)|refine zcb rfl ?_)|refine zp ?_|refine zch ?_
 exact zej rfl ⟨_, _, _, rfl, rfl⟩
end Go.Proofs.YtgdhcgnmffgkiaaGreatDoor
namespace Go.Vc
open Sim
end Go.Vc
namespace Go.Proofs.YtgdhcgnmffgkiaaGreatDoor
open Go.Vc Sim
end Go.Proofs.YtgdhcgnmffgkiaaGreatDoor
namespace Sim
end Sim
namespace Go.Proofs.YtgdhcgnmffgkiaaGreatDoor
open Go.Vc Sim
end Go.Proofs.YtgdhcgnmffgkiaaGreatDoor
namespace Sim
end Sim
namespace Go.Vc
open Sim
abbrev psC (s : PS) (va vo vb ve : Value) : List Value := [.int .i64 s.kind, .string s.name, .int .i64 s.num, .int .i64 s.expr.kind, .int .i64 s.expr.num, .string s.expr.name, .string s.expr.meth, va, vo, vb, ve]
structure RdSp (w0 : World) (sh : Shared) (s : PS) (va vo vb ve : Value) : Prop where
 a : RdEl w0 sh va s.expr.args
 o : RdEl w0 sh vo s.expr.or
 b : RdSt w0 sh vb s.body
 e : RdSt w0 sh ve s.els
theorem RdS.sp {w0 : World} {sh : Shared} {s : PS} {cs : List Value} (h : RdS w0 sh s cs) : ∃ va vo vb ve, cs = psC s va vo vb ve ∧ RdSp w0 sh s va vo vb ve := by
 obtain ⟨va, vo, vb, ve, h1, h2, h3, h4⟩ := h.cs
 obtain ⟨va', vo', e, h5, h6⟩ := h2.cs
 simp only [peC, List.cons.injEq, and_true, true_and] at e
 obtain ⟨rfl, rfl⟩ := e
 exact ⟨va, vo, vb, ve, h1, ⟨h5, h6, h3, h4⟩⟩
end Go.Vc
namespace Go.Proofs.YtgdhcgnmffgkiaaGreatDoor
open Go.Vc Sim
end Go.Proofs.YtgdhcgnmffgkiaaGreatDoor
namespace Sim
open Go Go.Vc
def idxP {α : Type} (p : α → Bool) : List α → Int → Int
 | [], _ => -1
 | x :: l, k => if p x = true then k else idxP p l (k + 1)
end Sim
namespace Go.Proofs.YtgdhcgnmffgkiaaGreatDoor
open Go.Vc Sim
end Go.Proofs.YtgdhcgnmffgkiaaGreatDoor
namespace Sim
open Go Go.Vc
end Sim
namespace Go.Proofs.YtgdhcgnmffgkiaaGreatDoor
open Go.Vc Sim
end Go.Proofs.YtgdhcgnmffgkiaaGreatDoor
namespace Sim
open Go Go.Vc
theorem idxP_find {α : Type} (p : α → Bool) : ∀ (l : List α) (k : Int), 0 ≤ k → match l.find? p with
   | some x => ∃ i : Nat, idxP p l k = k + i ∧ l[i]? = some x
   | none => idxP p l k = -1
 | [], k, _ => rfl
 | x :: l, k, h => by
   have ih := idxP_find p l (k + 1) (by omega)
   by_cases e : p x = true
   · rw [List.find?_cons_of_pos e]
     exact ⟨0, by rw [idxP, if_pos e]; simp, rfl⟩
   · rw [List.find?_cons_of_neg e]
     have e1 : idxP p (x :: l) k = idxP p l (k + 1) := by rw [idxP, if_neg e]
     cases hf : l.find? p with
     | none => rw [hf] at ih; exact e1.trans ih
     | some y =>
       rw [hf] at ih
       obtain ⟨i, h1, h2⟩ := ih
       exact ⟨i + 1, by rw [e1, h1]; omega, h2⟩
end Sim
namespace Go.Vc
open Sim
end Go.Vc
namespace Go.Proofs.YtgdhcgnmffgkiaaGreatDoor
open Go.Vc Sim
end Go.Proofs.YtgdhcgnmffgkiaaGreatDoor
