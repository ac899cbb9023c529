import Derived.Test.YtgdhcgnmffgkiaaGreatDoorPart18
import Derived.Test.YtgdhcgnmffgkiaaGreatDoorPart10
import Derived.Test.YtgdhcgnmffgkiaaGreatDoorKit
/- Own work: lemmas of this claim. -/
namespace Go.Proofs.YtgdhcgnmffgkiaaGreatDoor
variable (w0 : World)
open Go.Vc Sim
set_option maxHeartbeats 4000000
theorem heLower_fin (p wb eb m : Nat) (H : He) (R : Int × Sp) (e : Int) (b : Bool) (s : Sp) (ρ : Env) (h8 : ρ 8 = .pointer (some ⟨eb, 0, none⟩)) (hG : At R (He.afterL m e b) s) :
   LeavesS PP w0 [] Tryz.f76 ρ [heD wb eb m] [SpaceA p s, hwA wb p H b, erV eb e] (fun v Γ => v = .int .i64 R.1 ∧ Γ = [SpaceA p R.2]) := by
 refine leaves_defer1 [0, 0, 0] (heEnd w0 p wb H s m eb b e) rfl rfl zdj ?_
 refine zek (zel [0] rfl (zem rfl (zeo 2 h8 rfl rfl) ?_))
 refine ⟨rfl, ?_⟩
 unfold He.afterL at hG
 by_cases hE : He.endE e b ≠ 0
 · rw [if_pos hE] at hG
   rw [hG.step.2.done, if_pos hE]
   exact ⟨rfl, rfl⟩
 · rw [if_neg hE] at hG
   rw [hG.done, if_neg hE]
   exact ⟨rfl, rfl⟩
theorem heLower (p : Nat) (H : He) (hH : H.Ok) (h pr : Int) : FnG w0 [] 76 [heV H, spP p, .int .i64 h, .int .i64 pr] p (H.lower h pr) (.int .i64) := by
 intro s hS; have hG := At.start hS; generalize Pg.run _ s = R at hG ⊢
 simp only [He.lower, He.lowerIn, Pg.bind_assoc, Pg.ite_bind, Pg.pure_bind] at hG
 refine zep en76 fn76 rfl rfl rfl ?_
 refine zyr ?_
 repeat' (refine zap rfl ?_;first|refine zar (fun eb => ?_)|refine zaq (cs := [_, _, _, _]) rfl (fun nb => ?_))
 all_goals refine zyn ?_
 refine zeb [1] rfl ?_
 refine zyr ?_
 repeat' first|(refine zap rfl ?_;first|refine zaq (cs := [_, _, _, _, _, _]) rfl (fun wb => ?_)|refine zcb rfl ?_)|refine zp ?_|refine zyl 0 rfl ?_|refine zyn ?_
 refine zef 2 (hwA wb p H false) rfl (fun _ h => h) rfl ?_
 refine zec [0, 1, 0] rfl ?_
 refine zyr ?_
 repeat' first|(refine zap rfl ?_;first|refine zcd rfl rfl ?_|refine zdk [0] hG (markG w0 p) rfl rfl rfl zdj (fun m s hG => ?_))|refine zp ?_|refine zyn ?_
 have hall := H.all_find h
 refine zyr ?_
 repeat' first|(refine zap rfl ?_;first|(refine zah [0, 0] (heFind w0 p wb H hH h s hG.step.1) rfl rfl rfl zdj rfl ?_; have hf := Pg.all_run (s := s) hall; replace hG := hG.step.2; generalize Pg.run (H.find h) s = Q at hf hG ⊢)|refine zae 2 rfl rfl rfl rfl rfl rfl rfl ?_)|refine zp ?_|refine zyn ?_
 obtain ⟨⟨⟨⟨it, x⟩, ⟨n, e⟩⟩, b⟩, s⟩ := Q
 dsimp only at hf hG
 by_cases he : e = 0
 rotate_left
 · rw [if_pos he] at hG
   repeat' first|refine zck ?_|refine zyq ?_|(refine zap rfl ?_;first|refine zab 2 rfl rfl rfl ?_|refine zbe rfl rfl (by omega) ?_|refine zae 2 rfl rfl rfl rfl rfl rfl rfl ?_)|refine zp ?_|refine zch ?_|refine zci rfl ?_
   exact zeg (heLower_fin w0 p wb eb m H R e b s _ rfl hG)
 rw [if_neg (fun q => q he)] at hG
 obtain ⟨f1, f2, f3, rfl⟩ := hf he
 subst he
 refine zyr ?_
 repeat' first|(refine zap rfl ?_;first|refine zab 2 rfl rfl rfl ?_|refine zbp rfl rfl ?_)|refine zp ?_|refine zyn ?_
 refine zcj rfl ?_
 refine zyr ?_
 repeat' first|(refine zap rfl ?_;first|refine zdn [0, 0] hG (heGet w0 p wb H _ it 0) rfl rfl rfl (fun u s hG => ?_)|refine zbs rfl rfl ?_)|refine zp ?_|refine zyn ?_
 refine zed rfl (fun hu => ?_) (fun hu => ?_)
 · rw [if_pos hu] at hG
   repeat' first|refine zck ?_|refine zyq ?_|(refine zap rfl ?_;refine zae 2 rfl rfl rfl rfl rfl rfl rfl ?_)|refine zch ?_
   exact zeg (heLower_fin w0 p wb eb m H R 4 false s _ rfl hG)
 · rw [if_neg hu] at hG
   repeat' first|refine zck ?_|refine zcm ?_|refine zcn ?_|refine zyq ?_|(refine zap rfl ?_;first|refine zdn [0, 0] hG (hePut w0 p wb H _ it 0 pr) rfl rfl rfl (fun _ s hG => ?_)|refine zdp [0, 0] hG (heRise w0 p wb H hH false x it (by omega)) rfl rfl rfl (fun _ c s hG => ?_)|refine zae 2 rfl rfl rfl rfl rfl rfl rfl ?_)|refine zp ?_|refine zch ?_
   exact zeg (heLower_fin w0 p wb eb m H R 0 c s _ rfl hG)
theorem heDrop_fin (p wb eb m : Nat) (H : He) (R : (Int × Int) × Sp) (v e : Int) (b : Bool) (s : Sp) (ρ : Env) (h6 : ρ 6 = .int .i64 v) (h7 : ρ 7 = .pointer (some ⟨eb, 0, none⟩)) (hG : At R (He.after m (v, e) b) s) :
   LeavesS PP w0 [] Tryz.f77 ρ [heD wb eb m] [SpaceA p s, hwA wb p H b, erV eb e] (fun v Γ => v = encI2 R.1 ∧ Γ = [SpaceA p R.2]) := by
 refine leaves_defer1 [0, 0, 0] (heEnd w0 p wb H s m eb b e) rfl rfl zdj ?_
 refine zek (zel [0] rfl (zen rfl h6 (zeo 2 h7 rfl rfl) ?_))
 refine ⟨rfl, ?_⟩
 unfold He.after at hG
 by_cases hE : He.endE e b ≠ 0
 · dsimp only at hG
   rw [if_pos hE] at hG
   rw [hG.step.2.done, if_pos hE]
   exact ⟨rfl, rfl⟩
 · dsimp only at hG
   rw [if_neg hE] at hG
   rw [hG.done, if_neg hE]
   exact ⟨rfl, rfl⟩
theorem heDrop (p : Nat) (H : He) (hH : H.Ok) (h : Int) : FnG w0 [] 77 [heV H, spP p, .int .i64 h] p (H.drop h) encI2 := by
 intro s hS; have hG := At.start hS; generalize Pg.run _ s = R at hG ⊢
 simp only [He.drop, He.dropIn, Pg.bind_assoc, Pg.ite_bind, Pg.pure_bind] at hG
 refine zep en77 fn77 rfl rfl rfl ?_
 refine zyr ?_
 repeat' first|(refine zap rfl ?_;first|refine zar (fun eb => ?_)|refine zaq (cs := [_, _, _, _]) rfl (fun nb => ?_))|refine zp ?_|refine zyn ?_
 refine zeb [1] rfl ?_
 refine zyr ?_
 repeat' first|(refine zap rfl ?_;first|refine zaq (cs := [_, _, _, _, _, _]) rfl (fun wb => ?_)|refine zcb rfl ?_)|refine zp ?_|refine zyl 0 rfl ?_|refine zyn ?_
 refine zef 2 (hwA wb p H false) rfl (fun _ h => h) rfl ?_
 refine zec [0, 1, 0] rfl ?_
 refine zyr ?_
 repeat' first|(refine zap rfl ?_;first|refine zcd rfl rfl ?_|refine zdk [0] hG (markG w0 p) rfl rfl rfl zdj (fun m s hG => ?_))|refine zp ?_|refine zyn ?_
 have hall := H.all_find h
 refine zyr ?_
 repeat' first|(refine zap rfl ?_;first|(refine zah [0, 0] (heFind w0 p wb H hH h s hG.step.1) rfl rfl rfl zdj rfl ?_; have hf := Pg.all_run (s := s) hall; replace hG := hG.step.2; generalize Pg.run (H.find h) s = Q at hf hG ⊢)|refine zae 2 rfl rfl rfl rfl rfl rfl rfl ?_)|refine zp ?_|refine zyn ?_
 obtain ⟨⟨⟨⟨it, x⟩, ⟨n, e⟩⟩, b⟩, s⟩ := Q
 dsimp only at hf hG
 by_cases he : e = 0
 rotate_left
 · rw [if_pos he] at hG
   refine zyr ?_
   repeat' (refine zap rfl ?_;first|refine zab 2 rfl rfl rfl ?_|refine zbe rfl rfl (by omega) ?_)
   all_goals refine zyn ?_
   refine zci rfl ?_
   refine zyx ?_
   first|refine zcp (by kernel_rfl) ?_|refine zeh PP_mixed (by kernel_rfl) (by kernel_rfl) ?_
   repeat' first|(refine zap rfl ?_;first|refine zab 2 rfl rfl rfl ?_|refine zae 2 rfl rfl rfl rfl rfl rfl rfl ?_)|refine zp ?_|refine zyn ?_
   exact zeg (heDrop_fin w0 p wb eb m H R 0 e b s _ rfl rfl hG)
 rw [if_neg (fun q => q he)] at hG
 obtain ⟨f1, f2, f3, rfl⟩ := hf he
 subst he
 refine zyr ?_
 repeat' (refine zap rfl ?_;first|refine zab 2 rfl rfl rfl ?_|refine zbp rfl rfl ?_)
 all_goals refine zyn ?_
 refine zcj rfl ?_
 refine zyr ?_
 repeat' first|(refine zap rfl ?_;first|refine zdp [0, 0] hG (heRemove w0 p wb H hH x n (by omega) (by omega)) rfl rfl rfl (fun q c s hG => ?_)|refine zae 2 rfl rfl rfl rfl rfl rfl rfl ?_)|refine zp ?_|refine zyn ?_
 obtain ⟨⟨pr, v⟩, e⟩ := q
 dsimp only at hG
 first|refine zcp (by kernel_rfl) ?_|refine zeh PP_mixed (by kernel_rfl) (by kernel_rfl) ?_
 repeat' first|(refine zap rfl ?_;first|refine zab 2 rfl rfl rfl ?_|refine zae 2 rfl rfl rfl rfl rfl rfl rfl ?_)|refine zp ?_|refine zyn ?_
 exact zeg (heDrop_fin w0 p wb eb m H R v e c s _ rfl rfl hG)
theorem hePush_fin (p wb vb eb m : Nat) (H : He) (R : (Int × Int) × Sp) (v e : Int) (b : Bool) (s : Sp) (ρ : Env) (h8 : ρ 8 = .pointer (some ⟨vb, 0, none⟩)) (h9 : ρ 9 = .pointer (some ⟨eb, 0, none⟩)) (hG : At R (He.afterP m (v, e) b) s) :
   LeavesS PP w0 [] Tryz.f73 ρ [heD wb eb m, heN wb vb eb] [SpaceA p s, hwA wb p H b, erV eb e, clI vb v] (fun v Γ => v = encI2 R.1 ∧ Γ = [SpaceA p R.2]) := by
 refine leaves_defer1 [0, 0, 0] (heEnd w0 p wb H s m eb b e) rfl rfl zdj ?_
 refine leaves_defer1 [3, 2] (heNone w0 wb vb eb v (He.endE e b)) rfl rfl zdj ?_
 refine zek (zel [2] rfl (zen rfl (zeo 0 h8 rfl rfl) (zeo 1 h9 rfl rfl) ?_))
 refine ⟨rfl, ?_⟩
 unfold He.afterP at hG
 by_cases hE : He.endE e b ≠ 0
 · dsimp only at hG
   rw [if_pos hE] at hG
   rw [hG.step.2.done, if_pos hE, if_pos hE]
   exact ⟨rfl, rfl⟩
 · dsimp only at hG
   rw [if_neg hE] at hG
   rw [hG.done, if_neg hE, if_neg hE]
   exact ⟨rfl, rfl⟩
theorem hePush (p : Nat) (H : He) (hH : H.Ok) (pr v : Int) : FnG w0 [] 73 [heV H, spP p, .int .i64 pr, .int .i64 v] p (H.push pr v) encI2 := by
 intro s hS; have hG := At.start hS; generalize Pg.run _ s = R at hG ⊢
 simp only [He.push, He.pushIn, Pg.bind_assoc, Pg.ite_bind, Pg.pure_bind] at hG
 refine zep en73 fn73 rfl rfl rfl ?_
 refine zyr ?_
 repeat' (refine zap rfl ?_;first|refine zaq (cs := [_, _, _, _]) rfl (fun nb => ?_)|refine zar (fun nb => ?_))
 all_goals refine zyn ?_
 rename_i vb
 revert nb; intro eb
 refine zeb [1] rfl ?_
 refine zyr ?_
 repeat' first|(refine zap rfl ?_;first|refine zaq (cs := [_, _, _, _, _, _]) rfl (fun wb => ?_)|refine zcb rfl ?_)|refine zp ?_|refine zyl 0 rfl ?_|refine zyn ?_
 refine zef 3 (hwA wb p H false) rfl (fun _ h => h) rfl ?_
 refine zec [0, 2, 1, 0] rfl ?_
 refine zyr ?_
 repeat' first|(refine zap rfl ?_;refine zcd rfl rfl ?_)|refine zp ?_|refine zyn ?_
 refine zyr ?_
 repeat' first|(refine zap rfl ?_;first|refine zcd rfl rfl ?_|refine zdk [0] hG (markG w0 p) rfl rfl rfl zdj (fun m s hG => ?_))|refine zp ?_|refine zyn ?_
 refine zyr ?_
 repeat' first|(refine zap rfl ?_;refine zdo [0, 0] hG H.all_many (heMany w0 p wb H false) rfl rfl rfl (fun n s hn hG => ?_))|refine zp ?_|refine zyn ?_
 obtain ⟨n, ok⟩ := n
 dsimp only at hG hn
 by_cases h0 : n = 32
 · rw [if_pos h0] at hG
   repeat' first|refine zck ?_|refine zyq ?_|(refine zap rfl ?_;first|refine zbc rfl rfl (by omega) ?_|refine zae 2 rfl rfl rfl rfl rfl rfl rfl ?_|refine zae 3 rfl rfl rfl rfl rfl rfl rfl ?_)|refine zp ?_|refine zch ?_|refine zci rfl ?_
   exact zeg (hePush_fin w0 p wb vb eb m H R 0 9 false s _ rfl rfl hG)
 rw [if_neg h0] at hG
 refine zyr ?_
 repeat' first|(refine zap rfl ?_;refine zbd rfl rfl (by omega) ?_)|refine zp ?_|refine zyn ?_
 refine zcj rfl ?_
 cases ok with
 | false =>
   rw [if_neg (by decide)] at hG
   repeat' first|refine zck ?_|refine zyq ?_|(refine zap rfl ?_;first|refine zbx rfl ?_|refine zae 2 rfl rfl rfl rfl rfl rfl rfl ?_|refine zae 3 rfl rfl rfl rfl rfl rfl rfl ?_)|refine zp ?_|refine zch ?_|refine zci rfl ?_
   exact zeg (hePush_fin w0 p wb vb eb m H R 0 24 false s _ rfl rfl hG)
 | true =>
   rw [if_pos rfl] at hG
   have hn := hn rfl
   refine zyr ?_
   repeat' first|(refine zap rfl ?_;refine zbx rfl ?_)|refine zp ?_|refine zyn ?_
   refine zcj rfl ?_
   refine zyr ?_
   repeat' first|(refine zap rfl ?_;first|refine zdn [0, 0] hG (heRoot w0 p wb H _ 1) rfl rfl rfl (fun o s hG => ?_)|refine zbt rfl rfl ?_)|refine zp ?_|refine zyn ?_
   refine zed rfl (fun ho => ?_) (fun ho => ?_)
   · rw [if_pos ho] at hG
     repeat' first|refine zck ?_|refine zyq ?_|(refine zap rfl ?_;first|refine zae 2 rfl rfl rfl rfl rfl rfl rfl ?_|refine zae 3 rfl rfl rfl rfl rfl rfl rfl ?_)|refine zch ?_
     exact zeg (hePush_fin w0 p wb vb eb m H R 0 9 false s _ rfl rfl hG)
   rw [if_neg ho] at hG
   refine zyr ?_
   repeat' first|(refine zap rfl ?_;first|refine zdn [0, 0] hG (heTake w0 p wb H hH _) rfl rfl rfl (fun t s hG => ?_)|refine zae 2 rfl rfl rfl rfl rfl rfl rfl ?_)|refine zp ?_|refine zyn ?_
   obtain ⟨a, e⟩ := t
   dsimp only at hG
   by_cases he : e = 0
   rotate_left
   · rw [if_pos he] at hG
     repeat' first|refine zck ?_|refine zyq ?_|(refine zap rfl ?_;first|refine zab 2 rfl rfl rfl ?_|refine zbe rfl rfl (by omega) ?_|refine zae 2 rfl rfl rfl rfl rfl rfl rfl ?_|refine zae 3 rfl rfl rfl rfl rfl rfl rfl ?_)|refine zch ?_|refine zci rfl ?_
     exact zeg (hePush_fin w0 p wb vb eb m H R 0 e false s _ rfl rfl hG)
   rw [if_neg (fun q => q he)] at hG
   subst he
   refine zyr ?_
   repeat' (refine zap rfl ?_;first|refine zab 2 rfl rfl rfl ?_|refine zbf rfl rfl (by omega) ?_)
   all_goals refine zyn ?_
   refine zcj rfl ?_
   have h38 := wrap64_id (m := 3 + n / 8) (by omega) (by omega)
   refine zyr ?_
   repeat' first|(refine zap rfl ?_;first|refine zbo rfl rfl ?_|refine zay rfl rfl (by omega) ?_)|refine zp ?_|refine zyn ?_
   refine run_join (S := Sp) (fun _ => [(2, .int .i64 pr), (3, .int .i64 v), (8, .pointer (some ⟨vb, 0, none⟩)), (9, .pointer (some ⟨eb, 0, none⟩)), (10, .pointer (some ⟨wb, 0, none⟩)), (11, .int .i64 n), (13, .int .i64 a)])
     (fun z Γ => Γ = [SpaceA p z, hwA wb p H false, erV eb 0, clI vb 0] ∧ At R (H.pushAt n pr v a >>= fun r => He.afterP m r.1 r.2) z) ?_ ?_
   · refine zed rfl (fun hk => ?_) (fun hk => ?_)
     · rw [if_pos hk] at hG
       refine zyr ?_
       repeat' first|(refine zap rfl ?_;refine zdn [0, 0] hG (heTake w0 p wb H hH _) rfl rfl rfl (fun t s hG => ?_))|refine zp ?_|refine zyn ?_
       obtain ⟨r, e⟩ := t
       dsimp only at hG
       by_cases he : e = 0
       rotate_left
       · rw [if_pos he] at hG
         repeat' first|refine zck ?_|refine zyq ?_|(refine zap rfl ?_;first|refine zbe rfl rfl (by omega) ?_|refine zae 2 rfl rfl rfl rfl rfl rfl rfl ?_|refine zae 3 rfl rfl rfl rfl rfl rfl rfl ?_)|refine zp ?_|refine zch ?_|refine zci rfl ?_
         exact cut_ret (hePush_fin w0 p wb vb eb m H R 0 e false s _ rfl rfl hG)
       rw [if_neg (fun q => q he)] at hG
       subst he
       refine zyr ?_
       repeat' first|(refine zap rfl ?_;refine zbf rfl rfl (by omega) ?_)|refine zp ?_|refine zyn ?_
       refine zcj rfl ?_
       repeat' first|refine zcm ?_|refine zyq ?_|(refine zap rfl ?_;first|refine zdv rfl rfl h38 ?_|refine zdu rfl rfl ?_|refine zab 1 rfl rfl rfl ?_|refine zdk [0] hG (putG w0 p _ _) rfl rfl rfl zdj (fun u s hG => ?_)|refine zax rfl rfl (by omega) ?_)|refine zp ?_|refine zyf rfl ?_|refine zch ?_
       exact zeq ⟨rfl, s, ⟨rfl, rfl, rfl, rfl, rfl, rfl, rfl, trivial⟩, ⟨rfl, hG⟩⟩
     · rw [if_neg hk] at hG
       repeat' first|refine zcm ?_|refine zp ?_|refine zch ?_
       exact zeq ⟨rfl, s, ⟨rfl, rfl, rfl, rfl, rfl, rfl, rfl, trivial⟩, ⟨rfl, hG⟩⟩
   rintro s Γ junk ⟨rfl, hG⟩
   simp only [He.pushAt, Pg.bind_assoc, Pg.pure_bind] at hG
   repeat' first|refine zck ?_|refine zyq ?_|(refine zap rfl ?_;first|refine zdn [0, 0] hG (hePut w0 p wb H _ a _ _) rfl rfl rfl (fun _ s hG => ?_)|refine zdn [0, 0] hG (heRoot w0 p wb H _ 1) rfl rfl rfl (fun o s hG => ?_)|refine zdn [0, 0] hG (heAdd w0 p wb H false _ _) rfl rfl rfl (fun _ s hG => ?_)|refine zdp [0, 0] hG (heRise w0 p wb H hH false (n + 1) a (by omega)) rfl rfl rfl (fun _ c s hG => ?_)|refine zau rfl rfl (by omega) ?_|refine zae 2 rfl rfl rfl rfl rfl rfl rfl ?_|refine zae 3 rfl rfl rfl rfl rfl rfl rfl ?_)|refine zp ?_|refine zch ?_
   exact zeg (hePush_fin w0 p wb vb eb m H R a 0 c s _ rfl rfl hG)
def intsL (l : List Int) : List Value := l.map (.int .i64)
def vsA (b : Nat) (l : List Int) : Asn := fun h => ∃ ad cap, Stars [pt b (.cells (List.toArray [.slice ad l.length cap]) 26 (0, 0)), SlA 2 1 ad l.length cap (intsL l)] h
theorem vs_snoc {b : Nat} {ad : Option Addr} {cap : Nat} {acc : List Int} {n : Int} {h : Heap} (hs : Stars [pt b (.cells (List.toArray [.slice ad (acc.length + 1) cap]) 26 (0, 0)), SlA 2 1 ad (acc.length + 1) cap (intsL acc ++ [.int .i64 n])] h) : vsA b (acc ++ [n]) h := by
 refine ⟨ad, cap, ?_⟩
 have e : intsL (acc ++ [n]) = intsL acc ++ [.int .i64 n] := by simp [intsL]
 rw [e, List.length_append]; exact hs
theorem ghVerts (p : Nat) (G : Gh) (hK : G.Ok) : ∀ s, Pg.Fits G.verts s → Vc.Fn PP w0 [] 94 [ghV G, spP p] [SpaceA p s]
   (fun v Γ => ∃ ad cap, v = .tuple #[.slice ad (Pg.run G.verts s).1.1.length cap, .int .i64 (Pg.run G.verts s).1.2] ∧ Γ = [SpaceA p (Pg.run G.verts s).2]) := by
 intro s hS; have hG := At.start hS; generalize Pg.run _ s = R at hG ⊢
 unfold Gh.verts at hG
 refine zep en94 fn94 rfl rfl rfl ?_
 refine zyr ?_
 repeat' (refine zap rfl ?_;first|refine zan rfl ?_|refine zaq (cs := [_, _, _, _]) rfl (fun nb => ?_))
 all_goals refine zyn ?_
 refine zeb [1] rfl ?_
 refine zyr ?_
 repeat' (refine zap rfl ?_;first|refine zar (fun sb => ?_))
 all_goals refine zyn ?_
 refine zyr ?_
 repeat' (refine zap rfl ?_;first|refine zar (fun eb => ?_)|refine zae 2 rfl rfl rfl rfl rfl rfl rfl ?_)
 all_goals refine zyn ?_
 first|refine zcp (by kernel_rfl) ?_|refine zcr [(.quiet, 0), (.quiet, 1), (.read, 2), (.loud, 3), (.loud, 4)] PP_mixed (by kernel_rfl) (by kernel_rfl) ?_|refine zeh PP_mixed (by kernel_rfl) (by kernel_rfl) ?_
 repeat' (refine zap rfl ?_;first|refine zan rfl ?_|refine zaa 0 rfl rfl rfl ?_|refine zah [] (ghAll w0 G) rfl rfl rfl zdj rfl ?_|refine zai [] (ghThrough w0 p eb G G.all) rfl rfl rfl zdj (fun v Γ' ⟨b1, b2, b3, b4, q1, q2⟩ => ?_))
 all_goals refine zyn ?_
 subst q1; subst q2
 refine zeb [0] rfl ?_
 refine zeb [0] rfl ?_
 refine zeb [0] rfl ?_
 refine zeb [0] rfl ?_
 refine run_close (A := vsA sb []) [1] rfl (fun h hs => ⟨none, 0, h, Heap.emp, Disj.emp_right h, (Heap.or_emp h).symm, Stars.one.1 hs, Stars.one.2 ⟨rfl, rfl, rfl, rfl⟩⟩) ?_
 repeat (first|refine zck ?_|refine zcl ?_|refine zcm ?_|refine zcn ?_|refine zco ?_)
 refine run_through [1, 0, 0] hK (fun i acc => acc.length = i) Gh.vertsF (fun l => vsA sb l) (fun _ => big []) hG rfl (fun i acc n s hi h _ => by simp [Gh.vertsF, Pg.run, pure, h]) rfl sub4 rfl (by kernel_rfl) rfl (fun i acc n s R hi hph hG => ?_) (fun D r s hq hG => ⟨fun hr => ?_, fun hr => ?_⟩)
 · unfold Gh.vertsF at hG
   refine zyr ?_
   repeat' (refine zap rfl ?_;first|refine zan rfl ?_)
   all_goals refine zyn ?_
   refine run_nil ⟨rfl, ?_⟩
   repeat (first|refine zck ?_|refine zcl ?_|refine zcm ?_|refine zcn ?_|refine zco ?_)
   refine run_open (A := vsA sb acc) [1] (fun i : Option Addr × Nat => [pt sb (.cells (List.toArray [.slice i.1 acc.length i.2]) 26 (0, 0)), SlA 2 1 i.1 acc.length i.2 (intsL acc)]) rfl (fun h ⟨ad, cap, hs⟩ => ⟨(ad, cap), hs⟩) (fun ⟨ad, cap⟩ => ?_)
   refine zyr ?_
   repeat' (refine zap rfl ?_;first|refine zdt rfl rfl rfl rfl rfl rfl (fun nb2 => ?_)|refine zan rfl ?_|refine zab 0 rfl rfl rfl ?_|refine zdz 1 3 rfl rfl rfl rfl rfl rfl rfl rfl (by omega) (fun _ _ => rfl) (fun a' cap' => ?_)|refine zae 0 rfl rfl rfl rfl rfl rfl rfl ?_)
   all_goals refine zyn ?_
   refine run_close (A := vsA sb (acc ++ [n])) [0, 0] rfl (fun h hs => vs_snoc hs) ?_
   refine zec [1, 0] rfl ?_
   rw [hG.done]
   repeat (first|refine zck ?_|refine zcl ?_|refine zcm ?_|refine zcn ?_|refine zco ?_)
   exact run_nil ⟨rfl, rfl⟩
 · refine run_open (A := vsA sb r.1) [2] (fun i : Option Addr × Nat => [pt sb (.cells (List.toArray [.slice i.1 r.1.length i.2]) 26 (0, 0)), SlA 2 1 i.1 r.1.length i.2 (intsL r.1)]) rfl (fun h ⟨ad, cap, hs⟩ => ⟨(ad, cap), hs⟩) (fun ⟨ad, cap⟩ => ?_)
   repeat (first|refine zck ?_|refine zcl ?_|refine zcm ?_|refine zcn ?_|refine zco ?_)
   refine zeb [4] rfl ?_
   refine zyr ?_
   repeat' (refine zap rfl ?_;first|refine zaa 0 rfl rfl rfl ?_|refine zbp rfl rfl ?_)
   all_goals refine zyn ?_
   refine zed rfl (fun he => ?_) (fun he => ?_)
   · have he : r.2.1 ≠ 0 := he
     rw [if_pos he] at hG
     rw [hG.done]
     refine zyx ?_
     first|refine zcp (by kernel_rfl) ?_|refine zcr [(.read, 0), (.quiet, 1), (.quiet, 2)] PP_mixed (by kernel_rfl) (by kernel_rfl) ?_|refine zeh PP_mixed (by kernel_rfl) (by kernel_rfl) ?_
     repeat' (refine zap rfl ?_;first|refine zan rfl ?_|refine zaa 0 rfl rfl rfl ?_)
     all_goals refine zyn ?_
     exact zeg (leaves_mark [2] rfl (zek (zel [2] rfl (zen rfl rfl rfl ⟨rfl, none, 0, rfl, rfl⟩))))
   · have he : ¬ r.2.1 ≠ 0 := he
     rw [if_neg he] at hG
     rw [hG.done]
     refine zyr ?_
     repeat' (refine zap rfl ?_;first|refine zan rfl ?_|refine zab 0 rfl rfl rfl ?_)
     all_goals refine zyn ?_
     exact zeg (leaves_mark [2] rfl (zek (zel [2] rfl (zen rfl rfl rfl ⟨rfl, ad, cap, rfl, rfl⟩))))
 · exact absurd (hq ▸ hr) (by rw [G.through_go _ _ (fun _ _ _ => rfl)]; decide)
def prsL : List (Int × Int) → List Value
 | [] => []
 | x :: l => .int .i64 x.1 :: .int .i64 x.2 :: prsL l
theorem prsL_append : ∀ (a b : List (Int × Int)), prsL (a ++ b) = prsL a ++ prsL b
 | [], _ => rfl
 | x :: a, b => by simp [prsL, prsL_append a b]
def psA (b : Nat) (l : List (Int × Int)) : Asn := fun h => ∃ ad cap, Stars [pt b (.cells (List.toArray [.slice ad l.length cap]) 134 (0, 0)), SlA 240 2 ad l.length cap (prsL l)] h
theorem ps_snoc {b : Nat} {ad : Option Addr} {cap : Nat} {acc : List (Int × Int)} {x y : Int} {h : Heap} (hs : Stars [pt b (.cells (List.toArray [.slice ad (acc.length + 1) cap]) 134 (0, 0)), SlA 240 2 ad (acc.length + 1) cap (prsL acc ++ [.int .i64 x, .int .i64 y])] h) : psA b (acc ++ [(x, y)]) h := by
 refine ⟨ad, cap, ?_⟩
 rw [prsL_append, List.length_append]; exact hs
theorem ghEnds (p : Nat) (G : Gh) (hK : G.Ok) (n : Int) (l : GL) (whom : Int) : ∀ s, Pg.Fits (G.ends n l whom) s → Vc.Fn PP w0 [] 184 [ghV G, spP p, .int .i64 n, glV l, .int .i64 whom] [SpaceA p s]
   (fun v Γ => ∃ ad cap, v = .tuple #[.slice ad (Pg.run (G.ends n l whom) s).1.1.length cap, .int .i64 (Pg.run (G.ends n l whom) s).1.2] ∧ Γ = [SpaceA p (Pg.run (G.ends n l whom) s).2]) := by
 intro s hS; have hG := At.start hS; generalize Pg.run _ s = R at hG ⊢
 unfold Gh.ends at hG
 refine zep en184 fn184 rfl rfl rfl ?_
 refine zyr ?_
 repeat' (refine zap rfl ?_;first|refine zan rfl ?_|refine zaq (cs := [_]) rfl (fun nb => ?_)|refine zaq (cs := [_, _, _]) rfl (fun nb => ?_)|refine zaq (cs := [_, _, _, _]) rfl (fun nb => ?_))
 all_goals refine zyn ?_
 refine zeb [1] rfl ?_
 refine zeb [1] rfl ?_
 refine zeb [1] rfl ?_
 refine zeb [1] rfl ?_
 refine zyr ?_
 repeat' (refine zap rfl ?_;first|refine zbx rfl ?_|refine zan rfl ?_|refine zaa 2 rfl rfl rfl ?_|refine zaa 3 rfl rfl rfl ?_|refine zdk [0] hG (ghVertex w0 p G hK n) rfl rfl rfl zdj (fun is s hG => ?_))
 all_goals refine zyn ?_
 cases is with
 | false =>
   rw [if_neg (by decide)] at hG
   rw [hG.done]
   refine zci rfl ?_
   repeat' (first|refine zck ?_|refine zcp (by kernel_rfl) ?_|(refine zap rfl ?_;first|refine zan rfl ?_)|refine zch ?_)
   exact zei rfl ⟨none, 0, rfl, rfl⟩
 | true =>
 rw [if_pos rfl] at hG
 refine zcj rfl ?_
 repeat (first|refine zck ?_|refine zcl ?_|refine zcm ?_|refine zcn ?_|refine zco ?_)
 refine zyr ?_
 repeat' (refine zap rfl ?_;first|refine zar (fun sb => ?_))
 all_goals refine zyn ?_
 refine zyr ?_
 repeat' (refine zap rfl ?_;first|refine zar (fun eb => ?_)|refine zae 2 rfl rfl rfl rfl rfl rfl rfl ?_)
 all_goals refine zyn ?_
 refine zyr ?_
 repeat' (refine zap rfl ?_;first|refine zaa 1 rfl rfl rfl ?_|refine zaa 2 rfl rfl rfl ?_|refine zaa 3 rfl rfl rfl ?_|refine zai [] (ghThrough w0 p eb G l) rfl rfl rfl zdj (fun v Γ' ⟨b1, b2, b3, b4, q1, q2⟩ => ?_))
 all_goals refine zyn ?_
 subst q1; subst q2
 refine zeb [0] rfl ?_
 refine zeb [0] rfl ?_
 refine zeb [0] rfl ?_
 refine zeb [0] rfl ?_
 refine run_close (A := psA sb []) [1] rfl (fun h hs => ⟨none, 0, h, Heap.emp, Disj.emp_right h, (Heap.or_emp h).symm, Stars.one.1 hs, Stars.one.2 ⟨rfl, rfl, rfl, rfl⟩⟩) ?_
 repeat (first|refine zck ?_|refine zcl ?_|refine zcm ?_|refine zcn ?_|refine zco ?_)
 refine run_through [1, 0, 0] hK (fun i acc => acc.length = i) (Gh.endsF whom) (fun l => psA sb l) (fun _ => big []) hG rfl (fun i acc n s hi h _ => by simp [Gh.endsF, Pg.run_bind, Pg.run, pure, h]) rfl sub4 rfl (by kernel_rfl) rfl (fun i acc n s R hi hph hG => ?_) (fun D r s hq hG => ⟨fun hr => ?_, fun hr => ?_⟩)
 · unfold Gh.endsF at hG
   refine zyr ?_
   repeat' (refine zap rfl ?_;first|refine zan rfl ?_)
   all_goals refine zyn ?_
   refine run_nil ⟨rfl, ?_⟩
   repeat (first|refine zck ?_|refine zcl ?_|refine zcm ?_|refine zcn ?_|refine zco ?_)
   refine run_open (A := psA sb acc) [1] (fun i : Option Addr × Nat => [pt sb (.cells (List.toArray [.slice i.1 acc.length i.2]) 134 (0, 0)), SlA 240 2 i.1 acc.length i.2 (prsL acc)]) rfl (fun h ⟨ad, cap, hs⟩ => ⟨(ad, cap), hs⟩) (fun ⟨ad, cap⟩ => ?_)
   refine run_drawT [0] [(.quiet, 0), (.quiet, 1), (.quiet, 2), (.quiet, 3), (.loud, 4), (.loud, 5), (.quiet, 6), (.quiet, 7), (.loud, 8), (.loud, 9), (.quiet, 10), (.loud, 11)] [(.loud, 12), (.loud, 13)] PP_mixed (by kernel_rfl) (by kernel_rfl) rfl ?_
   repeat' (refine zap rfl ?_;first|refine zaa 7 rfl rfl rfl ?_|refine zdt rfl rfl rfl rfl rfl rfl (fun nb2 => ?_)|refine zan rfl ?_|refine zaa 0 rfl rfl rfl ?_|refine zaa 5 rfl rfl rfl ?_|refine zah [] (ghAt w0 _ _) rfl rfl rfl zdj rfl ?_|refine zdk [1] hG (getG w0 p (w64 (n + whom))) rfl rfl rfl zdj (fun x s hG => ?_)|refine zdk [0] hG (getG w0 p (w64 (n + 3))) rfl rfl rfl zdj (fun y s hG => ?_)|refine zex rfl ?_)
   refine reg_turn ?_
   repeat' (refine zap rfl ?_;first|refine zdz 2 3 rfl rfl rfl rfl rfl rfl rfl rfl (by omega) (fun _ _ => rfl) (fun a' cap' => ?_)|refine zae 0 rfl rfl rfl rfl rfl rfl rfl ?_)
   refine zch ?_
   refine run_close (A := psA sb (acc ++ [(x, y)])) [0, 1] rfl (fun h hs => ps_snoc hs) ?_
   refine zec [1, 0] rfl ?_
   rw [hG.done]
   repeat (first|refine zck ?_|refine zcl ?_|refine zcm ?_|refine zcn ?_|refine zco ?_)
   exact run_nil ⟨rfl, rfl⟩
 · refine run_open (A := psA sb r.1) [2] (fun i : Option Addr × Nat => [pt sb (.cells (List.toArray [.slice i.1 r.1.length i.2]) 134 (0, 0)), SlA 240 2 i.1 r.1.length i.2 (prsL r.1)]) rfl (fun h ⟨ad, cap, hs⟩ => ⟨(ad, cap), hs⟩) (fun ⟨ad, cap⟩ => ?_)
   repeat (first|refine zck ?_|refine zcl ?_|refine zcm ?_|refine zcn ?_|refine zco ?_)
   refine zeb [4] rfl ?_
   refine zyr ?_
   repeat' (refine zap rfl ?_;first|refine zaa 0 rfl rfl rfl ?_|refine zbp rfl rfl ?_)
   all_goals refine zyn ?_
   refine zed rfl (fun he => ?_) (fun he => ?_)
   · have he : r.2.1 ≠ 0 := he
     rw [if_pos he] at hG
     rw [hG.done]
     refine zyx ?_
     first|refine zcp (by kernel_rfl) ?_|refine zcr [(.read, 0), (.quiet, 1), (.quiet, 2)] PP_mixed (by kernel_rfl) (by kernel_rfl) ?_|refine zeh PP_mixed (by kernel_rfl) (by kernel_rfl) ?_
     repeat' (refine zap rfl ?_;first|refine zan rfl ?_|refine zaa 0 rfl rfl rfl ?_)
     all_goals refine zyn ?_
     exact zeg (leaves_mark [2] rfl (zek (zel [2] rfl (zen rfl rfl rfl ⟨rfl, none, 0, rfl, rfl⟩))))
   · have he : ¬ r.2.1 ≠ 0 := he
     rw [if_neg he] at hG
     rw [hG.done]
     refine zyr ?_
     repeat' (refine zap rfl ?_;first|refine zan rfl ?_|refine zab 0 rfl rfl rfl ?_)
     all_goals refine zyn ?_
     exact zeg (leaves_mark [2] rfl (zek (zel [2] rfl (zen rfl rfl rfl ⟨rfl, ad, cap, rfl, rfl⟩))))
 · exact absurd (hq ▸ hr) (by rw [G.through_go _ _ (fun _ _ _ => rfl)]; decide)
theorem ghOuts (p : Nat) (G : Gh) (hK : G.Ok) (n : Int) : ∀ s, Pg.Fits (G.ends n (Gh.out n) 2) s → Vc.Fn PP w0 [] 91 [ghV G, spP p, .int .i64 n] [SpaceA p s]
   (fun v Γ => ∃ ad cap, v = .tuple #[.slice ad (Pg.run (G.ends n (Gh.out n) 2) s).1.1.length cap, .int .i64 (Pg.run (G.ends n (Gh.out n) 2) s).1.2] ∧ Γ = [SpaceA p (Pg.run (G.ends n (Gh.out n) 2) s).2]) := by
 intro s hS
 refine zep en91 fn91 rfl rfl rfl ?_
 refine zyr ?_
 repeat' (refine zap rfl ?_;first|refine zan rfl ?_|refine zaq (cs := [_, _, _, _]) rfl (fun nb => ?_))
 all_goals refine zyn ?_
 refine zeb [1] rfl ?_
 first|refine zcp (by kernel_rfl) ?_|refine zcr [(.quiet, 0), (.quiet, 1), (.quiet, 2), (.read, 3), (.quiet, 4), (.loud, 5), (.loud, 6), (.quiet, 7), (.quiet, 8), (.quiet, 9), (.quiet, 10)] PP_mixed (by kernel_rfl) (by kernel_rfl) ?_|refine zeh PP_mixed (by kernel_rfl) (by kernel_rfl) ?_
 repeat' (refine zap rfl ?_;first|refine zan rfl ?_|refine zan rfl ?_|refine zaa 0 rfl rfl rfl ?_|refine zah [] (ghOut w0 G n) rfl rfl rfl zdj rfl ?_|refine zai [0] (ghEnds w0 p G hK n _ 2 s hS) rfl rfl rfl zdj (fun | _, _, ⟨ad, cap, rfl, rfl⟩ => ?_)|refine zan rfl ?_)
 all_goals refine zyn ?_
 exact zei rfl ⟨ad, cap, rfl, rfl⟩
theorem ghIns (p : Nat) (G : Gh) (hK : G.Ok) (n : Int) : ∀ s, Pg.Fits (G.ends n (Gh.inn n) 1) s → Vc.Fn PP w0 [] 93 [ghV G, spP p, .int .i64 n] [SpaceA p s]
   (fun v Γ => ∃ ad cap, v = .tuple #[.slice ad (Pg.run (G.ends n (Gh.inn n) 1) s).1.1.length cap, .int .i64 (Pg.run (G.ends n (Gh.inn n) 1) s).1.2] ∧ Γ = [SpaceA p (Pg.run (G.ends n (Gh.inn n) 1) s).2]) := by
 intro s hS
 refine zep en93 fn93 rfl rfl rfl ?_
 refine zyr ?_
 repeat' (refine zap rfl ?_;first|refine zan rfl ?_|refine zaq (cs := [_, _, _, _]) rfl (fun nb => ?_))
 all_goals refine zyn ?_
 refine zeb [1] rfl ?_
 first|refine zcp (by kernel_rfl) ?_|refine zcr [(.quiet, 0), (.quiet, 1), (.quiet, 2), (.read, 3), (.quiet, 4), (.loud, 5), (.loud, 6), (.quiet, 7), (.quiet, 8), (.quiet, 9), (.quiet, 10)] PP_mixed (by kernel_rfl) (by kernel_rfl) ?_|refine zeh PP_mixed (by kernel_rfl) (by kernel_rfl) ?_
 repeat' (refine zap rfl ?_;first|refine zan rfl ?_|refine zan rfl ?_|refine zaa 0 rfl rfl rfl ?_|refine zah [] (ghIn w0 G n) rfl rfl rfl zdj rfl ?_|refine zai [0] (ghEnds w0 p G hK n _ 1 s hS) rfl rfl rfl zdj (fun | _, _, ⟨ad, cap, rfl, rfl⟩ => ?_)|refine zan rfl ?_)
 all_goals refine zyn ?_
 exact zei rfl ⟨ad, cap, rfl, rfl⟩
set_option maxRecDepth 20000
theorem ghAdd_fin (p eb m : Nat) (R : (Int × Int) × Sp) (v e : Int) (s : Sp) (ρ : Env) (h6 : ρ 6 = .int .i64 v) (h7 : ρ 7 = .pointer (some ⟨eb, 0, none⟩)) (hG : At R (Gh.after m (v, e)) s) :
   LeavesS PP w0 [] Tryz.f85 ρ [ghD p eb m] [SpaceA p s, erV eb e] (fun v Γ => v = encI2 R.1 ∧ Γ = [SpaceA p R.2]) := by
 refine leaves_defer1 [0, 0] (ghUndo w0 p s m eb e) rfl rfl zdj ?_
 refine zek (zel [0] rfl (zen rfl h6 (zeo 1 h7 rfl rfl) ?_))
 refine ⟨rfl, ?_⟩
 unfold Gh.after at hG
 by_cases hE : e ≠ 0
 · rw [if_pos hE] at hG
   rw [hG.step.2.done, if_pos hE]
   exact ⟨rfl, rfl⟩
 · rw [if_neg hE] at hG
   rw [hG.done, if_neg hE]
   exact ⟨rfl, rfl⟩
theorem ghAdd (p : Nat) (G : Gh) (hK : G.Ok) (name : Int) : FnG w0 [] 85 [ghV G, spP p, .int .i64 name] p (G.add name) encI2 := by
 intro s hS; have hG := At.start hS; generalize Pg.run _ s = R at hG ⊢
 simp only [Gh.add, Gh.addIn, Pg.bind_assoc, Pg.ite_bind, Pg.pure_bind] at hG
 refine zep en85 fn85 rfl rfl rfl ?_
 refine zyr ?_
 repeat' first|(refine zap rfl ?_;first|refine zar (fun eb => ?_)|refine zaq (cs := [_, _, _, _]) rfl (fun nb => ?_))|refine zp ?_|refine zyn ?_
 refine zeb [1] rfl ?_
 refine zyr ?_
 repeat' first|(refine zap rfl ?_;first|refine zcd rfl rfl ?_|refine zdk [0] hG (markG w0 p) rfl rfl rfl zdj (fun m s hG => ?_))|refine zp ?_|refine zyn ?_
 refine zyr ?_
 repeat' first|(refine zap rfl ?_;first|refine zdk [0] hG (takeG w0 p G.pool hK.1) rfl rfl rfl zdj (fun t s hG => ?_)|refine zae 1 rfl rfl rfl rfl rfl rfl rfl ?_)|refine zp ?_|refine zyl 0 rfl ?_|refine zyf rfl ?_|refine zyn ?_
 obtain ⟨a, e⟩ := t
 dsimp only at hG
 refine zyr ?_
 repeat' (refine zap rfl ?_;first|refine zab 1 rfl rfl rfl ?_|refine zbp rfl rfl ?_)
 all_goals refine zyn ?_
 refine zed rfl (fun hE => ?_) (fun hE => ?_)
 · rw [if_pos hE] at hG
   refine zyx ?_
   first|refine zcp (by kernel_rfl) ?_|refine zeh PP_mixed (by kernel_rfl) (by kernel_rfl) ?_
   repeat' first|(refine zap rfl ?_;first|refine zab 1 rfl rfl rfl ?_|refine zae 1 rfl rfl rfl rfl rfl rfl rfl ?_)|refine zp ?_|refine zyn ?_
   exact zeg (ghAdd_fin w0 p eb m R 0 e s _ rfl rfl hG)
 rw [if_neg hE] at hG
 have hE : e = 0 := by simpa using hE
 subst hE
 refine zyr ?_
 repeat' refine zp ?_
 all_goals refine zyn ?_
 refine zyr ?_
 repeat' first|(refine zap rfl ?_;first|refine reg_buildSlice1 rfl rfl rfl (fun nb2 => ?_)|refine zah [] (ghVm w0 G hK) rfl rfl rfl zdj rfl ?_|refine zce rfl ?_)|refine zp ?_|refine zyl 0 rfl ?_|refine zyn ?_
 refine zet ?_
 repeat' first|refine zck ?_|refine zcm ?_|refine zcl ?_|refine zcn ?_|refine zyq ?_|refine zco ?_|refine zcs rfl ?_|(refine zap rfl ?_;first|refine zaj rfl ?_|refine zak rfl ?_|refine zab 2 rfl rfl rfl ?_|refine zah [] (ghAt w0 _ _) rfl rfl rfl zdj rfl ?_|refine zdk [0] hG (putG w0 p _ _) rfl rfl rfl zdj (fun u s hG => ?_)|refine zah [] (ghAll w0 G) rfl rfl rfl zdj rfl ?_|refine zdk [0] hG (ghLink w0 p G hK G.all a) rfl rfl rfl zdj (fun e s hG => ?_)|refine zbe rfl rfl (by omega) ?_|refine zbf rfl rfl (by omega) ?_|refine zbg rfl rfl (by omega) ?_|refine zbh rfl rfl (by omega) ?_|refine zau rfl rfl (by omega) ?_|refine zbp rfl rfl ?_|refine zbu rfl ?_|refine zbv rfl ?_|refine zas rfl rfl (by omega) ?_)|refine zp ?_|refine zyl 0 rfl ?_|refine zch ?_|refine zci rfl ?_|refine zcj rfl ?_
 refine zec [0, 0] rfl ?_
 refine zed rfl (fun hE => ?_) (fun hE => ?_)
 · rw [if_pos hE] at hG
   refine zyr ?_
   repeat' first|(refine zap rfl ?_;refine zae 1 rfl rfl rfl rfl rfl rfl rfl ?_)|refine zp ?_|refine zyn ?_
   exact zeg (ghAdd_fin w0 p eb m R 0 e s _ rfl rfl hG)
 rw [if_neg hE] at hG
 repeat' first|refine zck ?_|refine zcm ?_|refine zyq ?_|(refine zap rfl ?_;first|refine zdu rfl rfl ?_|refine zdk [0] hG (ghMore w0 p _ _) rfl rfl rfl zdj (fun u s hG => ?_)|refine zae 1 rfl rfl rfl rfl rfl rfl rfl ?_)|refine zp ?_|refine zyl 0 rfl ?_|refine zyf rfl ?_|refine zch ?_
 exact zeg (ghAdd_fin w0 p eb m R a 0 s _ rfl rfl hG)
theorem ghLnk_fin (p eb m : Nat) (R : (Int × Int) × Sp) (v e : Int) (s : Sp) (ρ : Env) (h6 : ρ 10 = .int .i64 v) (h7 : ρ 11 = .pointer (some ⟨eb, 0, none⟩)) (hG : At R (Gh.after m (v, e)) s) :
   LeavesS PP w0 [] Tryz.f86 ρ [ghD p eb m] [SpaceA p s, erV eb e] (fun v Γ => v = encI2 R.1 ∧ Γ = [SpaceA p R.2]) := by
 refine leaves_defer1 [0, 0] (ghUndo w0 p s m eb e) rfl rfl zdj ?_
 refine zek (zel [0] rfl (zen rfl h6 (zeo 1 h7 rfl rfl) ?_))
 refine ⟨rfl, ?_⟩
 unfold Gh.after at hG
 by_cases hE : e ≠ 0
 · rw [if_pos hE] at hG
   rw [hG.step.2.done, if_pos hE]
   exact ⟨rfl, rfl⟩
 · rw [if_neg hE] at hG
   rw [hG.done, if_neg hE]
   exact ⟨rfl, rfl⟩
theorem ghLnk (p : Nat) (G : Gh) (hK : G.Ok) (a b c : Int) : FnG w0 [] 86 [ghV G, spP p, .int .i64 a, .int .i64 b, .int .i64 c] p (G.lnk a b c) encI2 := by
 intro s hS; have hG := At.start hS; generalize Pg.run _ s = R at hG ⊢
 simp only [Gh.lnk, Gh.linkIn, Pg.bind_assoc, Pg.ite_bind, Pg.pure_bind] at hG
 refine zep en86 fn86 rfl rfl rfl ?_
 refine zyr ?_
 repeat' first|(refine zap rfl ?_;first|refine zar (fun eb => ?_)|refine zaq (cs := [_, _, _, _]) rfl (fun nb => ?_))|refine zp ?_|refine zyn ?_
 refine zeb [1] rfl ?_
 refine zyr ?_
 repeat' first|(refine zap rfl ?_;first|refine zcd rfl rfl ?_|refine zdk [0] hG (markG w0 p) rfl rfl rfl zdj (fun m s hG => ?_))|refine zp ?_|refine zyn ?_
 have kv := ghVertex w0 p G hK a s hG.step.1
 have hG := hG.step.2
 generalize Pg.run (G.vertex a) s = q at kv hG
 obtain ⟨va, s1⟩ := q
 dsimp only at kv hG
 cases va with
 | false =>
   rw [if_neg (by decide)] at hG
   refine zyr ?_
   repeat' first|(refine zap rfl ?_;first|refine zbx rfl ?_|refine zak rfl ?_|refine zah [0] kv rfl rfl rfl zdj rfl ?_|refine zbu rfl ?_)|refine zp ?_|refine zyl 0 rfl ?_|refine zyn ?_
   refine zci rfl ?_
   refine zyr ?_
   repeat' first|(refine zap rfl ?_;refine zae 1 rfl rfl rfl rfl rfl rfl rfl ?_)|refine zp ?_|refine zyn ?_
   exact zeg (ghLnk_fin w0 p eb m R 0 10 s1 _ rfl rfl hG)
 | true =>
 rw [if_pos rfl] at hG
 have kv2 := ghVertex w0 p G hK b s1 hG.step.1
 have hG := hG.step.2
 generalize Pg.run (G.vertex b) s1 = q at kv2 hG
 obtain ⟨vb, s2⟩ := q
 dsimp only at kv2 hG
 cases vb with
 | false =>
   rw [if_neg (by decide)] at hG
   refine zyr ?_
   repeat' first|(refine zap rfl ?_;first|refine zbx rfl ?_|refine zaj rfl ?_|refine zah [0] kv rfl rfl rfl zdj rfl ?_|refine zah [0] kv2 rfl rfl rfl zdj rfl ?_|refine zbv rfl ?_)|refine zp ?_|refine zyl 0 rfl ?_|refine zyn ?_
   refine zci rfl ?_
   refine zyr ?_
   repeat' first|(refine zap rfl ?_;refine zae 1 rfl rfl rfl rfl rfl rfl rfl ?_)|refine zp ?_|refine zyn ?_
   exact zeg (ghLnk_fin w0 p eb m R 0 10 s2 _ rfl rfl hG)
 | true =>
 rw [if_pos rfl] at hG
 refine zyr ?_
 repeat' first|(refine zap rfl ?_;first|refine zbx rfl ?_|refine zaj rfl ?_|refine zah [0] kv rfl rfl rfl zdj rfl ?_|refine zah [0] kv2 rfl rfl rfl zdj rfl ?_|refine zbv rfl ?_)|refine zp ?_|refine zyl 0 rfl ?_|refine zyn ?_
 refine zcj rfl ?_
 repeat (first|refine zck ?_|refine zcl ?_|refine zcm ?_|refine zcn ?_|refine zco ?_)
 refine zyr ?_
 repeat' first|(refine zap rfl ?_;refine zdk [0] hG (ghFind w0 p G hK a b) rfl rfl rfl zdj (fun f s hG => ?_))|refine zp ?_|refine zyl 0 rfl ?_|refine zyn ?_
 obtain ⟨o, lo⟩ := f
 dsimp only at hG
 refine zyr ?_
 repeat' first|(refine zap rfl ?_;refine zbp rfl rfl ?_)|refine zp ?_|refine zyn ?_
 refine zed rfl (fun hE => ?_) (fun hE => ?_)
 · rw [if_pos hE] at hG
   refine zyr ?_
   repeat' first|(refine zap rfl ?_;refine zae 1 rfl rfl rfl rfl rfl rfl rfl ?_)|refine zp ?_|refine zyn ?_
   exact zeg (ghLnk_fin w0 p eb m R 0 11 s _ rfl rfl hG)
 rw [if_neg hE] at hG
 repeat (first|refine zck ?_|refine zcl ?_|refine zcm ?_|refine zcn ?_|refine zco ?_)
 refine zyr ?_
 repeat' first|(refine zap rfl ?_;first|refine zdk [0] hG (takeG w0 p G.pool hK.1) rfl rfl rfl zdj (fun t s hG => ?_)|refine zae 1 rfl rfl rfl rfl rfl rfl rfl ?_)|refine zp ?_|refine zyl 0 rfl ?_|refine zyf rfl ?_|refine zyn ?_
 obtain ⟨t, e⟩ := t
 dsimp only at hG
 refine zyr ?_
 repeat' (refine zap rfl ?_;first|refine zab 1 rfl rfl rfl ?_|refine zbp rfl rfl ?_)
 all_goals refine zyn ?_
 refine zed rfl (fun hE => ?_) (fun hE => ?_)
 · rw [if_pos hE] at hG
   refine zyx ?_
   first|refine zcp (by kernel_rfl) ?_|refine zeh PP_mixed (by kernel_rfl) (by kernel_rfl) ?_
   repeat' first|(refine zap rfl ?_;first|refine zab 1 rfl rfl rfl ?_|refine zae 1 rfl rfl rfl rfl rfl rfl rfl ?_)|refine zp ?_|refine zyn ?_
   exact zeg (ghLnk_fin w0 p eb m R 0 e s _ rfl rfl hG)
 rw [if_neg hE] at hG
 have hE : e = 0 := by simpa using hE
 subst hE
 repeat (first|refine zck ?_|refine zcl ?_|refine zcm ?_|refine zcn ?_|refine zco ?_)
 refine zyr ?_
 repeat' first|(refine zap rfl ?_;refine zbp rfl rfl ?_)|refine zp ?_|refine zyn ?_
 refine zed rfl (fun hE => ?_) (fun hE => ?_)
 · rw [if_pos hE] at hG
   refine zyr ?_
   repeat' first|(refine zap rfl ?_;refine zae 1 rfl rfl rfl rfl rfl rfl rfl ?_)|refine zp ?_|refine zyn ?_
   exact zeg (ghLnk_fin w0 p eb m R 0 lo s _ rfl rfl hG)
 rw [if_neg hE] at hG
 repeat (first|refine zck ?_|refine zcl ?_|refine zcm ?_|refine zcn ?_|refine zco ?_)
 refine zyr ?_
 repeat' refine zp ?_
 all_goals refine zyn ?_
 refine zyr ?_
 repeat' first|(refine zap rfl ?_;first|refine zdt rfl rfl rfl rfl rfl rfl (fun nb2 => ?_)|refine zah [] (ghEm w0 G hK) rfl rfl rfl zdj rfl ?_|refine zce rfl ?_)|refine zp ?_|refine zyl 0 rfl ?_|refine zyn ?_
 refine zet ?_
 repeat' first|refine zck ?_|refine zcm ?_|refine zcl ?_|refine zcn ?_|refine zyq ?_|refine zco ?_|refine zcs rfl ?_|(refine zap rfl ?_;first|refine zab 2 rfl rfl rfl ?_|refine zah [] (ghAt w0 _ _) rfl rfl rfl zdj rfl ?_|refine zdk [0] hG (putG w0 p _ _) rfl rfl rfl zdj (fun u s hG => ?_)|refine zah [] (ghOut w0 G a) rfl rfl rfl zdj rfl ?_|refine zdk [0] hG (ghLink w0 p G hK (Gh.out a) t) rfl rfl rfl zdj (fun e s hG => ?_)|refine zbg rfl rfl (by omega) ?_|refine zbh rfl rfl (by omega) ?_|refine zau rfl rfl (by omega) ?_|refine zbp rfl rfl ?_|refine zas rfl rfl (by omega) ?_)|refine zp ?_|refine zyl 0 rfl ?_|refine zch ?_|refine zci rfl ?_|refine zcj rfl ?_
 refine zec [0, 0] rfl ?_
 refine zed rfl (fun hE => ?_) (fun hE => ?_)
 · rw [if_pos hE] at hG
   refine zyr ?_
   repeat' first|(refine zap rfl ?_;refine zae 1 rfl rfl rfl rfl rfl rfl rfl ?_)|refine zp ?_|refine zyn ?_
   exact zeg (ghLnk_fin w0 p eb m R 0 e s _ rfl rfl hG)
 rw [if_neg hE] at hG
 repeat (first|refine zck ?_|refine zcl ?_|refine zcm ?_|refine zcn ?_|refine zco ?_)
 refine zyx ?_
 first|refine zcp (by kernel_rfl) ?_|refine zcr [(.quiet, 0), (.quiet, 1), (.read, 2), (.quiet, 3), (.loud, 4), (.quiet, 5), (.loud, 6), (.quiet, 7)] PP_mixed (by kernel_rfl) (by kernel_rfl) ?_|refine zeh PP_mixed (by kernel_rfl) (by kernel_rfl) ?_
 repeat' first|(refine zap rfl ?_;first|refine zah [] (ghIn w0 G b) rfl rfl rfl zdj rfl ?_|refine zdk [0] hG (ghLink w0 p G hK (Gh.inn b) t) rfl rfl rfl zdj (fun e s hG => ?_))|refine zp ?_|refine zyl 0 rfl ?_|refine zyn ?_
 refine zyr ?_
 repeat' first|(refine zap rfl ?_;refine zbp rfl rfl ?_)|refine zp ?_|refine zyn ?_
 refine zed rfl (fun hE => ?_) (fun hE => ?_)
 · rw [if_pos hE] at hG
   refine zyr ?_
   repeat' first|(refine zap rfl ?_;refine zae 1 rfl rfl rfl rfl rfl rfl rfl ?_)|refine zp ?_|refine zyn ?_
   exact zeg (ghLnk_fin w0 p eb m R 0 e s _ rfl rfl hG)
 rw [if_neg hE] at hG
 repeat' first|refine zck ?_|refine zcm ?_|refine zyq ?_|(refine zap rfl ?_;first|refine zdu rfl rfl ?_|refine zah [] (ghAt w0 _ _) rfl rfl rfl zdj rfl ?_|refine zdk [0] hG (ghMore w0 p _ _) rfl rfl rfl zdj (fun u s hG => ?_)|refine zae 1 rfl rfl rfl rfl rfl rfl rfl ?_)|refine zp ?_|refine zyl 0 rfl ?_|refine zyf rfl ?_|refine zch ?_
 exact zeg (ghLnk_fin w0 p eb m R t 0 s _ rfl rfl hG)
end Go.Proofs.YtgdhcgnmffgkiaaGreatDoor
