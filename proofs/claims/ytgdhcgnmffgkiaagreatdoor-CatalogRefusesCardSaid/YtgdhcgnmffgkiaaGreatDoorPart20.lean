import Derived.Test.YtgdhcgnmffgkiaaGreatDoorPart19
import Derived.Test.YtgdhcgnmffgkiaaGreatDoorPart17
import Derived.Test.YtgdhcgnmffgkiaaGreatDoorPart11
import Derived.Test.YtgdhcgnmffgkiaaGreatDoorPart2
/- Own work: lemmas of this claim. -/
namespace Go.Proofs.YtgdhcgnmffgkiaaGreatDoor
variable (w0 : World)
open Go.Vc Sim
set_option maxHeartbeats 4000000
set_option maxRecDepth 20000
theorem ghCutN (p : Nat) (G : Gh) (hK : G.Ok) (n : Int) : FnG w0 [] 181 [ghV G, spP p, .int .i64 n] p (G.cutN n) (.int .i64) := by
 intro s hS; have hG := At.start hS; generalize Pg.run _ s = R at hG ⊢
 unfold Gh.cutN at hG
 refine zep en181 fn181 rfl rfl rfl ?_
 refine zyr ?_
 repeat' (refine zap rfl ?_;first|refine zan rfl ?_|refine zaq (cs := [_, _, _, _]) rfl (fun nb => ?_))
 all_goals refine zyn ?_
 refine zeb [1] rfl ?_
 refine zyr ?_
 repeat' (refine zap rfl ?_;first|refine zan rfl ?_|refine zan rfl ?_|refine zah [] (ghAt w0 _ _) rfl rfl rfl zdj rfl ?_|refine zdk [0] hG (getG w0 p (w64 (n + 1))) rfl rfl rfl zdj (fun a s hG => ?_)|refine zdk [0] hG (getG w0 p (w64 (n + 2))) rfl rfl rfl zdj (fun b s hG => ?_))
 all_goals refine zyn ?_
 have ka := ghNode w0 G hK a
 have kb := ghNode w0 G hK b
 cases hA : G.nd a with
 | false =>
   rw [if_neg (by rw [hA]; rintro ⟨h, _⟩; cases h)] at hG
   rw [hA] at ka
   rw [hG.done]
   repeat' (first|refine zck ?_|refine zcp (by kernel_rfl) ?_|(refine zap rfl ?_;first|refine zbx rfl ?_|refine zak rfl ?_|refine zan rfl ?_|refine zan rfl ?_|refine zaa 0 rfl rfl rfl ?_|refine zah [] ka rfl rfl rfl zdj rfl ?_|refine zbu rfl ?_)|refine zch ?_|refine zci rfl ?_)
   exact zej rfl ⟨rfl, rfl⟩
 | true =>
 rw [hA] at ka
 cases hB : G.nd b with
 | false =>
   rw [if_neg (by rw [hB]; rintro ⟨_, h⟩; cases h)] at hG
   rw [hB] at kb
   rw [hG.done]
   repeat' (first|refine zck ?_|refine zcp (by kernel_rfl) ?_|(refine zap rfl ?_;first|refine zbx rfl ?_|refine zaj rfl ?_|refine zan rfl ?_|refine zan rfl ?_|refine zaa 0 rfl rfl rfl ?_|refine zah [] ka rfl rfl rfl zdj rfl ?_|refine zah [] kb rfl rfl rfl zdj rfl ?_|refine zbv rfl ?_)|refine zch ?_|refine zci rfl ?_)
   exact zej rfl ⟨rfl, rfl⟩
 | true =>
 rw [hB] at kb
 rw [if_pos ⟨hA, hB⟩] at hG
 refine zyr ?_
 repeat' (refine zap rfl ?_;first|refine zbx rfl ?_|refine zaj rfl ?_|refine zan rfl ?_|refine zaa 0 rfl rfl rfl ?_|refine zah [] ka rfl rfl rfl zdj rfl ?_|refine zah [] kb rfl rfl rfl zdj rfl ?_|refine zbv rfl ?_)
 all_goals refine zyn ?_
 refine zcj rfl ?_
 repeat (first|refine zck ?_|refine zcl ?_|refine zcm ?_|refine zcn ?_|refine zco ?_)
 refine zyx ?_
 first|refine zcp (by kernel_rfl) ?_|refine zcr [(.quiet, 0), (.quiet, 1), (.read, 2), (.quiet, 3), (.loud, 4), (.quiet, 5), (.loud, 6), (.quiet, 7)] PP_mixed (by kernel_rfl) (by kernel_rfl) ?_|refine zeh PP_mixed (by kernel_rfl) (by kernel_rfl) ?_
 repeat' (refine zap rfl ?_;first|refine zan rfl ?_|refine zan rfl ?_|refine zaa 0 rfl rfl rfl ?_|refine zah [] (ghOut w0 G a) rfl rfl rfl zdj rfl ?_|refine zdk [0] hG (ghUnlink w0 p G hK (Gh.out a) n) rfl rfl rfl zdj (fun e s hG => ?_))
 all_goals refine zyn ?_
 refine zyr ?_
 repeat' (refine zap rfl ?_;first|refine zan rfl ?_|refine zbp rfl rfl ?_)
 all_goals refine zyn ?_
 refine zed rfl (fun hE => ?_) (fun hE => ?_)
 · rw [if_pos hE] at hG
   rw [hG.done]
   refine zyr ?_
   repeat' (refine zap rfl ?_;first|refine zan rfl ?_|refine zan rfl ?_)
   all_goals refine zyn ?_
   exact zej rfl ⟨rfl, rfl⟩
 rw [if_neg hE] at hG
 repeat (first|refine zck ?_|refine zcl ?_|refine zcm ?_|refine zcn ?_|refine zco ?_)
 refine zyx ?_
 first|refine zcp (by kernel_rfl) ?_|refine zcr [(.quiet, 0), (.quiet, 1), (.read, 2), (.quiet, 3), (.loud, 4), (.quiet, 5), (.loud, 6), (.quiet, 7)] PP_mixed (by kernel_rfl) (by kernel_rfl) ?_|refine zeh PP_mixed (by kernel_rfl) (by kernel_rfl) ?_
 repeat' (refine zap rfl ?_;first|refine zan rfl ?_|refine zan rfl ?_|refine zaa 0 rfl rfl rfl ?_|refine zah [] (ghIn w0 G b) rfl rfl rfl zdj rfl ?_|refine zdk [0] hG (ghUnlink w0 p G hK (Gh.inn b) n) rfl rfl rfl zdj (fun e s hG => ?_))
 all_goals refine zyn ?_
 refine zyr ?_
 repeat' (refine zap rfl ?_;first|refine zan rfl ?_|refine zbp rfl rfl ?_)
 all_goals refine zyn ?_
 refine zed rfl (fun hE => ?_) (fun hE => ?_)
 · rw [if_pos hE] at hG
   rw [hG.done]
   refine zyr ?_
   repeat' (refine zap rfl ?_;first|refine zan rfl ?_|refine zan rfl ?_)
   all_goals refine zyn ?_
   exact zej rfl ⟨rfl, rfl⟩
 rw [if_neg hE] at hG
 repeat (first|refine zck ?_|refine zcl ?_|refine zcm ?_|refine zcn ?_|refine zco ?_)
 refine zyr ?_
 repeat' (refine zap rfl ?_;first|refine zan rfl ?_|refine zah [] (ghAt w0 _ _) rfl rfl rfl zdj rfl ?_|refine zdk [0] hG (ghMore w0 p _ _) rfl rfl rfl zdj (fun u s hG => ?_))
 all_goals refine zyn ?_
 refine zyr ?_
 repeat' (refine zap rfl ?_;first|refine zan rfl ?_|refine zah [] (ghAt w0 _ _) rfl rfl rfl zdj rfl ?_|refine zdk [0] hG (ghMore w0 p _ _) rfl rfl rfl zdj (fun u s hG => ?_))
 all_goals refine zyn ?_
 refine zyr ?_
 repeat' (refine zap rfl ?_;first|refine zdu rfl rfl ?_|refine zan rfl ?_|refine zaa 0 rfl rfl rfl ?_|refine zdk [0] hG (ghMore w0 p _ _) rfl rfl rfl zdj (fun u s hG => ?_)|refine zao rfl ?_)
 all_goals refine zyn ?_
 refine zyr ?_
 repeat' (refine zap rfl ?_;first|refine zdu rfl rfl ?_|refine zan rfl ?_|refine zaa 0 rfl rfl rfl ?_|refine zdk [0] hG (ghMore w0 p _ _) rfl rfl rfl zdj (fun u s hG => ?_)|refine zao rfl ?_)
 all_goals refine zyn ?_
 have hG := hG.to (Pg.bind_pure _).symm
 refine zyr ?_
 repeat' (refine zap rfl ?_;first|refine zan rfl ?_|refine zan rfl ?_|refine zaa 0 rfl rfl rfl ?_|refine zdk [0] hG (giveG w0 p G.pool hK.1 n) rfl rfl rfl zdj (fun e s hG => ?_)|refine zao rfl ?_)
 all_goals refine zyn ?_
 rw [hG.done]
 exact zej rfl ⟨rfl, rfl⟩
theorem ghCut_fin (p eb m : Nat) (R : Int × Sp) (e : Int) (s : Sp) (ρ : Env) (h7 : ρ 6 = .pointer (some ⟨eb, 0, none⟩)) (hG : At R (Gh.afterE m e) s) :
   LeavesS PP w0 [] Tryz.f87 ρ [ghD p eb m] [SpaceA p s, erV eb e] (fun v Γ => v = .int .i64 R.1 ∧ Γ = [SpaceA p R.2]) := by
 refine leaves_defer1 [0, 0] (ghUndo w0 p s m eb e) rfl rfl zdj ?_
 refine zek (zel [0] rfl (zem rfl (zeo 1 h7 rfl rfl) ?_))
 refine ⟨rfl, ?_⟩
 unfold Gh.afterE at hG
 by_cases hE : e ≠ 0
 · rw [if_pos hE] at hG
   rw [hG.step.2.done, if_pos hE]
   exact ⟨rfl, rfl⟩
 · rw [if_neg hE] at hG
   rw [hG.done, if_neg hE]
   exact ⟨rfl, rfl⟩
theorem ghCut (p : Nat) (G : Gh) (hK : G.Ok) (n : Int) : FnG w0 [] 87 [ghV G, spP p, .int .i64 n] p (G.cut n) (.int .i64) := by
 intro s hS; have hG := At.start hS; generalize Pg.run _ s = R at hG ⊢
 simp only [Gh.cut] at hG
 refine zep en87 fn87 rfl rfl rfl ?_
 refine zyr ?_
 repeat' (refine zap rfl ?_;first|refine zar (fun eb => ?_)|refine zaq (cs := [_, _, _, _]) rfl (fun nb => ?_))
 all_goals refine zyn ?_
 refine zeb [1] rfl ?_
 refine zyr ?_
 repeat' (refine zap rfl ?_;first|refine zcd rfl rfl ?_|refine zan rfl ?_|refine zdk [0] hG (markG w0 p) rfl rfl rfl zdj (fun m s hG => ?_))
 all_goals refine zyn ?_
 refine zyr ?_
 repeat' (refine zap rfl ?_;first|refine zbx rfl ?_|refine zan rfl ?_|refine zaa 0 rfl rfl rfl ?_|refine zdk [0] hG (ghEdge w0 p G hK n) rfl rfl rfl zdj (fun is s hG => ?_))
 all_goals refine zyn ?_
 cases is with
 | false =>
   rw [if_neg (by decide)] at hG
   refine zci rfl ?_
   refine zyr ?_
   repeat' (refine zap rfl ?_;first|refine zae 1 rfl rfl rfl rfl rfl rfl rfl ?_)
   all_goals refine zyn ?_
   exact zeg (ghCut_fin w0 p eb m R 10 s _ rfl hG)
 | true =>
   rw [if_pos rfl] at hG
   refine zcj rfl ?_
   repeat (first|refine zck ?_|refine zcl ?_|refine zcm ?_|refine zcn ?_|refine zco ?_)
   refine zyr ?_
   repeat' (refine zap rfl ?_;first|refine zan rfl ?_|refine zaa 0 rfl rfl rfl ?_|refine zdk [0] hG (ghCutN w0 p G hK n) rfl rfl rfl zdj (fun e s hG => ?_)|refine zae 1 rfl rfl rfl rfl rfl rfl rfl ?_)
   all_goals refine zyn ?_
   exact zeg (ghCut_fin w0 p eb m R e s _ rfl hG)
set_option maxRecDepth 20000
theorem ghEmpty (p : Nat) (G : Gh) (hK : G.Ok) (l : GL) : FnG w0 [] 182 [ghV G, spP p, glV l] p (G.empty l) (.int .i64) := by
 intro s hS; have hG := At.start hS; generalize Pg.run _ s = R at hG ⊢
 unfold Gh.empty at hG
 obtain ⟨⟨hp1, hp2, hp3, hp4, hp5, hp6, hp7⟩, _, _⟩ := id hK
 refine zep en182 fn182 rfl rfl rfl ?_
 refine zyr ?_
 repeat' first|(refine zap rfl ?_;first|refine zaq (cs := [_, _, _]) rfl (fun nb => ?_)|refine zaq (cs := [_, _, _, _]) rfl (fun nb => ?_))|refine zp ?_|refine zyn ?_
 rename_i gb
 revert nb; intro lb
 refine zeb [1] rfl ?_
 refine zeb [1] rfl ?_
 refine zyr ?_
 repeat' refine zp ?_
 all_goals refine zyn ?_
 refine run_loop (S := Nat × Sp) (fun v => [(1, spP p), (3, .pointer (some ⟨gb, 0, none⟩)), (5, .pointer (some ⟨lb, 0, none⟩)), (7, .int .i64 (G.pool.nodes + 1 - v.1))])
   (fun v Γ => Γ = [SpaceA p v.2] ∧ At R (G.emptyK l v.1) v.2 ∧ v.1 ≤ G.pool.nodes.toNat + 1) (fun v => v.1) (G.pool.nodes.toNat + 1, s) ⟨rfl, rfl, rfl, by show Value.int .i64 0 = _; congr 1; dsimp only; omega, trivial⟩ ⟨rfl, hG, Nat.le_refl _⟩ ?_
 rintro ⟨k, s⟩ Γ junk ⟨rfl, hG, hle⟩
 dsimp only at hG hle ⊢
 repeat (first|refine zck ?_|refine zcl ?_|refine zcm ?_|refine zcn ?_|refine zco ?_)
 cases k with
 | zero =>
   rw [Gh.emptyK] at hG
   refine zyr ?_
   repeat' first|(refine zap rfl ?_;refine zdk [0] hG (getG w0 p _) rfl rfl rfl zdj (fun n s hG => ?_))|refine zp ?_|refine zyl 0 rfl ?_|refine zyf rfl ?_|refine zyn ?_
   by_cases hn : n = 0
   · rw [if_pos hn] at hG
     rw [hG.done]
     repeat' first|refine zck ?_|refine zyq ?_|(refine zap rfl ?_;refine zbc rfl rfl (by omega) ?_)|refine zp ?_|refine zch ?_|refine zci rfl ?_
     exact cut_ret (zek (zem rfl rfl ⟨rfl, rfl⟩))
   rw [if_neg hn] at hG
   rw [hG.done]
   have kn := ghNode w0 G hK n
   cases hN : G.nd n with
   | false =>
     rw [hN] at kn
     repeat' first|refine zck ?_|refine zyq ?_|(refine zap rfl ?_;first|refine zbx rfl ?_|refine zak rfl ?_|refine zah [] kn rfl rfl rfl zdj rfl ?_|refine zbd rfl rfl (by omega) ?_|refine zbu rfl ?_)|refine zp ?_|refine zyl 1 rfl ?_|refine zch ?_|refine zci rfl ?_|refine zcj rfl ?_
     exact cut_ret (zek (zem rfl rfl ⟨rfl, rfl⟩))
   | true =>
     rw [hN] at kn
     repeat' first|refine zck ?_|refine zyq ?_|(refine zap rfl ?_;first|refine zbx rfl ?_|refine zaj rfl ?_|refine zah [] kn rfl rfl rfl zdj rfl ?_|refine zbd rfl rfl (by omega) ?_|refine zbk rfl rfl (by omega) ?_|refine zbv rfl ?_)|refine zp ?_|refine zyl 1 rfl ?_|refine zyf rfl ?_|refine zch ?_|refine zci rfl ?_|refine zcj rfl ?_
     exact cut_ret (zek (zem rfl rfl ⟨rfl, rfl⟩))
 | succ k =>
   rw [Gh.emptyK] at hG
   refine zyr ?_
   repeat' first|(refine zap rfl ?_;refine zdk [0] hG (getG w0 p _) rfl rfl rfl zdj (fun n s hG => ?_))|refine zp ?_|refine zyl 0 rfl ?_|refine zyf rfl ?_|refine zyn ?_
   by_cases hn : n = 0
   · rw [if_pos hn] at hG
     rw [hG.done]
     repeat' first|refine zck ?_|refine zyq ?_|(refine zap rfl ?_;refine zbc rfl rfl (by omega) ?_)|refine zp ?_|refine zch ?_|refine zci rfl ?_
     exact cut_ret (zek (zem rfl rfl ⟨rfl, rfl⟩))
   rw [if_neg hn] at hG
   have kn := ghNode w0 G hK n
   cases hN : G.nd n with
   | false =>
     rw [hN, if_neg (by decide)] at hG
     rw [hG.done]
     rw [hN] at kn
     repeat' first|refine zck ?_|refine zyq ?_|(refine zap rfl ?_;first|refine zbx rfl ?_|refine zak rfl ?_|refine zah [] kn rfl rfl rfl zdj rfl ?_|refine zbd rfl rfl (by omega) ?_|refine zbu rfl ?_)|refine zp ?_|refine zyl 1 rfl ?_|refine zch ?_|refine zci rfl ?_|refine zcj rfl ?_
     exact cut_ret (zek (zem rfl rfl ⟨rfl, rfl⟩))
   | true =>
     rw [hN, if_pos rfl] at hG
     rw [hN] at kn
     refine zyr ?_
     repeat' first|(refine zap rfl ?_;refine zbd rfl rfl (by omega) ?_)|refine zp ?_|refine zyn ?_
     refine zcj rfl ?_
     repeat (first|refine zck ?_|refine zcl ?_|refine zcm ?_|refine zcn ?_|refine zco ?_)
     refine zyr ?_
     repeat' first|(refine zap rfl ?_;first|refine zbx rfl ?_|refine zaj rfl ?_|refine zah [] kn rfl rfl rfl zdj rfl ?_|refine zbl rfl rfl (by omega) ?_|refine zbv rfl ?_)|refine zp ?_|refine zyl 1 rfl ?_|refine zyf rfl ?_|refine zyn ?_
     refine zcj rfl ?_
     repeat (first|refine zck ?_|refine zcl ?_|refine zcm ?_|refine zcn ?_|refine zco ?_)
     refine zyr ?_
     repeat' first|(refine zap rfl ?_;refine zdk [0] hG (ghCutN w0 p G hK n) rfl rfl rfl zdj (fun e s hG => ?_))|refine zp ?_|refine zyl 1 rfl ?_|refine zyn ?_
     refine zyr ?_
     repeat' first|(refine zap rfl ?_;refine zbp rfl rfl ?_)|refine zp ?_|refine zyn ?_
     refine zed rfl (fun hE => ?_) (fun hE => ?_)
     · rw [if_pos hE] at hG
       rw [hG.done]
       refine zyr ?_
       repeat' refine zp ?_
       all_goals refine zyn ?_
       exact cut_ret (zek (zem rfl rfl ⟨rfl, rfl⟩))
     rw [if_neg hE] at hG
     repeat (first|refine zck ?_|refine zcl ?_|refine zcm ?_|refine zcn ?_|refine zco ?_)
     repeat' first|refine zyq ?_|(refine zap rfl ?_;refine zau rfl rfl (by omega) ?_)|refine zp ?_|refine zch ?_
     exact zeq ⟨rfl, (k, s), ⟨rfl, rfl, rfl, by show Value.int .i64 _ = _; congr 1; dsimp only; omega, trivial⟩, ⟨rfl, hG, by dsimp only; omega⟩, Nat.lt_succ_self k⟩
set_option maxRecDepth 20000
theorem ghDrop_fin (p eb m : Nat) (R : (Int × Int) × Sp) (v e : Int) (s : Sp) (ρ : Env) (h6 : ρ 6 = .int .i64 v) (h7 : ρ 7 = .pointer (some ⟨eb, 0, none⟩)) (hG : At R (Gh.after m (v, e)) s) :
   LeavesS PP w0 [] Tryz.f88 ρ [ghD p eb m] [SpaceA p s, erV eb e] (fun v Γ => v = encI2 R.1 ∧ Γ = [SpaceA p R.2]) := by
 refine leaves_defer1 [0, 0] (ghUndo w0 p s m eb e) rfl rfl zdj ?_
 refine zek (zel [0] rfl (zen rfl h6 (zeo 1 h7 rfl rfl) ?_))
 refine ⟨rfl, ?_⟩
 unfold Gh.after at hG
 by_cases hE : e ≠ 0
 · rw [if_pos hE] at hG
   rw [hG.step.2.done, if_pos hE]
   exact ⟨rfl, rfl⟩
 · rw [if_neg hE] at hG
   rw [hG.done, if_neg hE]
   exact ⟨rfl, rfl⟩
theorem ghDrop (p : Nat) (G : Gh) (hK : G.Ok) (n : Int) : FnG w0 [] 88 [ghV G, spP p, .int .i64 n] p (G.drop n) encI2 := by
 intro s hS; have hG := At.start hS; generalize Pg.run _ s = R at hG ⊢
 simp only [Gh.drop, Gh.dropIn, Gh.dropEnd, Pg.bind_assoc, Pg.ite_bind, Pg.pure_bind] at hG
 refine zep en88 fn88 rfl rfl rfl ?_
 refine zyr ?_
 repeat' first|(refine zap rfl ?_;first|refine zar (fun eb => ?_)|refine zaq (cs := [_, _, _, _]) rfl (fun nb => ?_))|refine zp ?_|refine zyn ?_
 refine zeb [1] rfl ?_
 refine zyr ?_
 repeat' first|(refine zap rfl ?_;first|refine zcd rfl rfl ?_|refine zdk [0] hG (markG w0 p) rfl rfl rfl zdj (fun m s hG => ?_))|refine zp ?_|refine zyn ?_
 refine zyr ?_
 repeat' first|(refine zap rfl ?_;first|refine zbx rfl ?_|refine zdk [0] hG (ghVertex w0 p G hK n) rfl rfl rfl zdj (fun is s hG => ?_))|refine zp ?_|refine zyl 0 rfl ?_|refine zyn ?_
 cases is with
 | false =>
   rw [if_neg (by decide)] at hG
   refine zci rfl ?_
   refine zyr ?_
   repeat' first|(refine zap rfl ?_;refine zae 1 rfl rfl rfl rfl rfl rfl rfl ?_)|refine zp ?_|refine zyn ?_
   exact zeg (ghDrop_fin w0 p eb m R 0 10 s _ rfl rfl hG)
 | true =>
 rw [if_pos rfl] at hG
 refine zcj rfl ?_
 repeat (first|refine zck ?_|refine zcl ?_|refine zcm ?_|refine zcn ?_|refine zco ?_)
 refine zyr ?_
 repeat' first|(refine zap rfl ?_;first|refine zah [] (ghAt w0 _ _) rfl rfl rfl zdj rfl ?_|refine zdk [0] hG (getG w0 p _) rfl rfl rfl zdj (fun v s hG => ?_))|refine zp ?_|refine zyn ?_
 first|refine zcp (by kernel_rfl) ?_|refine zcr [(.read, 0), (.quiet, 1), (.loud, 2), (.quiet, 3), (.quiet, 4), (.loud, 5), (.loud, 6), (.quiet, 7), (.quiet, 8)] PP_mixed (by kernel_rfl) (by kernel_rfl) ?_|refine zeh PP_mixed (by kernel_rfl) (by kernel_rfl) ?_
 repeat' first|(refine zap rfl ?_;first|refine zdt rfl rfl rfl rfl rfl rfl (fun nb2 => ?_)|refine zah [] (ghOut w0 G n) rfl rfl rfl zdj rfl ?_|refine zah [] (ghIn w0 G n) rfl rfl rfl zdj rfl ?_|refine zce rfl ?_)|refine zp ?_|refine zyl 0 rfl ?_|refine zyn ?_
 refine zeb [2] rfl ?_
 refine zet ?_
 repeat' first|refine zck ?_|refine zcm ?_|refine zcl ?_|refine zyq ?_|(refine zap rfl ?_;first|refine zar (fun q => ?_)|refine zab 2 rfl rfl rfl ?_|refine zdk [0] hG (ghEmpty w0 p G hK (Gh.out n)) rfl rfl rfl zdj (fun e s hG => ?_)|refine zbg rfl rfl (by omega) ?_|refine zbp rfl rfl ?_|refine zae 2 rfl rfl rfl rfl rfl rfl rfl ?_|refine zas rfl rfl (by omega) ?_)|refine zp ?_|refine zyl 0 rfl ?_|refine zyl 1 rfl ?_|refine zch ?_|refine zci rfl ?_
 refine zec [0, 0] rfl ?_
 refine zed rfl (fun hE => ?_) (fun hE => ?_)
 · rw [if_pos hE] at hG
   refine zyr ?_
   repeat' first|(refine zap rfl ?_;refine zae 1 rfl rfl rfl rfl rfl rfl rfl ?_)|refine zp ?_|refine zyn ?_
   exact zeg (ghDrop_fin w0 p eb m R 0 e s _ rfl rfl hG)
 rw [if_neg hE] at hG
 repeat' first|refine zck ?_|refine zcm ?_|refine zcl ?_|refine zcn ?_|refine zyq ?_|refine zco ?_|(refine zap rfl ?_;first|refine zar (fun q => ?_)|refine zab 2 rfl rfl rfl ?_|refine zdk [0] hG (ghEmpty w0 p G hK (Gh.inn n)) rfl rfl rfl zdj (fun e s hG => ?_)|refine zbg rfl rfl (by omega) ?_|refine zau rfl rfl (by omega) ?_|refine zbp rfl rfl ?_|refine zae 2 rfl rfl rfl rfl rfl rfl rfl ?_|refine zas rfl rfl (by omega) ?_)|refine zp ?_|refine zyl 0 rfl ?_|refine zyl 1 rfl ?_|refine zch ?_|refine zci rfl ?_
 refine zec [0, 0] rfl ?_
 refine zed rfl (fun hE => ?_) (fun hE => ?_)
 · rw [if_pos hE] at hG
   refine zyr ?_
   repeat' first|(refine zap rfl ?_;refine zae 1 rfl rfl rfl rfl rfl rfl rfl ?_)|refine zp ?_|refine zyn ?_
   exact zeg (ghDrop_fin w0 p eb m R 0 e s _ rfl rfl hG)
 rw [if_neg hE] at hG
 repeat' first|refine zck ?_|refine zcm ?_|refine zcn ?_|refine zyq ?_|refine zco ?_|refine zcs rfl ?_|(refine zap rfl ?_;first|refine zah [] (ghAll w0 G) rfl rfl rfl zdj rfl ?_|refine zdk [0] hG (ghUnlink w0 p G hK G.all n) rfl rfl rfl zdj (fun e s hG => ?_)|refine zbh rfl rfl (by omega) ?_|refine zau rfl rfl (by omega) ?_|refine zbp rfl rfl ?_)|refine zp ?_|refine zyl 1 rfl ?_|refine zch ?_|refine zcj rfl ?_
 refine zed rfl (fun hE => ?_) (fun hE => ?_)
 · rw [if_pos hE] at hG
   refine zyr ?_
   repeat' first|(refine zap rfl ?_;refine zae 1 rfl rfl rfl rfl rfl rfl rfl ?_)|refine zp ?_|refine zyn ?_
   exact zeg (ghDrop_fin w0 p eb m R 0 e s _ rfl rfl hG)
 rw [if_neg hE] at hG
 repeat' first|refine zck ?_|refine zcm ?_|refine zyq ?_|(refine zap rfl ?_;first|refine zdu rfl rfl ?_|refine zdk [0] hG (ghMore w0 p _ _) rfl rfl rfl zdj (fun u s hG => ?_)|refine zdk [0] hG (giveG w0 p G.pool hK.1 n) rfl rfl rfl zdj (fun e s hG => ?_)|refine zbp rfl rfl ?_)|refine zp ?_|refine zyl 1 rfl ?_|refine zyf rfl ?_|refine zch ?_
 refine zed rfl (fun hE => ?_) (fun hE => ?_)
 · rw [if_pos hE] at hG
   refine zyr ?_
   repeat' first|(refine zap rfl ?_;refine zae 1 rfl rfl rfl rfl rfl rfl rfl ?_)|refine zp ?_|refine zyn ?_
   exact zeg (ghDrop_fin w0 p eb m R 0 e s _ rfl rfl hG)
 rw [if_neg hE] at hG
 repeat' first|refine zck ?_|refine zcm ?_|refine zyq ?_|(refine zap rfl ?_;refine zae 1 rfl rfl rfl rfl rfl rfl rfl ?_)|refine zp ?_|refine zch ?_
 exact zeg (ghDrop_fin w0 p eb m R v 0 s _ rfl rfl hG)
theorem ghWeight (p : Nat) (G : Gh) (hK : G.Ok) (a b : Int) : FnG w0 [] 89 [ghV G, spP p, .int .i64 a, .int .i64 b] p (G.weigh a b) (fun r => .tuple #[.int .i64 r.1, .bool r.2]) := by
 intro s hS; have hG := At.start hS; generalize Pg.run _ s = R at hG ⊢
 unfold Gh.weigh at hG
 refine zep en89 fn89 rfl rfl rfl ?_
 refine zyr ?_
 repeat' first|(refine zap rfl ?_;refine zaq (cs := [_, _, _, _]) rfl (fun nb => ?_))|refine zp ?_|refine zyn ?_
 refine zeb [1] rfl ?_
 have kv := ghVertex w0 p G hK a s hG.step.1
 have hG := hG.step.2
 generalize Pg.run (G.vertex a) s = q at kv hG
 obtain ⟨va, s1⟩ := q
 dsimp only at kv hG
 cases va with
 | false =>
   rw [if_neg (by decide)] at hG
   rw [hG.done]
   repeat' first|refine zck ?_|refine zyq ?_|(refine zap rfl ?_;first|refine zbx rfl ?_|refine zak rfl ?_|refine zah [0] kv rfl rfl rfl zdj rfl ?_|refine zbu rfl ?_)|refine zp ?_|refine zyl 0 rfl ?_|refine zch ?_|refine zci rfl ?_
   exact zei rfl ⟨rfl, rfl⟩
 | true =>
 rw [if_pos rfl] at hG
 have kv2 := ghVertex w0 p G hK b s1 hG.step.1
 have hG := hG.step.2
 generalize Pg.run (G.vertex b) s1 = q at kv2 hG
 obtain ⟨vb, s2⟩ := q
 dsimp only at kv2 hG
 cases vb with
 | false =>
   rw [if_neg (by decide)] at hG
   rw [hG.done]
   repeat' first|refine zck ?_|refine zyq ?_|(refine zap rfl ?_;first|refine zbx rfl ?_|refine zaj rfl ?_|refine zah [0] kv rfl rfl rfl zdj rfl ?_|refine zah [0] kv2 rfl rfl rfl zdj rfl ?_|refine zbv rfl ?_)|refine zp ?_|refine zyl 0 rfl ?_|refine zch ?_|refine zci rfl ?_
   exact zei rfl ⟨rfl, rfl⟩
 | true =>
 rw [if_pos rfl] at hG
 refine zyr ?_
 repeat' first|(refine zap rfl ?_;first|refine zbx rfl ?_|refine zaj rfl ?_|refine zah [0] kv rfl rfl rfl zdj rfl ?_|refine zah [0] kv2 rfl rfl rfl zdj rfl ?_|refine zbv rfl ?_)|refine zp ?_|refine zyl 0 rfl ?_|refine zyn ?_
 refine zcj rfl ?_
 repeat (first|refine zck ?_|refine zcl ?_|refine zcm ?_|refine zcn ?_|refine zco ?_)
 refine zyr ?_
 repeat' first|(refine zap rfl ?_;refine zdk [0] hG (ghFind w0 p G hK a b) rfl rfl rfl zdj (fun f s hG => ?_))|refine zp ?_|refine zyl 0 rfl ?_|refine zyn ?_
 obtain ⟨o, lo⟩ := f
 dsimp only at hG
 by_cases ho : o = 0
 · rw [if_pos (Or.inl ho)] at hG
   rw [hG.done]
   repeat' first|refine zck ?_|refine zyq ?_|(refine zap rfl ?_;first|refine zak rfl ?_|refine zbc rfl rfl (by omega) ?_|refine zbu rfl ?_)|refine zp ?_|refine zch ?_|refine zci rfl ?_
   exact zei rfl ⟨rfl, rfl⟩
 by_cases hl : lo ≠ 0
 · rw [if_pos (Or.inr hl)] at hG
   rw [hG.done]
   repeat' first|refine zck ?_|refine zyq ?_|(refine zap rfl ?_;first|refine zaj rfl ?_|refine zbd rfl rfl (by omega) ?_|refine zbe rfl rfl (by omega) ?_|refine zbv rfl ?_)|refine zp ?_|refine zch ?_|refine zci rfl ?_
   exact zei rfl ⟨rfl, rfl⟩
 rw [if_neg (fun h => h.elim ho hl)] at hG
 have hl : lo = 0 := by simpa using hl
 subst hl
 repeat' first|refine zck ?_|refine zcm ?_|refine zyq ?_|(refine zap rfl ?_;first|refine zaj rfl ?_|refine zah [] (ghAt w0 _ _) rfl rfl rfl zdj rfl ?_|refine zdk [0] hG (getG w0 p _) rfl rfl rfl zdj (fun v s hG => ?_)|refine zbd rfl rfl (by omega) ?_|refine zbf rfl rfl (by omega) ?_|refine zbv rfl ?_)|refine zp ?_|refine zch ?_|refine zcj rfl ?_
 rw [hG.done]
 exact zei rfl ⟨rfl, rfl⟩
theorem ghLabel (p : Nat) (G : Gh) (hK : G.Ok) (n : Int) : FnG w0 [] 90 [ghV G, spP p, .int .i64 n] p (G.label n) encI2 := by
 intro s hS; have hG := At.start hS; generalize Pg.run _ s = R at hG ⊢
 unfold Gh.label at hG
 refine zep en90 fn90 rfl rfl rfl ?_
 refine zyr ?_
 repeat' first|(refine zap rfl ?_;refine zaq (cs := [_, _, _, _]) rfl (fun nb => ?_))|refine zp ?_|refine zyn ?_
 refine zeb [1] rfl ?_
 refine zyr ?_
 repeat' first|(refine zap rfl ?_;first|refine zbx rfl ?_|refine zdk [0] hG (ghVertex w0 p G hK n) rfl rfl rfl zdj (fun is s hG => ?_))|refine zp ?_|refine zyl 0 rfl ?_|refine zyn ?_
 cases is with
 | false =>
   rw [if_neg (by decide)] at hG
   rw [hG.done]
   refine zci rfl ?_
   repeat' first|refine zck ?_|refine zyq ?_|refine zp ?_|refine zch ?_
   exact zei rfl ⟨rfl, rfl⟩
 | true =>
   rw [if_pos rfl] at hG
   refine zcj rfl ?_
   repeat' first|refine zck ?_|refine zcm ?_|refine zyq ?_|(refine zap rfl ?_;first|refine zah [] (ghAt w0 _ _) rfl rfl rfl zdj rfl ?_|refine zdk [0] hG (getG w0 p _) rfl rfl rfl zdj (fun v s hG => ?_))|refine zp ?_|refine zch ?_
   rw [hG.done]
   exact zei rfl ⟨rfl, rfl⟩
theorem ghEdges (p : Nat) (G : Gh) : FnG w0 [] 95 [ghV G, spP p] p G.edges (.int .i64) := by
 intro s hS; have hG := At.start hS; generalize Pg.run _ s = R at hG ⊢
 unfold Gh.edges at hG
 have hG := hG.to (Pg.bind_pure _).symm
 refine zep en95 fn95 rfl rfl rfl ?_
 refine zyr ?_
 repeat' first|(refine zap rfl ?_;refine zaq (cs := [_, _, _, _]) rfl (fun nb => ?_))|refine zp ?_|refine zyn ?_
 refine zeb [1] rfl ?_
 repeat' first|refine zyq ?_|(refine zap rfl ?_;first|refine zdu rfl rfl ?_|refine zdk [0] hG (getG w0 p _) rfl rfl rfl zdj (fun v s hG => ?_))|refine zp ?_|refine zyl 0 rfl ?_|refine zyf rfl ?_|refine zch ?_
 rw [hG.done]
 exact zej rfl ⟨rfl, rfl⟩
end Go.Proofs.YtgdhcgnmffgkiaaGreatDoor
namespace Sim
open Go Go.Vc
open Pg
theorem Pg.bd_all0 {α β : Type} {f : α → Pg β} {φ : α → Prop} {n : Nat} : ∀ {g : Pg α}, Bd 0 g → All φ g → (∀ a, φ a → Bd n (f a)) → Bd n (g >>= f)
 | ret a, _, h2, h3 => h3 a h2
 | get x k, h1, h2, h3 => by
   have ih := fun v => bd_all0 (g := k v) (h1 v) (h2 v) h3
   cases n <;> exact ih
 | put _ _ k, h1, _, _ => (show False from h1).elim
 | mark k, h1, h2, h3 => by
   have ih := fun v => bd_all0 (g := k v) (h1 v) (h2 v) h3
   cases n <;> exact ih
 | back _ k, h1, h2, h3 => by
   have ih := bd_all0 (g := k) h1 h2 h3
   cases n <;> exact ih
namespace Tr
variable (T : Tr)
theorem bd_dropAt (w : TWay) (hw : w.bs.length ≤ 4) (cell at_ : Int) : Bd 26 (T.dropAt w cell at_) := by
 unfold Tr.dropAt
 have hl : (w.bs.zip w.cs).reverse.length ≤ 4 := by rw [List.length_reverse, List.length_zip]; omega
 refine bd_then (bd_gt0 _) (fun _ => bd_then (bd_gt0 _) (fun _ => bd_then (bd_pt _ _) (fun _ => bd_then (T.bd_give _) (fun _ => bd_ite (bd_pure _) (bd_then (T.bd_add _ _) (fun _ => (T.bd_fold _ _).mono (by omega)) (by decide))) (by decide)) (by decide)) (by decide)) (by decide)
theorem bd_dropIn (hT : T.Ok) (n h : Int) : Bd 26 (T.dropIn n h) := by
 unfold Tr.dropIn
 refine bd_all0 (T.bd_down h) (T.all_down hT h) fun w hw => bd_ite (bd_then (T.bd_leaf _ _) (fun _ => bd_ite (bd_ite (bd_pure _) (T.bd_dropAt _ ?_ _ _)) (bd_pure _)) (by decide)) (bd_pure _)
 have := hw.1; have := hw.2.2.1; omega
theorem bd_drop (hT : T.Ok) (n h : Int) : Bd 26 (T.drop n h) := by
 unfold Tr.drop
 refine bd_then bd_mk0 (fun _ => bd_then (T.bd_dropIn hT _ _) (fun _ => ?_) (by decide)) (by decide)
 unfold Tr.afterD
 exact bd_ite (bd_then (bd_bk0 _) (fun _ => bd_pure _) (by decide)) (bd_pure _)
end Tr
end Sim
namespace Sim
open Go Go.Vc
open Pg
namespace Te
variable (T : Te)
theorem bd_ofW (a c : Int) (w : Wk) : Bd 0 (T.ofW a c w) := by unfold Te.ofW; repeat' first|exact bd_pure _|with_reducible refine bd_ite ?_ ?_|with_reducible refine bd_then (bd_gt0 _) ?_ (by decide) | intro _
theorem bd_refresh (a : Int) (w : Wk) : Bd 2 (T.refresh a w) := by unfold Te.refresh; repeat' first|with_reducible refine bd_then (T.bd_ofW _ _ _) ?_ (by decide)|exact bd_pure _|with_reducible refine bd_then (bd_gt0 _) ?_ (by decide)|with_reducible refine bd_then (bd_pt _ _) ?_ (by decide) | intro _
theorem bd_wayK {β : Type} (f : β → Int × Int → Pg (β × Bool)) (hf : ∀ a x, Bd 0 (f a x)) (k : Int) : ∀ (j : Nat) (a : Int) (w : Wk) (acc : β), Bd 0 (T.wayK f k j a w acc)
 | 0, _, _, _ => bd_pure _
 | j + 1, a, w, acc => by
   unfold Te.wayK
   repeat' first|exact bd_wayK f hf k j _ _ _|with_reducible refine bd_then (hf _ _) ?_ (by decide)|exact bd_pure _|with_reducible refine bd_ite ?_ ?_|with_reducible refine bd_then (bd_gt0 _) ?_ (by decide) | intro _
theorem bd_way {β : Type} (f : β → Int × Int → Pg (β × Bool)) (hf : ∀ a x, Bd 0 (f a x)) (k : Int) (w : Wk) (acc : β) : Bd 0 (T.way f k w acc) := bd_then (bd_gt0 _) (fun _ => T.bd_wayK f hf k _ _ _ _) (by decide)
theorem bd_pathF (a : List (Int × Int)) (x : Int × Int) : Bd 0 (pathF a x) := bd_pure _
theorem bd_getF (k a : Int) (x : Int × Int) : Bd 0 (getF k a x) := by unfold Te.getF; repeat' first|exact bd_pure _|with_reducible refine bd_ite ?_ ?_|with_reducible refine bd_then (bd_gt0 _) ?_ (by decide) | intro _
theorem bd_nextF (k : Int) (a : Int × Bool) (x : Int × Int) : Bd 0 (nextF k a x) := bd_pure _
theorem bd_path (k : Int) (w : Wk) : Bd 0 (T.path k w) := bd_then (T.bd_way _ bd_pathF _ _ _) (fun _ => bd_pure _) (by decide)
theorem bd_get (k : Int) : Bd 0 (T.get k) := bd_then (T.bd_way _ (bd_getF k) _ _ _) (fun _ => bd_pure _) (by decide)
theorem bd_next (k : Int) : Bd 0 (T.next k) := bd_then (T.bd_way _ (bd_nextF k) _ _ _) (fun _ => bd_pure _) (by decide)
theorem bd_sumO (a : Int) : Bd 0 (sumO a) := bd_gt0 _
theorem bd_countO (a : Int) : Bd 0 (countO a) := bd_pure _
theorem bd_untilK (k : Int) (inc : Bool) (cell : Int) (own : Int → Pg Int) (ho : ∀ a, Bd 0 (own a)) : ∀ (j : Nat) (a : Int) (w : Wk) (t : Int), Bd 0 (T.untilK k inc cell own j a w t)
 | 0, _, _, _ => bd_pure _
 | j + 1, a, w, t => by
   unfold Te.untilK
   repeat' first|exact bd_untilK k inc cell own ho j _ _ _|with_reducible refine bd_then (ho _) ?_ (by decide)|with_reducible refine bd_then (T.bd_ofW _ _ _) ?_ (by decide)|exact bd_pure _|with_reducible refine bd_ite ?_ ?_|with_reducible refine bd_then (bd_gt0 _) ?_ (by decide) | intro _
theorem bd_between (x y cell : Int) (own : Int → Pg Int) (ho : ∀ a, Bd 0 (own a)) : Bd 0 (T.between x y cell own) :=
 bd_ite (bd_pure _) (bd_then (i := 0) (bd_then (bd_gt0 _) (fun _ => T.bd_untilK _ _ _ _ ho _ _ _ _) (by decide)) (fun _ => bd_then (i := 0) (bd_then (bd_gt0 _) (fun _ => T.bd_untilK _ _ _ _ ho _ _ _ _) (by decide)) (fun _ => bd_pure _) (by decide)) (by decide))
theorem bd_nthK : ∀ (j : Nat) (a : Int) (w : Wk) (n : Int), Bd 0 (T.nthK j a w n)
 | 0, _, _, _ => bd_pure _
 | j + 1, a, w, n => by
   unfold Te.nthK
   repeat' first|exact bd_nthK j _ _ _|with_reducible refine bd_then (T.bd_ofW _ _ _) ?_ (by decide)|exact bd_pure _|with_reducible refine bd_ite ?_ ?_|with_reducible refine bd_then (bd_gt0 _) ?_ (by decide) | intro _
theorem bd_nth (n : Int) : Bd 0 (T.nth n) := bd_ite (bd_pure _) (bd_then (bd_gt0 _) (fun _ => T.bd_nthK _ _ _ _) (by decide))
theorem bd_add : ∀ (l : List (Int × Int)) (n v : Int), Bd (2 * l.length) (add l n v)
 | [], _, _ => bd_pure _
 | x :: l, n, v => by
   unfold Te.add
   refine bd_seq (i := 1) (j := 1 + 2 * l.length) (bd_ite (bd_then (bd_gt0 _) (fun _ => bd_pt _ _) (by decide)) (bd_pure _)) (fun _ => ?_) (by simp only [List.length_cons]; omega)
   exact bd_seq (i := 1) (j := 2 * l.length) (bd_ite (bd_then (bd_gt0 _) (fun _ => bd_pt _ _) (by decide)) (bd_pure _)) (fun _ => bd_add l n v) (by omega)
theorem bd_split (k : Int) : ∀ (j : Nat) (a : Int) (w : Wk), Bd (3 * j) (T.split k j a w)
 | 0, _, _ => bd_pure _
 | j + 1, a, w => by
   unfold Te.split
   refine bd_ite (bd_then (bd_gt0 _) (fun key => bd_ite ?_ ?_) (Nat.zero_le _)) (bd_pure _)
   · exact bd_then (bd_gt0 _) (fun b => bd_seq (i := 3 * j) (j := 3) (bd_split k j b _) (fun r => bd_then (bd_pt _ _) (fun _ => bd_then (T.bd_refresh _ _) (fun _ => bd_pure _) (by decide)) (by decide)) (by omega)) (Nat.zero_le _)
   · exact bd_then (bd_gt0 _) (fun b => bd_seq (i := 3 * j) (j := 3) (bd_split k j b _) (fun r => bd_then (bd_pt _ _) (fun _ => bd_then (T.bd_refresh _ _) (fun _ => bd_pure _) (by decide)) (by decide)) (by omega)) (Nat.zero_le _)
theorem bd_merge : ∀ (j : Nat) (a b : Int) (w : Wk), Bd (3 * j) (T.merge j a b w)
 | 0, _, _, _ => bd_pure _
 | j + 1, a, b, w => by
   unfold Te.merge
   refine bd_ite (bd_ite (bd_then (bd_gt0 _) (fun x => bd_then (bd_gt0 _) (fun y => bd_ite ?_ ?_) (Nat.zero_le _)) (Nat.zero_le _)) (bd_pure _)) (bd_pure _)
   · exact bd_then (bd_gt0 _) (fun c => bd_seq (i := 3 * j) (j := 3) (bd_merge j c b _) (fun r => bd_then (bd_pt _ _) (fun _ => bd_then (T.bd_refresh _ _) (fun _ => bd_pure _) (by decide)) (by decide)) (by omega)) (Nat.zero_le _)
   · exact bd_then (bd_gt0 _) (fun c => bd_seq (i := 3 * j) (j := 3) (bd_merge j a c _) (fun r => bd_then (bd_pt _ _) (fun _ => bd_then (T.bd_refresh _ _) (fun _ => bd_pure _) (by decide)) (by decide)) (by omega)) (Nat.zero_le _)
theorem bd_hang (l : List (Int × Int)) (k a : Int) : Bd 1 (T.hang l k a) := by
 unfold Te.hang
 split <;> exact bd_pt _ _
theorem bd_after {α : Type} (m : Nat) (r : α × Int) : Bd 0 (after m r) := by unfold Te.after; repeat' first|exact bd_pure _|with_reducible refine bd_ite ?_ ?_|with_reducible refine bd_then (bd_bk0 _) ?_ (by decide) | intro _
theorem all_wayP (k : Int) : ∀ (j : Nat) (a : Int) (w : Wk) (acc : List (Int × Int)), All (fun r => r.1.1.length ≤ acc.length + j) (T.wayK pathF k j a w acc)
 | 0, _, _, acc => Nat.le_refl acc.length
 | j + 1, a, w, acc => by
   unfold Te.wayK
   refine all_ite (fun _ => all_then fun key => ?_) (fun _ => all_pure (Nat.le_add_right _ _))
   have e : (pathF acc (a, key)) = pure (acc ++ [(a, key)], true) := rfl
   rw [e, pure_bind]
   dsimp only
   rw [if_neg (by decide)]
   refine all_ite (fun _ => all_pure (by simp only [List.length_append, List.length_singleton]; omega)) fun _ => all_then fun b => ?_
   refine all_mono (fun r hr => ?_) (all_wayP k j b _ (acc ++ [(a, key)]))
   simp only [List.length_append, List.length_singleton] at hr
   omega
theorem all_path (k : Int) (w : Wk) : All (fun r => r.1.1.length ≤ T.pool.nodes.toNat) (T.path k w) := by
 unfold Te.path
 refine all_bind (ψ := fun r => r.1.1.length ≤ T.pool.nodes.toNat) (fun r h => all_pure h) (all_then fun a => ?_)
 exact all_mono (fun r hr => by simpa using hr) (T.all_wayP k _ a w [])
theorem bd_cutAt (k : Int) (w : Wk) : ∀ o : Option (Int × Int), Bd 24774 (T.cutAt k o w)
 | none => bd_pure _
 | some x => T.bd_split k 8258 x.1 w
theorem bd_putEnd (k v : Int) (l : List (Int × Int)) (hl : l.length ≤ 128) (a : Int) (r : (Int × Int) × Wk) : Bd 262 (T.putEnd k v l a r) := by
 unfold Te.putEnd
 have h : 2 * (l.take (above k l)).length ≤ 256 := by rw [List.length_take]; omega
 exact bd_then (bd_pt _ _) (fun _ => bd_then (bd_pt _ _) (fun _ => bd_then (T.bd_refresh _ _) (fun u => bd_then ((bd_add _ _ _).mono h) (fun _ => bd_then (T.bd_hang _ _ _) (fun _ => bd_then (bd_gt0 _) (fun c => bd_then (bd_pt _ _) (fun _ => bd_pure _) (by decide)) (by decide)) (by decide)) (by decide)) (by decide)) (by decide)) (by decide)
theorem bd_putNew (k v : Int) (l : List (Int × Int)) (hl : l.length ≤ 128) (w : Wk) : Bd 25040 (T.putNew k v l w) := by
 unfold Te.putNew
 exact bd_then (bd_takeP _) (fun t => bd_ite (bd_pure _) (bd_then (bd_pt _ _) (fun _ => bd_then (bd_pt _ _) (fun _ => bd_then (T.bd_cutAt _ _ _) (fun r => (T.bd_putEnd k v l hl _ _).mono (by decide)) (by decide)) (by decide)) (by decide))) (by decide)
theorem bd_putAs (k v : Int) (l : List (Int × Int)) (hl : l.length ≤ 128) (w : Wk) : ∀ (b : Bool) (o : Option (Int × Int)), Bd 25040 (T.putAs k v l w b o)
 | true, some x => bd_then (bd_gt0 _) (fun old => bd_then (bd_pt _ _) (fun _ => bd_then ((bd_add l 0 _).mono (show _ ≤ 256 by omega)) (fun _ => bd_pure _) (by decide)) (by decide)) (by decide)
 | true, none => T.bd_putNew k v l hl w
 | false, some _ => T.bd_putNew k v l hl w
 | false, none => T.bd_putNew k v l hl w
theorem bd_putIn (hT : T.Ok) (k v : Int) : Bd 25040 (T.putIn k v) := by
 unfold Te.putIn
 have hn := hT.1.2.2.2.2.2.2
 exact bd_all0 (T.bd_path _ _) (T.all_path _ _) fun r hr => bd_ite (bd_pure _) (T.bd_putAs _ _ _ (by omega) _ _ _)
theorem bd_put (hT : T.Ok) (k v : Int) : Bd 25040 (T.put k v) := bd_then bd_mk0 (fun m => bd_then (T.bd_putIn hT k v) (fun r => bd_after m r) (by decide)) (by decide)
theorem bd_dropAt (k : Int) (l : List (Int × Int)) (hl : l.length ≤ 128) (x : Int × Int) (w : Wk) : Bd 25040 (T.dropAt k l x w) := by
 unfold Te.dropAt
 exact bd_then (bd_gt0 _) (fun old => bd_then (bd_gt0 _) (fun a => bd_then (bd_gt0 _) (fun b => bd_then (T.bd_merge 8258 a b w) (fun r => bd_then (T.bd_hang _ _ _) (fun _ => bd_then ((bd_add l _ _).mono (show _ ≤ 256 by omega)) (fun _ => bd_then (bd_gt0 _) (fun c => bd_then (bd_pt _ _) (fun _ => bd_ite (bd_pure _) (bd_then (bd_giveP _ _) (fun e => bd_ite (bd_pure _) (bd_pure _)) (by decide))) (by decide)) (by decide)) (by decide)) (by decide)) (by decide)) (by decide)) (by decide)) (by decide)
theorem bd_dropAs (k : Int) (l : List (Int × Int)) (hl : l.length ≤ 128) (w : Wk) : ∀ (b : Bool) (o : Option (Int × Int)), Bd 25040 (T.dropAs k l w b o)
 | true, some x => T.bd_dropAt k _ (by rw [List.length_dropLast]; omega) x w
 | true, none => bd_pure _
 | false, some _ => bd_pure _
 | false, none => bd_pure _
theorem bd_dropIn (hT : T.Ok) (k : Int) : Bd 25040 (T.dropIn k) := by
 unfold Te.dropIn
 have hn := hT.1.2.2.2.2.2.2
 exact bd_all0 (T.bd_path _ _) (T.all_path _ _) fun r hr => bd_ite (bd_pure _) (T.bd_dropAs _ _ (by omega) _ _ _)
theorem bd_drop (hT : T.Ok) (k : Int) : Bd 25040 (T.drop k) := bd_then bd_mk0 (fun m => bd_then (T.bd_dropIn hT k) (fun r => bd_after m r) (by decide)) (by decide)
end Te
end Sim
namespace Go.Proofs.YtgdhcgnmffgkiaaGreatDoor
variable (w0 : World)
open Go.Vc Sim
set_option maxHeartbeats 4000000
theorem give_spec (p : Nat) (P : Pl) (hP : P.Ok) (s : Sp) (a : Int) (hsm : Sm s 3) : FnE PP w0 [] 114 [poolV P, spP p, .int .i64 a] [SpaceA p s] (.int .i64 (P.give s a).1) [SpaceA p (P.give s a).2] := by
 obtain ⟨_, h1, h2, h3, h4, h5, h6⟩ := id hP
 refine zep en114 fn114 rfl rfl rfl ?_
 refine zyr ?_
 repeat' first|(refine zap rfl ?_;refine zaq (cs := [_, _, _]) rfl (fun nb => ?_))|refine zp ?_|refine zyn ?_
 refine zeb [1] rfl ?_
 repeat' first|refine zck ?_|refine zyq ?_|(refine zap rfl ?_;first|refine zah [] (node_spec w0 P hP _) rfl rfl rfl zdj rfl ?_|refine zbx rfl ?_)|refine zp ?_|refine zyl 0 rfl ?_|refine zch ?_
 refine zee rfl (fun hE => ?_) (fun hE => ?_)
 · have hE : P.node a = false := by simpa using hE
   repeat' first|refine zck ?_|refine zyq ?_|refine zp ?_|refine zch ?_
   have e : P.give s a = (1, s) := by simp [Pl.give, hE]
   rw [e]
   exact zej rfl ⟨rfl, rfl⟩
 · have hE : P.node a = true := by simpa using hE
   repeat' first|refine zck ?_|refine zcm ?_|refine zyq ?_|(refine zap rfl ?_;first|refine zah [0] (getS w0 p _ _ (by first|exact hsm.mono (by decide) | (repeat (first|refine sm_get ?_|refine sm_put ?_)); exact hsm.mono (by decide))) rfl rfl rfl zdj rfl ?_|refine zah [0] (putS w0 p _ _ _ (by first|exact hsm.mono (by decide) | (repeat (first|refine sm_get ?_|refine sm_put ?_)); exact hsm.mono (by decide))) rfl rfl rfl zdj rfl ?_|refine zah [0] (add_spec w0 p P hP _ _ _ (by decide) (by first|exact hsm.mono (by decide) | (repeat (first|refine sm_get ?_|refine sm_put ?_)); exact hsm.mono (by decide))) rfl rfl rfl zdj rfl ?_)|refine zp ?_|refine zyl 0 rfl ?_|refine zyf rfl ?_|refine zch ?_
   have e : P.give s a = (0, P.add (((s.get P.root).2.put a (s.get P.root).1).put P.root a) 2 1) := by simp [Pl.give, hE]
   rw [e]
   exact zej rfl ⟨rfl, rfl⟩
theorem take_spec (p : Nat) (P : Pl) (hP : P.Ok) (s : Sp) (hsm : Sm s 2) : FnE PP w0 [] 111 [poolV P, spP p] [SpaceA p s] (.tuple #[.int .i64 (P.take s).1, .int .i64 (P.take s).2.1]) [SpaceA p (P.take s).2.2] := by
 obtain ⟨_, h1, h2, h3, h4, h5, h6⟩ := id hP
 refine zep en111 fn111 rfl rfl rfl ?_
 refine zyr ?_
 repeat' first|(refine zap rfl ?_;refine zaq (cs := [_, _, _]) rfl (fun nb => ?_))|refine zp ?_|refine zyn ?_
 refine zeb [1] rfl ?_
 repeat' first|refine zck ?_|refine zcm ?_|refine zyq ?_|(refine zap rfl ?_;first|refine zah [] (check_spec w0 P hP) rfl rfl rfl zdj rfl ?_|refine zah [0] (getS w0 p _ _ (by first|exact hsm.mono (by decide) | (repeat (first|refine sm_get ?_|refine sm_put ?_)); exact hsm.mono (by decide))) rfl rfl rfl zdj rfl ?_|refine zbp rfl rfl ?_)|refine zp ?_|refine zyl 0 rfl ?_|refine zyf rfl ?_|refine zch ?_|refine zcj rfl ?_
 refine zed rfl (fun hE => ?_) (fun hE => ?_)
 · repeat' first|refine zck ?_|refine zyq ?_|(refine zap rfl ?_;first|refine zah [] (node_spec w0 P hP _) rfl rfl rfl zdj rfl ?_|refine zbx rfl ?_)|refine zp ?_|refine zyl 0 rfl ?_|refine zch ?_
   refine zee rfl (fun hN => ?_) (fun hN => ?_)
   · have hN : P.node (s.get P.root).1 = false := by simpa using hN
     repeat' first|refine zck ?_|refine zyq ?_|refine zp ?_|refine zch ?_
     have e : P.take s = (0, 24, (s.get P.root).2) := by simp [Pl.take, hE, hN]
     rw [e]
     exact zei rfl ⟨rfl, rfl⟩
   · have hN : P.node (s.get P.root).1 = true := by simpa using hN
     repeat' first|refine zck ?_|refine zcm ?_|refine zyq ?_|(refine zap rfl ?_;first|refine zah [0] (getS w0 p _ _ (by first|exact hsm.mono (by decide) | (repeat (first|refine sm_get ?_|refine sm_put ?_)); exact hsm.mono (by decide))) rfl rfl rfl zdj rfl ?_|refine zah [0] (putS w0 p _ _ _ (by first|exact hsm.mono (by decide) | (repeat (first|refine sm_get ?_|refine sm_put ?_)); exact hsm.mono (by decide))) rfl rfl rfl zdj rfl ?_|refine zah [0] (add_spec w0 p P hP _ _ _ (by decide) (by first|exact hsm.mono (by decide) | (repeat (first|refine sm_get ?_|refine sm_put ?_)); exact hsm.mono (by decide))) rfl rfl rfl zdj rfl ?_)|refine zp ?_|refine zyl 0 rfl ?_|refine zyf rfl ?_|refine zch ?_
     have e : P.take s = ((s.get P.root).1, 0, P.add (((s.get P.root).2.get (s.get P.root).1).2.put P.root ((s.get P.root).2.get (s.get P.root).1).1) 2 (-1)) := by simp [Pl.take, hE, hN]
     rw [e]
     exact zei rfl ⟨rfl, rfl⟩
 · repeat' first|refine zck ?_|refine zcm ?_|refine zyq ?_|(refine zap rfl ?_;first|refine zaj rfl ?_|refine zak rfl ?_|refine zam rfl rfl (fun _ => ?_) (fun _ => ?_)|refine zah [0] (getS w0 p _ _ (by first|exact hsm.mono (by decide) | (repeat (first|refine sm_get ?_|refine sm_put ?_)); exact hsm.mono (by decide))) rfl rfl rfl zdj rfl ?_|refine zah [0] (putS w0 p _ _ _ (by first|exact hsm.mono (by decide) | (repeat (first|refine sm_get ?_|refine sm_put ?_)); exact hsm.mono (by decide))) rfl rfl rfl zdj rfl ?_|refine zau rfl rfl (by omega) ?_|refine zaw rfl rfl (by omega) ?_|refine zbq rfl rfl ?_|refine zbt rfl rfl ?_|refine zbu rfl ?_|refine zbv rfl ?_)|refine zp ?_|refine zyl 0 rfl ?_|refine zyf rfl ?_|refine zch ?_|refine zci rfl ?_|refine zed rfl (fun _ => ?_) (fun _ => ?_)
   · have e : P.take s = (0, 9, ((s.get P.root).2.get (P.root + 1)).2) := by simp_all [Pl.take]
     rw [e]
     exact zei rfl ⟨rfl, rfl⟩
   · have e : P.take s = (0, 9, ((s.get P.root).2.get (P.root + 1)).2) := by simp_all [Pl.take]
     rw [e]
     exact zei rfl ⟨rfl, rfl⟩
   · have e : P.take s = (P.frm + 8 * ((s.get P.root).2.get (P.root + 1)).1, 0, ((s.get P.root).2.get (P.root + 1)).2.put (P.root + 1) (((s.get P.root).2.get (P.root + 1)).1 + 1)) := by
       unfold Pl.take
       rw [if_neg hE, if_neg (by omega)]
     rw [e]
     exact zei rfl ⟨rfl, rfl⟩
end Go.Proofs.YtgdhcgnmffgkiaaGreatDoor
