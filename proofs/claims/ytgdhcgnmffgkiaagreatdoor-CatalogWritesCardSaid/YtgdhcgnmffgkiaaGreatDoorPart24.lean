import Derived.Test.YtgdhcgnmffgkiaaGreatDoorPart23
import Derived.Test.YtgdhcgnmffgkiaaGreatDoorPart19
import Derived.Test.YtgdhcgnmffgkiaaGreatDoorPart12
import Derived.Test.YtgdhcgnmffgkiaaGreatDoorPart20
import Derived.Test.YtgdhcgnmffgkiaaGreatDoorPart21
import Derived.Test.YtgdhcgnmffgkiaaGreatDoorPart22
import Derived.Test.YtgdhcgnmffgkiaaGreatDoorPart3
import Derived.Test.YtgdhcgnmffgkiaaGreatDoorPart6
/- Own work: lemmas of this claim. -/
namespace Go.Proofs.YtgdhcgnmffgkiaaGreatDoor
variable (w0 : World)
open Go.Vc Sim
set_option maxHeartbeats 4000000
set_option maxRecDepth 20000
theorem ghDrop_fin (p eb m : Nat) (R : (Int × Int) × Sp) (v e : Int) (s : Sp) (ρ : Env) (h6 : ρ 6 = .int .i64 v) (h7 : ρ 7 = .pointer (some ⟨eb, 0, none⟩)) (hG : At R (Gh.after m (v, e)) s) :
   LeavesS PP w0 [] Tryz.f88 ρ [ghD p eb m] [SpaceA p s, erV eb e] (fun v Γ => v = encI2 R.1 ∧ Γ = [SpaceA p R.2]) := by
 refine leaves_defer1 [0, 0] (ghUndo w0 p s m eb e) rfl rfl zdj ?_
 refine zek (zel [0] rfl (zen rfl h6 (zeo 1 h7 rfl rfl) ?_))
 refine ⟨rfl, ?_⟩
 unfold Gh.after at hG
 by_cases hE : e ≠ 0
 · rw [if_pos hE] at hG
   rw [hG.step.2.done, if_pos hE]
   exact ⟨rfl, rfl⟩
 · rw [if_neg hE] at hG
   rw [hG.done, if_neg hE]
   exact ⟨rfl, rfl⟩
theorem ghDrop (p : Nat) (G : Gh) (hK : G.Ok) (n : Int) : FnG w0 [] 88 [ghV G, spP p, .int .i64 n] p (G.drop n) encI2 := by
 intro s hS; have hG := At.start hS; generalize Pg.run _ s = R at hG ⊢
 simp only [Gh.drop, Gh.dropIn, Gh.dropEnd, Pg.bind_assoc, Pg.ite_bind, Pg.pure_bind] at hG
 refine zep en88 fn88 rfl rfl rfl ?_
 refine zyr ?_
 repeat' first|(refine zap rfl ?_;first|refine zar (fun eb => ?_)|refine zaq (cs := [_, _, _, _]) rfl (fun nb => ?_))|refine zp ?_|refine zyn ?_
 refine zeb [1] rfl ?_
 refine zyr ?_
 repeat' first|(refine zap rfl ?_;first|refine zcd rfl rfl ?_|refine zdk [0] hG (markG w0 p) rfl rfl rfl zdj (fun m s hG => ?_))|refine zp ?_|refine zyn ?_
 refine zyr ?_
 repeat' first|(refine zap rfl ?_;first|refine zbx rfl ?_|refine zdk [0] hG (ghVertex w0 p G hK n) rfl rfl rfl zdj (fun is s hG => ?_))|refine zp ?_|refine zyl 0 rfl ?_|refine zyn ?_
 cases is with
 | false =>
   rw [if_neg (by decide)] at hG
   refine zci rfl ?_
   refine zyr ?_
   repeat' first|(refine zap rfl ?_;refine zae 1 rfl rfl rfl rfl rfl rfl rfl ?_)|refine zp ?_|refine zyn ?_
   exact zeg (ghDrop_fin w0 p eb m R 0 10 s _ rfl rfl hG)
 | true =>
 rw [if_pos rfl] at hG
 refine zcj rfl ?_
 repeat (first|refine zck ?_|refine zcl ?_|refine zcm ?_|refine zcn ?_|refine zco ?_)
 refine zyr ?_
 repeat' first|(refine zap rfl ?_;first|refine zah [] (ghAt w0 _ _) rfl rfl rfl zdj rfl ?_|refine zdk [0] hG (getG w0 p _) rfl rfl rfl zdj (fun v s hG => ?_))|refine zp ?_|refine zyn ?_
 first|refine zcp (by kernel_rfl) ?_|refine zcr [(.read, 0), (.quiet, 1), (.loud, 2), (.quiet, 3), (.quiet, 4), (.loud, 5), (.loud, 6), (.quiet, 7), (.quiet, 8)] PP_mixed (by kernel_rfl) (by kernel_rfl) ?_|refine zeh PP_mixed (by kernel_rfl) (by kernel_rfl) ?_
 repeat' first|(refine zap rfl ?_;first|refine zdt rfl rfl rfl rfl rfl rfl (fun nb2 => ?_)|refine zah [] (ghOut w0 G n) rfl rfl rfl zdj rfl ?_|refine zah [] (ghIn w0 G n) rfl rfl rfl zdj rfl ?_|refine zce rfl ?_)|refine zp ?_|refine zyl 0 rfl ?_|refine zyn ?_
 refine zeb [2] rfl ?_
 refine zet ?_
 repeat' first|refine zck ?_|refine zcm ?_|refine zcl ?_|refine zyq ?_|(refine zap rfl ?_;first|refine zar (fun q => ?_)|refine zab 2 rfl rfl rfl ?_|refine zdk [0] hG (ghEmpty w0 p G hK (Gh.out n)) rfl rfl rfl zdj (fun e s hG => ?_)|refine zbg rfl rfl (by omega) ?_|refine zbp rfl rfl ?_|refine zae 2 rfl rfl rfl rfl rfl rfl rfl ?_|refine zas rfl rfl (by omega) ?_)|refine zp ?_|refine zyl 0 rfl ?_|refine zyl 1 rfl ?_|refine zch ?_|refine zci rfl ?_
 refine zec [0, 0] rfl ?_
 refine zed rfl (fun hE => ?_) (fun hE => ?_)
 · rw [if_pos hE] at hG
   refine zyr ?_
   repeat' first|(refine zap rfl ?_;refine zae 1 rfl rfl rfl rfl rfl rfl rfl ?_)|refine zp ?_|refine zyn ?_
   exact zeg (ghDrop_fin w0 p eb m R 0 e s _ rfl rfl hG)
 rw [if_neg hE] at hG
 repeat' first|refine zck ?_|refine zcm ?_|refine zcl ?_|refine zcn ?_|refine zyq ?_|refine zco ?_|(refine zap rfl ?_;first|refine zar (fun q => ?_)|refine zab 2 rfl rfl rfl ?_|refine zdk [0] hG (ghEmpty w0 p G hK (Gh.inn n)) rfl rfl rfl zdj (fun e s hG => ?_)|refine zbg rfl rfl (by omega) ?_|refine zau rfl rfl (by omega) ?_|refine zbp rfl rfl ?_|refine zae 2 rfl rfl rfl rfl rfl rfl rfl ?_|refine zas rfl rfl (by omega) ?_)|refine zp ?_|refine zyl 0 rfl ?_|refine zyl 1 rfl ?_|refine zch ?_|refine zci rfl ?_
 refine zec [0, 0] rfl ?_
 refine zed rfl (fun hE => ?_) (fun hE => ?_)
 · rw [if_pos hE] at hG
   refine zyr ?_
   repeat' first|(refine zap rfl ?_;refine zae 1 rfl rfl rfl rfl rfl rfl rfl ?_)|refine zp ?_|refine zyn ?_
   exact zeg (ghDrop_fin w0 p eb m R 0 e s _ rfl rfl hG)
 rw [if_neg hE] at hG
 repeat' first|refine zck ?_|refine zcm ?_|refine zcn ?_|refine zyq ?_|refine zco ?_|refine zcs rfl ?_|(refine zap rfl ?_;first|refine zah [] (ghAll w0 G) rfl rfl rfl zdj rfl ?_|refine zdk [0] hG (ghUnlink w0 p G hK G.all n) rfl rfl rfl zdj (fun e s hG => ?_)|refine zbh rfl rfl (by omega) ?_|refine zau rfl rfl (by omega) ?_|refine zbp rfl rfl ?_)|refine zp ?_|refine zyl 1 rfl ?_|refine zch ?_|refine zcj rfl ?_
 refine zed rfl (fun hE => ?_) (fun hE => ?_)
 · rw [if_pos hE] at hG
   refine zyr ?_
   repeat' first|(refine zap rfl ?_;refine zae 1 rfl rfl rfl rfl rfl rfl rfl ?_)|refine zp ?_|refine zyn ?_
   exact zeg (ghDrop_fin w0 p eb m R 0 e s _ rfl rfl hG)
 rw [if_neg hE] at hG
 repeat' first|refine zck ?_|refine zcm ?_|refine zyq ?_|(refine zap rfl ?_;first|refine zdu rfl rfl ?_|refine zdk [0] hG (ghMore w0 p _ _) rfl rfl rfl zdj (fun u s hG => ?_)|refine zdk [0] hG (giveG w0 p G.pool hK.1 n) rfl rfl rfl zdj (fun e s hG => ?_)|refine zbp rfl rfl ?_)|refine zp ?_|refine zyl 1 rfl ?_|refine zyf rfl ?_|refine zch ?_
 refine zed rfl (fun hE => ?_) (fun hE => ?_)
 · rw [if_pos hE] at hG
   refine zyr ?_
   repeat' first|(refine zap rfl ?_;refine zae 1 rfl rfl rfl rfl rfl rfl rfl ?_)|refine zp ?_|refine zyn ?_
   exact zeg (ghDrop_fin w0 p eb m R 0 e s _ rfl rfl hG)
 rw [if_neg hE] at hG
 repeat' first|refine zck ?_|refine zcm ?_|refine zyq ?_|(refine zap rfl ?_;refine zae 1 rfl rfl rfl rfl rfl rfl rfl ?_)|refine zp ?_|refine zch ?_
 exact zeg (ghDrop_fin w0 p eb m R v 0 s _ rfl rfl hG)
theorem ghWeight (p : Nat) (G : Gh) (hK : G.Ok) (a b : Int) : FnG w0 [] 89 [ghV G, spP p, .int .i64 a, .int .i64 b] p (G.weigh a b) (fun r => .tuple #[.int .i64 r.1, .bool r.2]) := by
 intro s hS; have hG := At.start hS; generalize Pg.run _ s = R at hG ⊢
 unfold Gh.weigh at hG
 refine zep en89 fn89 rfl rfl rfl ?_
 refine zyr ?_
 repeat' first|(refine zap rfl ?_;refine zaq (cs := [_, _, _, _]) rfl (fun nb => ?_))|refine zp ?_|refine zyn ?_
 refine zeb [1] rfl ?_
 have kv := ghVertex w0 p G hK a s hG.step.1
 have hG := hG.step.2
 generalize Pg.run (G.vertex a) s = q at kv hG
 obtain ⟨va, s1⟩ := q
 dsimp only at kv hG
 cases va with
 | false =>
   rw [if_neg (by decide)] at hG
   rw [hG.done]
   repeat' first|refine zck ?_|refine zyq ?_|(refine zap rfl ?_;first|refine zbx rfl ?_|refine zak rfl ?_|refine zah [0] kv rfl rfl rfl zdj rfl ?_|refine zbu rfl ?_)|refine zp ?_|refine zyl 0 rfl ?_|refine zch ?_|refine zci rfl ?_
   exact zei rfl ⟨rfl, rfl⟩
 | true =>
 rw [if_pos rfl] at hG
 have kv2 := ghVertex w0 p G hK b s1 hG.step.1
 have hG := hG.step.2
 generalize Pg.run (G.vertex b) s1 = q at kv2 hG
 obtain ⟨vb, s2⟩ := q
 dsimp only at kv2 hG
 cases vb with
 | false =>
   rw [if_neg (by decide)] at hG
   rw [hG.done]
   repeat' first|refine zck ?_|refine zyq ?_|(refine zap rfl ?_;first|refine zbx rfl ?_|refine zaj rfl ?_|refine zah [0] kv rfl rfl rfl zdj rfl ?_|refine zah [0] kv2 rfl rfl rfl zdj rfl ?_|refine zbv rfl ?_)|refine zp ?_|refine zyl 0 rfl ?_|refine zch ?_|refine zci rfl ?_
   exact zei rfl ⟨rfl, rfl⟩
 | true =>
 rw [if_pos rfl] at hG
 refine zyr ?_
 repeat' first|(refine zap rfl ?_;first|refine zbx rfl ?_|refine zaj rfl ?_|refine zah [0] kv rfl rfl rfl zdj rfl ?_|refine zah [0] kv2 rfl rfl rfl zdj rfl ?_|refine zbv rfl ?_)|refine zp ?_|refine zyl 0 rfl ?_|refine zyn ?_
 refine zcj rfl ?_
 repeat (first|refine zck ?_|refine zcl ?_|refine zcm ?_|refine zcn ?_|refine zco ?_)
 refine zyr ?_
 repeat' first|(refine zap rfl ?_;refine zdk [0] hG (ghFind w0 p G hK a b) rfl rfl rfl zdj (fun f s hG => ?_))|refine zp ?_|refine zyl 0 rfl ?_|refine zyn ?_
 obtain ⟨o, lo⟩ := f
 dsimp only at hG
 by_cases ho : o = 0
 · rw [if_pos (Or.inl ho)] at hG
   rw [hG.done]
   repeat' first|refine zck ?_|refine zyq ?_|(refine zap rfl ?_;first|refine zak rfl ?_|refine zbc rfl rfl (by omega) ?_|refine zbu rfl ?_)|refine zp ?_|refine zch ?_|refine zci rfl ?_
   exact zei rfl ⟨rfl, rfl⟩
 by_cases hl : lo ≠ 0
 · rw [if_pos (Or.inr hl)] at hG
   rw [hG.done]
   repeat' first|refine zck ?_|refine zyq ?_|(refine zap rfl ?_;first|refine zaj rfl ?_|refine zbd rfl rfl (by omega) ?_|refine zbe rfl rfl (by omega) ?_|refine zbv rfl ?_)|refine zp ?_|refine zch ?_|refine zci rfl ?_
   exact zei rfl ⟨rfl, rfl⟩
 rw [if_neg (fun h => h.elim ho hl)] at hG
 have hl : lo = 0 := by simpa using hl
 subst hl
 repeat' first|refine zck ?_|refine zcm ?_|refine zyq ?_|(refine zap rfl ?_;first|refine zaj rfl ?_|refine zah [] (ghAt w0 _ _) rfl rfl rfl zdj rfl ?_|refine zdk [0] hG (getG w0 p _) rfl rfl rfl zdj (fun v s hG => ?_)|refine zbd rfl rfl (by omega) ?_|refine zbf rfl rfl (by omega) ?_|refine zbv rfl ?_)|refine zp ?_|refine zch ?_|refine zcj rfl ?_
 rw [hG.done]
 exact zei rfl ⟨rfl, rfl⟩
theorem ghLabel (p : Nat) (G : Gh) (hK : G.Ok) (n : Int) : FnG w0 [] 90 [ghV G, spP p, .int .i64 n] p (G.label n) encI2 := by
 intro s hS; have hG := At.start hS; generalize Pg.run _ s = R at hG ⊢
 unfold Gh.label at hG
 refine zep en90 fn90 rfl rfl rfl ?_
 refine zyr ?_
 repeat' first|(refine zap rfl ?_;refine zaq (cs := [_, _, _, _]) rfl (fun nb => ?_))|refine zp ?_|refine zyn ?_
 refine zeb [1] rfl ?_
 refine zyr ?_
 repeat' first|(refine zap rfl ?_;first|refine zbx rfl ?_|refine zdk [0] hG (ghVertex w0 p G hK n) rfl rfl rfl zdj (fun is s hG => ?_))|refine zp ?_|refine zyl 0 rfl ?_|refine zyn ?_
 cases is with
 | false =>
   rw [if_neg (by decide)] at hG
   rw [hG.done]
   refine zci rfl ?_
   repeat' first|refine zck ?_|refine zyq ?_|refine zp ?_|refine zch ?_
   exact zei rfl ⟨rfl, rfl⟩
 | true =>
   rw [if_pos rfl] at hG
   refine zcj rfl ?_
   repeat' first|refine zck ?_|refine zcm ?_|refine zyq ?_|(refine zap rfl ?_;first|refine zah [] (ghAt w0 _ _) rfl rfl rfl zdj rfl ?_|refine zdk [0] hG (getG w0 p _) rfl rfl rfl zdj (fun v s hG => ?_))|refine zp ?_|refine zch ?_
   rw [hG.done]
   exact zei rfl ⟨rfl, rfl⟩
theorem ghEdges (p : Nat) (G : Gh) : FnG w0 [] 95 [ghV G, spP p] p G.edges (.int .i64) := by
 intro s hS; have hG := At.start hS; generalize Pg.run _ s = R at hG ⊢
 unfold Gh.edges at hG
 have hG := hG.to (Pg.bind_pure _).symm
 refine zep en95 fn95 rfl rfl rfl ?_
 refine zyr ?_
 repeat' first|(refine zap rfl ?_;refine zaq (cs := [_, _, _, _]) rfl (fun nb => ?_))|refine zp ?_|refine zyn ?_
 refine zeb [1] rfl ?_
 repeat' first|refine zyq ?_|(refine zap rfl ?_;first|refine zdu rfl rfl ?_|refine zdk [0] hG (getG w0 p _) rfl rfl rfl zdj (fun v s hG => ?_))|refine zp ?_|refine zyl 0 rfl ?_|refine zyf rfl ?_|refine zch ?_
 rw [hG.done]
 exact zej rfl ⟨rfl, rfl⟩
theorem okH (r : Int) (h : 0 ≤ r ∧ r ≤ 4096) : (⟨awP, r⟩ : He).Ok := ⟨awP_ok, h.1, h.2⟩
theorem okF (r : Int) (h : 0 ≤ r ∧ r ≤ 4096) : (⟨awP, r⟩ : Fo).Ok := ⟨awP_ok, h.1, h.2⟩
theorem okA (r : Int) (h : 0 ≤ r ∧ r ≤ 4096) : (⟨awP, r⟩ : Ar).Ok := ⟨awP_ok, h.1, h.2⟩
theorem okG (r : Int) (h : 0 ≤ r ∧ r ≤ 4096) : (⟨awP, r⟩ : Gh).Ok := ⟨awP_ok, h.1, h.2⟩
theorem okT (r : Int) (h : 0 ≤ r ∧ r ≤ 4096) : (⟨awP, r⟩ : Te).Ok := ⟨awP_ok, h.1, h.2⟩
theorem okM (r : Int) (h : 0 ≤ r ∧ r ≤ 4096) : (⟨awP, r, hsI, fun _ => true⟩ : Tr).Ok := ⟨awP_ok, h.1, h.2, (by show awP.nodes ≤ 100; decide), fun n => (hsI_in n).1, fun n => (hsI_in n).2⟩
theorem aqPush (hw : PowOk w0) (p : Nat) (r : Int) (hr : 0 ≤ r ∧ r ≤ 4096) (x : Int) : FnL w0 79 [arrV ⟨awP, r⟩, spP p, .int .i64 x] p (Aq.push ⟨awP, r⟩ x) encI2 := fun s hs => by
 rw [Aq.r_push]
 exact push_spec w0 hw p ⟨awP, r⟩ (okA r hr) s x (hs.sm (by decide))
theorem aqPop (hw : PowOk w0) (p : Nat) (r : Int) (hr : 0 ≤ r ∧ r ≤ 4096) : FnL w0 80 [arrV ⟨awP, r⟩, spP p] p (Aq.pop ⟨awP, r⟩) encI2 := fun s hs => by
 rw [Aq.r_pop]
 exact pop_spec w0 hw p ⟨awP, r⟩ (okA r hr) s (hs.sm (by decide))
theorem aqGet (hw : PowOk w0) (p : Nat) (r : Int) (hr : 0 ≤ r ∧ r ≤ 4096) (x : Int) : FnL w0 81 [arrV ⟨awP, r⟩, spP p, .int .i64 x] p (Aq.get ⟨awP, r⟩ x) encI2 := fun s hs => by
 rw [Aq.r_get]
 exact aget_spec w0 hw p ⟨awP, r⟩ (okA r hr) s x (hs.sm (by decide))
theorem aqSet (hw : PowOk w0) (p : Nat) (r : Int) (hr : 0 ≤ r ∧ r ≤ 4096) (x y : Int) : FnL w0 82 [arrV ⟨awP, r⟩, spP p, .int .i64 x, .int .i64 y] p (Aq.set ⟨awP, r⟩ x y) encI2 := fun s hs => by
 rw [Aq.r_set]
 exact aset_spec w0 hw p ⟨awP, r⟩ (okA r hr) s x y (hs.sm (by decide))
theorem aqSwap (hw : PowOk w0) (p : Nat) (r : Int) (hr : 0 ≤ r ∧ r ≤ 4096) (x y : Int) : FnL w0 83 [arrV ⟨awP, r⟩, spP p, .int .i64 x, .int .i64 y] p (Aq.swap ⟨awP, r⟩ x y) (.int .i64) := fun s hs => by
 rw [Aq.r_swap]
 exact aswap_spec w0 hw p ⟨awP, r⟩ (okA r hr) s x y (hs.sm (by decide))
theorem aqLen (p : Nat) (r : Int) (hr : 0 ≤ r ∧ r ≤ 4096) : FnL w0 84 [arrV ⟨awP, r⟩, spP p] p (Pg.gt ((⟨awP, r⟩ : Ar).root + 1)) (.int .i64) := fun s hs =>
 len_spec w0 p ⟨awP, r⟩ (okA r hr) s (hs.sm (by decide))
theorem sm_agetQ {A : Ar} {s : Sp} {j : Nat} {i : Int} (h : Sm s j) : Sm (A.get s i).2.2 j := by
 unfold Ar.get
 split
 · exact sm_get (sm_place h)
 · exact sm_place h
theorem sm_asetQ {A : Ar} {s : Sp} {j : Nat} {i v : Int} (h : Sm s (j + 1)) : Sm (A.set s i v).2.2 j := by
 unfold Ar.set
 split
 · exact sm_put (sm_get (sm_place h))
 · exact (sm_place h).mono (by omega)
theorem sm_aswapQ {A : Ar} {s : Sp} {j : Nat} {i v : Int} (h : Sm s (j + 2)) : Sm (A.swap s i v).2 j := by
 unfold Ar.swap
 dsimp only
 split
 · exact (sm_get h).mono (by omega)
 · split
   · split
     · exact sm_put (sm_put (sm_get (sm_get (sm_place (sm_place (sm_get h))))))
     · exact (sm_place (sm_place (sm_get h))).mono (by omega)
   · exact (sm_place (sm_get h)).mono (by omega)
theorem aqPush_len (r x : Int) (s : Sp) (hs : Few s) : (Pg.run (Aq.push ⟨awP, r⟩ x) s).2.puts.length ≤ s.puts.length + 30000 := by
 rw [Aq.r_push]
 exact len_sm (n := 24) (fun j h => sm_push h) (by decide) hs
theorem aqPop_len (r : Int) (s : Sp) (hs : Few s) : (Pg.run (Aq.pop ⟨awP, r⟩) s).2.puts.length ≤ s.puts.length + 30000 := by
 rw [Aq.r_pop]
 exact len_sm (n := 24) (fun j h => sm_pop h) (by decide) hs
theorem aqGet_len (r x : Int) (s : Sp) (hs : Few s) : (Pg.run (Aq.get ⟨awP, r⟩ x) s).2.puts.length ≤ s.puts.length + 30000 := by
 rw [Aq.r_get]
 exact len_sm (n := 0) (fun j h => sm_agetQ h) (by decide) hs
theorem aqSet_len (r x y : Int) (s : Sp) (hs : Few s) : (Pg.run (Aq.set ⟨awP, r⟩ x y) s).2.puts.length ≤ s.puts.length + 30000 := by
 rw [Aq.r_set]
 exact len_sm (n := 1) (fun j h => sm_asetQ h) (by decide) hs
theorem aqSwap_len (r x y : Int) (s : Sp) (hs : Few s) : (Pg.run (Aq.swap ⟨awP, r⟩ x y) s).2.puts.length ≤ s.puts.length + 30000 := by
 rw [Aq.r_swap]
 exact len_sm (n := 2) (fun j h => sm_aswapQ h) (by decide) hs
end Go.Proofs.YtgdhcgnmffgkiaaGreatDoor
namespace Sim
open Go Go.Vc
def upd (m : Int → Int) (a v : Int) : Int → Int := fun x => if x = a then v else m x
theorem upd_ne {m : Int → Int} {a v x : Int} (h : x ≠ a) : upd m a v x = m x := by simp [upd, h]
structure Vw (s0 : Sp) (N : Int) (s : Sp) (m : Int → Int) : Prop where
 live : s.ended = false
 kn : s.kn = s0.kn
 all : ∀ a, 0 ≤ a → a < N → ∃ w, lookW s.kn a = some w
 ext : ∃ l, s.puts = s0.puts ++ l
 val : ∀ a, 0 ≤ a → a < N → (s.value a).1 = m a
theorem lastV_add : ∀ (l : List (Int × Int)) (p : Int × Int) (x : Int), lastV (l ++ [p]) x = if p.1 = x then some p.2 else lastV l x
 | [], p, x => by simp [lastV]
 | (a, v) :: l, p, x => by
   simp only [List.cons_append, lastV, lastV_add l p x]
   by_cases h : p.1 = x <;> simp [h]
section
variable {s0 s : Sp} {N : Int} {m : Int → Int} {a v : Int}
theorem Vw.reads (h : Vw s0 N s m) (h0 : 0 ≤ a) (h1 : a < N) : s.reads a = (true, { s with rd := insI s.rd a }) := by
 obtain ⟨w, hw⟩ := h.all a h0 h1
 simp [Sp.reads, h.live, hw]
theorem Vw.get (h : Vw s0 N s m) (h0 : 0 ≤ a) (h1 : a < N) : (s.get a).1 = m a ∧ Vw s0 N (s.get a).2 m := by
 have hv := h.val a h0 h1
 have e : s.get a = ((s.value a).1, { s with rd := insI s.rd a }) := by simp only [Sp.get, h.reads h0 h1, if_true]; rfl
 rw [e]
 exact ⟨hv, h.live, h.kn, h.all, h.ext, h.val⟩
theorem Vw.put (h : Vw s0 N s m) (h0 : 0 ≤ a) (h1 : a < N) (v : Int) : Vw s0 N (s.put a v) (upd m a v) := by
 have e : s.put a v = { s with rd := insI s.rd a, puts := s.puts ++ [(a, v)] } := by simp [Sp.put, h.reads h0 h1]
 rw [e]
 refine ⟨h.live, h.kn, h.all, ?_, fun x hx0 hx1 => ?_⟩
 · obtain ⟨l, hl⟩ := h.ext
   exact ⟨l ++ [(a, v)], by simp [hl]⟩
 · have hv := h.val x hx0 hx1
   simp only [Sp.value, lastV_add] at hv ⊢
   by_cases e : a = x
   · subst e; simp [upd]
   · rw [if_neg e, upd_ne (Ne.symm e)]; exact hv
theorem Vw.base (h : Vw s0 N s m) : Vw s N s m := ⟨h.live, rfl, h.all, ⟨[], by simp⟩, h.val⟩
theorem Vw.back {s1 : Sp} {m1 : Int → Int} (h : Vw s0 N s m) (h1 : Vw s N s1 m1) : Vw s0 N (s1.back s.puts.length) m := by
 obtain ⟨l, hl⟩ := h1.ext
 have e : s1.back s.puts.length = { s1 with puts := s.puts } := by
   have h2 : (s.puts.length : Int) ≤ s1.puts.length := by rw [hl]; simp; omega
   simp only [Sp.back, h1.live, hl] at h2 ⊢
   rw [if_pos ⟨trivial, by omega, h2⟩]
   simp
 rw [e]
 refine ⟨h1.live, h1.kn.trans h.kn, h1.all, h.ext, fun x hx0 hx1 => ?_⟩
 have := h.val x hx0 hx1
 simp only [Sp.value, h1.kn] at this ⊢
 exact this
theorem Vw.trans {s1 : Sp} {m1 : Int → Int} (h : Vw s0 N s m) (h1 : Vw s N s1 m1) : Vw s0 N s1 m1 := by
 obtain ⟨l, hl⟩ := h.ext
 obtain ⟨l1, hl1⟩ := h1.ext
 exact ⟨h1.live, h1.kn.trans h.kn, h1.all, ⟨l ++ l1, by rw [hl1, hl, List.append_assoc]⟩, h1.val⟩
end
def Pg.Ok {α : Type} (N : Int) (g : Pg α) (m : Int → Int) (Q : α → (Int → Int) → Prop) : Prop :=
 ∀ s0 s, Vw s0 N s m → ∃ m', Vw s0 N (Pg.run g s).2 m' ∧ Q (Pg.run g s).1 m'
namespace Pg
variable {α β : Type} {N : Int} {m : Int → Int} {Q : α → (Int → Int) → Prop} {a v : Int}
theorem Ok.pure {r : α} (h : Q r m) : Ok N (Pure.pure r : Pg α) m Q := fun _ _ hv => ⟨m, hv, h⟩
theorem Ok.get {k : Int → Pg α} (h0 : 0 ≤ a) (h1 : a < N) (h : Ok N (k (m a)) m Q) : Ok N (gt a >>= k) m Q := fun s0 s hv => by
 obtain ⟨h2, h3⟩ := hv.get h0 h1
 rw [run_bind]
 show ∃ m', Vw s0 N (run (k (s.get a).1) (s.get a).2).2 m' ∧ Q (run (k (s.get a).1) (s.get a).2).1 m'
 rw [h2]
 exact h s0 _ h3
theorem Ok.put {k : Unit → Pg α} (h0 : 0 ≤ a) (h1 : a < N) (h : Ok N (k ()) (upd m a v) Q) : Ok N (pt a v >>= k) m Q := fun s0 s hv => by
 rw [run_bind]
 exact h s0 _ (hv.put h0 h1 v)
theorem Ok.bind {g : Pg β} {k : β → Pg α} (Q1 : β → (Int → Int) → Prop) (hg : Ok N g m Q1) (h : ∀ r m', Q1 r m' → Ok N (k r) m' Q) : Ok N (g >>= k) m Q := fun s0 s hv => by
 rw [run_bind]
 obtain ⟨m', h1, h2⟩ := hg s0 s hv
 exact h _ m' h2 s0 _ h1
theorem Ok.mono {Q' : α → (Int → Int) → Prop} {g : Pg α} (hg : Ok N g m Q) (h : ∀ r m', Q r m' → Q' r m') : Ok N g m Q' := fun s0 s hv =>
 let ⟨m', h1, h2⟩ := hg s0 s hv; ⟨m', h1, h _ _ h2⟩
theorem Ok.ite {c : Prop} [Decidable c] {x y : Pg α} (h1 : c → Ok N x m Q) (h2 : ¬ c → Ok N y m Q) : Ok N (if c then x else y) m Q := by
 split
 · exact h1 ‹_›
 · exact h2 ‹_›
theorem Ok.roll {g : Pg β} {k : Nat → β → Pg α} (bad : β → Prop) (Q1 : β → (Int → Int) → Prop) (hg : Ok N g m Q1)
   (hb : ∀ r m' n, Q1 r m' → bad r → ∃ r', k n r = (bk n >>= fun _ => Pure.pure r') ∧ Q r' m)
   (hgd : ∀ r m' n, Q1 r m' → ¬ bad r → Ok N (k n r) m' Q) : Ok N (mk >>= fun n => g >>= k n) m Q := fun s0 s hv => by
 rw [run_bind]
 show ∃ m', Vw s0 N (run (g >>= k s.puts.length) s).2 m' ∧ Q (run (g >>= k s.puts.length) s).1 m'
 rw [run_bind]
 obtain ⟨m', h1, h2⟩ := hg s s hv.base
 by_cases hbad : bad (run g s).1
 · obtain ⟨r', h3, h4⟩ := hb _ m' s.puts.length h2 hbad
   rw [h3, run_bind]
   exact ⟨m, hv.back h1, h4⟩
 · exact hgd _ m' s.puts.length h2 hbad s0 _ (hv.trans h1)
end Pg
structure Wf (s : Sp) : Prop where
 nd : s.rd.Nodup
 rk : ∀ x ∈ s.rd, lookW s.kn x ≠ none
 pr : ∀ p ∈ s.puts, p.1 ∈ s.rd
theorem mem_insI : ∀ (l : List Int) (x y : Int), y ∈ insI l x ↔ y ∈ l ∨ y = x
 | [], x, y => by simp [insI]
 | a :: l, x, y => by
   simp only [insI]
   split
   · rename_i h; subst h; simp; intro h; exact .inl h
   · rw [List.mem_cons, mem_insI l x y, List.mem_cons, or_assoc]
theorem nodup_insI : ∀ (l : List Int) (x : Int), l.Nodup → (insI l x).Nodup
 | [], x, _ => by simp [insI]
 | a :: l, x, h => by
   simp only [insI]
   split
   · exact h
   · rename_i hne
     rw [List.nodup_cons] at h ⊢
     refine ⟨fun hm => ?_, nodup_insI l x h.2⟩
     rcases (mem_insI l x a).1 hm with h1 | h1
     · exact h.1 h1
     · exact hne h1
theorem reads_kn (s : Sp) (a : Int) : (s.reads a).2.kn = s.kn := by unfold Sp.reads; split; rfl; split <;> rfl
theorem get_kn (s : Sp) (a : Int) : (s.get a).2.kn = s.kn := by simp only [Sp.get]; split <;> exact reads_kn s a
theorem put_kn (s : Sp) (a v : Int) : (s.put a v).kn = s.kn := by simp only [Sp.put]; split <;> exact reads_kn s a
theorem back_kn (s : Sp) (m : Int) : (s.back m).kn = s.kn := by simp only [Sp.back]; split <;> rfl
theorem Wf.reads {s : Sp} (h : Wf s) (a : Int) : Wf (s.reads a).2 ∧ ((s.reads a).1 = true → a ∈ (s.reads a).2.rd) := by
 unfold Sp.reads
 split
 · exact ⟨h, fun e => by cases e⟩
 · split
   · exact ⟨⟨h.nd, h.rk, h.pr⟩, fun e => by cases e⟩
   · rename_i w hw
     refine ⟨⟨nodup_insI _ _ h.nd, fun x hx => ?_, fun p hp => (mem_insI _ _ _).2 (.inl (h.pr p hp))⟩, fun _ => (mem_insI _ _ _).2 (.inr rfl)⟩
     rcases (mem_insI _ _ _).1 hx with h1 | h1
     · exact h.rk x h1
     · subst h1; rw [hw]; exact fun e => by cases e
theorem Wf.get {s : Sp} (h : Wf s) (a : Int) : Wf (s.get a).2 := by
 unfold Sp.get
 split <;> exact (h.reads a).1
theorem Wf.put {s : Sp} (h : Wf s) (a v : Int) : Wf (s.put a v) := by
 unfold Sp.put
 split
 · rename_i hr
   have h1 := h.reads a
   refine ⟨h1.1.nd, h1.1.rk, fun p hp => ?_⟩
   rcases List.mem_append.1 hp with hp | hp
   · have := h1.1.pr p
     rw [Pg.reads_puts'] at this
     exact this hp
   · simp at hp; subst hp; exact h1.2 hr
 · exact (h.reads a).1
theorem Wf.back {s : Sp} (h : Wf s) (m : Int) : Wf (s.back m) := by
 unfold Sp.back
 split
 · exact ⟨h.nd, h.rk, fun p hp => h.pr p (List.mem_of_mem_take hp)⟩
 · exact h
theorem Pg.wf {α : Type} : ∀ (g : Pg α) {s : Sp}, Wf s → Wf (Pg.run g s).2 ∧ (Pg.run g s).2.kn = s.kn
 | .ret _, _, h => ⟨h, rfl⟩
 | .get x k, s, h => let ⟨h1, h2⟩ := Pg.wf (k (s.get x).1) (h.get x); ⟨h1, h2.trans (get_kn s x)⟩
 | .put x v k, s, h => let ⟨h1, h2⟩ := Pg.wf k (h.put x v); ⟨h1, h2.trans (put_kn s x v)⟩
 | .mark k, s, h => Pg.wf (k s.puts.length) h
 | .back m k, s, h => let ⟨h1, h2⟩ := Pg.wf k (h.back m); ⟨h1, h2.trans (back_kn s m)⟩
end Sim
namespace Sim
open Go Go.Vc
def I64 (x : Int) : Prop := -9223372036854775808 ≤ x ∧ x ≤ 9223372036854775807
theorem i64_w (x : Int) : I64 (w64 x) := by
 show -9223372036854775808 ≤ w64 x ∧ w64 x ≤ 9223372036854775807
 unfold w64
 simp only [IntKind.wrap, IntKind.bits, IntKind.signed]
 simp
 constructor <;> (split <;> omega)
structure Lv (s : Sp) : Prop where
 all : s.ended = false → ∀ a, 0 ≤ a → a < 440 → ∃ w, lookW s.kn a = some w
 rng : ∀ a, I64 (s.value a).1
theorem reads_end (s : Sp) (a : Int) (h : s.ended = true) : s.reads a = (false, s) := by simp [Sp.reads, h]
theorem Lv.reads {s : Sp} (h : Lv s) (a : Int) : Lv (s.reads a).2 ∧ (s.reads a).2.puts = s.puts ∧ (s.reads a).2.kn = s.kn := by
 unfold Sp.reads
 split
 · exact ⟨h, rfl, rfl⟩
 · split
   · exact ⟨⟨fun h2 => (by cases h2), h.rng⟩, rfl, rfl⟩
   · exact ⟨⟨h.all, h.rng⟩, rfl, rfl⟩
theorem Lv.readsL {s : Sp} (h : Lv s) {a : Int} (h0 : 0 ≤ a) (h1 : a < 440) : (s.reads a).2.ended = s.ended ∧ (s.ended = false → (s.reads a).1 = true) := by
 unfold Sp.reads
 cases he : s.ended with
 | true => exact ⟨by simp [he], fun h => by cases h⟩
 | false =>
   obtain ⟨w, hw⟩ := h.all he a h0 h1
   simp [hw]
theorem Lv.get {s : Sp} (h : Lv s) (a : Int) : Lv (s.get a).2 ∧ (s.get a).2.puts = s.puts ∧ (s.get a).2.kn = s.kn ∧ I64 (s.get a).1 := by
 obtain ⟨h1, h2, h3⟩ := h.reads a
 unfold Sp.get
 split
 · exact ⟨h1, h2, h3, h1.rng a⟩
 · exact ⟨h1, h2, h3, by unfold I64; omega⟩
theorem Lv.getL {s : Sp} (h : Lv s) {a : Int} (h0 : 0 ≤ a) (h1 : a < 440) : (s.get a).2.ended = s.ended := by
 unfold Sp.get
 split <;> exact (h.readsL h0 h1).1
structure Ext (s t : Sp) : Prop where
 lv : Lv t
 kn : t.kn = s.kn
 ended : t.ended = s.ended
 ext : ∃ l, t.puts = s.puts ++ l ∧ (s.ended = true → l = [])
theorem Ext.refl {s : Sp} (h : Lv s) : Ext s s := ⟨h, rfl, rfl, [], by simp, fun _ => rfl⟩
theorem Ext.trans {s t u : Sp} (h : Ext s t) (h2 : Ext t u) : Ext s u := by
 obtain ⟨l, hl, hl2⟩ := h.ext
 obtain ⟨m, hm, hm2⟩ := h2.ext
 exact ⟨h2.lv, h2.kn.trans h.kn, h2.ended.trans h.ended, l ++ m, by rw [hm, hl, List.append_assoc], fun he => by rw [hl2 he, hm2 (h.ended.trans he)]; rfl⟩
theorem Lv.put {s : Sp} (h : Lv s) {a : Int} (h0 : 0 ≤ a) (h1 : a < 440) {v : Int} (hv : I64 v) : Ext s (s.put a v) := by
 obtain ⟨h2, h3, h4⟩ := h.reads a
 obtain ⟨h5, h6⟩ := h.readsL h0 h1
 unfold Sp.put
 split
 · rename_i hr
   refine ⟨⟨h2.all, fun x => ?_⟩, h4, h5, [(a, v)], rfl, fun he => ?_⟩
   · have hx := h.rng x
     simp only [Sp.value, lastV_add, h4] at hx ⊢
     by_cases e : a = x
     · simp [e]; exact hv
     · rw [if_neg e]; exact hx
   · rw [reads_end s a he] at hr; cases hr
 · exact ⟨h2, h4, h5, [], by rw [h3]; simp, fun _ => rfl⟩
theorem Ext.back {s t : Sp} (hs : Lv s) (h : Ext s t) : Lv (t.back s.puts.length) ∧ (t.back s.puts.length).puts = s.puts ∧ (t.back s.puts.length).kn = s.kn := by
 obtain ⟨l, hl, hl2⟩ := h.ext
 cases he : s.ended with
 | true =>
   have e : t.back s.puts.length = t := by
     unfold Sp.back
     rw [if_neg]
     rw [h.ended, he]
     exact fun h => by cases h.1
   rw [e]
   exact ⟨h.lv, by rw [hl, hl2 he, List.append_nil], h.kn⟩
 | false =>
   have e : t.back s.puts.length = { t with puts := s.puts } := by
     have h2 : (s.puts.length : Int) ≤ t.puts.length := by rw [hl]; simp; omega
     simp only [Sp.back, h.ended, he, hl] at h2 ⊢
     rw [if_pos ⟨trivial, by omega, h2⟩]
     simp
   rw [e]
   refine ⟨⟨h.lv.all, fun x => ?_⟩, rfl, h.kn⟩
   have hx := hs.rng x
   simp only [Sp.value, h.kn] at hx ⊢
   exact hx
variable {α β : Type} {Q : α → Prop} {bad : α → Prop} {a x v : Int}
def Rg (g : Pg α) (Q : α → Prop) : Prop := ∀ s, Lv s → Lv (Pg.run g s).2 ∧ (Pg.run g s).2.puts = s.puts ∧ (Pg.run g s).2.kn = s.kn ∧ Q (Pg.run g s).1
def Sg (g : Pg α) (Q : α → Prop) : Prop := ∀ s, Lv s → Ext s (Pg.run g s).2 ∧ Q (Pg.run g s).1
def Nx (g : Pg α) (bad : α → Prop) (Q : α → Prop) : Prop := ∀ s, Lv s → Lv (Pg.run g s).2 ∧ (bad (Pg.run g s).1 → (Pg.run g s).2.puts = s.puts) ∧ Q (Pg.run g s).1
theorem Rg.nx {g : Pg α} (h : Rg g Q) : Nx g bad Q := fun s hs =>
 let ⟨h1, h2, _, h3⟩ := h s hs; ⟨h1, fun _ => h2, h3⟩
theorem Sg.nx {g : Pg α} (h : Sg g Q) (hb : ∀ r, Q r → ¬ bad r) : Nx g bad Q := fun s hs =>
 let ⟨h1, h2⟩ := h s hs; ⟨h1.lv, fun h3 => absurd h3 (hb _ h2), h2⟩
def Bg (g : Pg α) (Q : α → Prop) : Prop := ∀ s, Lv s → Lv (Pg.run g s).2 ∧ (Pg.run g s).2.puts = s.puts ∧ (Pg.run g s).2.kn = s.kn ∧ (Pg.run g s).2.ended = s.ended ∧ Q (Pg.run g s).1
theorem Bg.rg {g : Pg α} (h : Bg g Q) : Rg g Q := fun s hs =>
 let ⟨h1, h2, h3, _, h5⟩ := h s hs; ⟨h1, h2, h3, h5⟩
theorem Bg.sg {g : Pg α} (h : Bg g Q) : Sg g Q := fun s hs =>
 let ⟨h1, h2, h3, h4, h5⟩ := h s hs; ⟨⟨h1, h3, h4, [], by simp [h2], fun _ => rfl⟩, h5⟩
theorem Bg.pure {r : α} (h : Q r) : Bg (Pure.pure r : Pg α) Q := fun _ hs => ⟨hs, rfl, rfl, rfl, h⟩
theorem Bg.bind {g : Pg β} {k : β → Pg α} {Q1 : β → Prop} (h : Bg g Q1) (hk : ∀ r, Q1 r → Bg (k r) Q) : Bg (g >>= k) Q := fun s hs => by
 obtain ⟨h1, h2, h3, h4, h5⟩ := h s hs
 obtain ⟨k1, k2, k3, k4, k5⟩ := hk _ h5 _ h1
 rw [Pg.run_bind]
 exact ⟨k1, k2.trans h2, k3.trans h3, k4.trans h4, k5⟩
theorem Bg.mono {g : Pg α} {Q' : α → Prop} (h : Bg g Q) (hq : ∀ r, Q r → Q' r) : Bg g Q' := fun s hs =>
 let ⟨h1, h2, h3, h4, h5⟩ := h s hs; ⟨h1, h2, h3, h4, hq _ h5⟩
theorem Bg.gt1 (h0 : 0 ≤ a) (h1 : a < 440) : Bg (Pg.gt a) I64 := fun _ hs =>
 let ⟨h2, h3, h4, h5⟩ := hs.get a; ⟨h2, h3, h4, hs.getL h0 h1, h5⟩
theorem Bg.gt {k : Int → Pg α} (h0 : 0 ≤ a) (h1 : a < 440) (h : ∀ v, -9223372036854775808 ≤ v → v ≤ 9223372036854775807 → Bg (k v) Q) : Bg (Pg.gt a >>= k) Q := Bg.bind (Bg.gt1 h0 h1) fun v hv => h v hv.1 hv.2
theorem Bg.gtW {k : Int → Pg α} (h0 : 0 ≤ a) (h1 : a < 440) (h : ∀ v, -9223372036854775808 ≤ v → v ≤ 9223372036854775807 → Bg (k v) Q) : Bg (Pg.gt (w64 a) >>= k) Q := by rw [w64_in (by omega) (by omega)]; exact Bg.gt h0 h1 h
theorem Bg.ite {c : Prop} [Decidable c] {g h : Pg α} (h1 : c → Bg g Q) (h2 : ¬ c → Bg h Q) : Bg (if c then g else h) Q := by split; exact h1 ‹_›; exact h2 ‹_›
theorem Rg.mono {g : Pg α} {Q' : α → Prop} (h : Rg g Q) (hq : ∀ r, Q r → Q' r) : Rg g Q' := fun s hs =>
 let ⟨h1, h2, h4, h3⟩ := h s hs; ⟨h1, h2, h4, hq _ h3⟩
theorem Sg.mono {g : Pg α} {Q' : α → Prop} (h : Sg g Q) (hq : ∀ r, Q r → Q' r) : Sg g Q' := fun s hs =>
 let ⟨h1, h2⟩ := h s hs; ⟨h1, hq _ h2⟩
theorem Nx.mono {g : Pg α} {Q' : α → Prop} (h : Nx g bad Q) (hq : ∀ r, Q r → Q' r) : Nx g bad Q' := fun s hs =>
 let ⟨h1, h2, h3⟩ := h s hs; ⟨h1, h2, hq _ h3⟩
theorem Rg.pure {r : α} (h : Q r) : Rg (Pure.pure r : Pg α) Q := fun _ hs => ⟨hs, rfl, rfl, h⟩
theorem Sg.pure {r : α} (h : Q r) : Sg (Pure.pure r : Pg α) Q := fun _ hs => ⟨Ext.refl hs, h⟩
theorem Nx.pure {r : α} (h : Q r) : Nx (Pure.pure r : Pg α) bad Q := fun _ hs => ⟨hs, fun _ => rfl, h⟩
theorem Rg.bind {g : Pg β} {k : β → Pg α} {Q1 : β → Prop} (h : Rg g Q1) (hk : ∀ r, Q1 r → Rg (k r) Q) : Rg (g >>= k) Q := fun s hs => by
 obtain ⟨h1, h2, h7, h3⟩ := h s hs
 obtain ⟨h4, h5, h8, h6⟩ := hk _ h3 _ h1
 rw [Pg.run_bind]
 exact ⟨h4, h5.trans h2, h8.trans h7, h6⟩
theorem Sg.bind {g : Pg β} {k : β → Pg α} {Q1 : β → Prop} (h : Sg g Q1) (hk : ∀ r, Q1 r → Sg (k r) Q) : Sg (g >>= k) Q := fun s hs => by
 obtain ⟨h1, h3⟩ := h s hs
 obtain ⟨h4, h6⟩ := hk _ h3 _ h1.lv
 rw [Pg.run_bind]
 exact ⟨h1.trans h4, h6⟩
theorem Nx.bind {g : Pg β} {k : β → Pg α} {Q1 : β → Prop} (h : Rg g Q1) (hk : ∀ r, Q1 r → Nx (k r) bad Q) : Nx (g >>= k) bad Q := fun s hs => by
 obtain ⟨h1, h2, _, h3⟩ := h s hs
 obtain ⟨h4, h5, h6⟩ := hk _ h3 _ h1
 rw [Pg.run_bind]
 exact ⟨h4, fun hb => (h5 hb).trans h2, h6⟩
theorem Nx.roll {g : Pg β} {k : Nat → β → Pg α} {Q1 : β → Prop} (h : Sg g Q1) (hk : ∀ n r, Q1 r → (∃ r', k n r = (Pg.bk n >>= fun _ => Pure.pure r') ∧ Q r') ∨ ∃ r', k n r = Pure.pure r' ∧ ¬ bad r' ∧ Q r') : Nx (Pg.mk >>= fun n => g >>= k n) bad Q := fun s hs => by
 obtain ⟨h1, h2⟩ := h s hs
 rw [Pg.run_bind]
 show Lv (Pg.run (g >>= k s.puts.length) s).2 ∧ (bad (Pg.run (g >>= k s.puts.length) s).1 → (Pg.run (g >>= k s.puts.length) s).2.puts = s.puts) ∧ Q (Pg.run (g >>= k s.puts.length) s).1
 rw [Pg.run_bind]
 rcases hk s.puts.length _ h2 with ⟨r', e, hq⟩ | ⟨r', e, hb, hq⟩
 · rw [e, Pg.run_bind]
   obtain ⟨h3, h4, _⟩ := Ext.back hs h1
   exact ⟨h3, fun _ => h4, hq⟩
 · rw [e]
   exact ⟨h1.lv, fun h3 => absurd h3 hb, hq⟩
def Sw (g : Pg α) (silent : α → Prop) (Q : α → Prop) : Prop := ∀ s, Lv s → Ext s (Pg.run g s).2 ∧ Q (Pg.run g s).1 ∧ (silent (Pg.run g s).1 → (Pg.run g s).2.puts = s.puts)
theorem Sw.pure {r : α} {silent : α → Prop} (h : Q r) : Sw (Pure.pure r : Pg α) silent Q := fun _ hs => ⟨Ext.refl hs, h, fun _ => rfl⟩
theorem Sw.ite {c : Prop} [Decidable c] {g h : Pg α} {silent : α → Prop} (h1 : c → Sw g silent Q) (h2 : ¬ c → Sw h silent Q) : Sw (if c then g else h) silent Q := by split; exact h1 ‹_›; exact h2 ‹_›
theorem Sw.sg {g : Pg α} {silent : α → Prop} (h : Sg g Q) (hn : ∀ r, Q r → ¬ silent r) : Sw g silent Q := fun s hs =>
 let ⟨h1, h2⟩ := h s hs; ⟨h1, h2, fun h3 => absurd h3 (hn _ h2)⟩
theorem Sw.bg {g : Pg β} {k : β → Pg α} {silent : α → Prop} {Q1 : β → Prop} (h : Bg g Q1) (hk : ∀ r, Q1 r → Sw (k r) silent Q) : Sw (g >>= k) silent Q := fun s hs => by
 obtain ⟨h1, h2, h3, h4, h5⟩ := h s hs
 obtain ⟨k1, k2, k3⟩ := hk _ h5 _ h1
 rw [Pg.run_bind]
 exact ⟨Ext.trans ⟨h1, h3, h4, [], by simp [h2], fun _ => rfl⟩ k1, k2, fun h => (k3 h).trans h2⟩
theorem Nx.rollW {g : Pg β} {k : Nat → β → Pg α} {silent : β → Prop} {Q1 : β → Prop} (h : Sw g silent Q1) (hk : ∀ n r, Q1 r → (∃ r', k n r = (Pg.bk n >>= fun _ => Pure.pure r') ∧ Q r') ∨ ∃ r', k n r = Pure.pure r' ∧ (bad r' → silent r) ∧ Q r') : Nx (Pg.mk >>= fun n => g >>= k n) bad Q := fun s hs => by
 obtain ⟨h1, h2, h9⟩ := h s hs
 rw [Pg.run_bind]
 show Lv (Pg.run (g >>= k s.puts.length) s).2 ∧ (bad (Pg.run (g >>= k s.puts.length) s).1 → (Pg.run (g >>= k s.puts.length) s).2.puts = s.puts) ∧ Q (Pg.run (g >>= k s.puts.length) s).1
 rw [Pg.run_bind]
 rcases hk s.puts.length _ h2 with ⟨r', e, hq⟩ | ⟨r', e, hb, hq⟩
 · rw [e, Pg.run_bind]
   obtain ⟨h3, h4, _⟩ := Ext.back hs h1
   exact ⟨h3, fun _ => h4, hq⟩
 · rw [e]
   exact ⟨h1.lv, fun h3 => h9 (hb h3), hq⟩
theorem Rg.gt1 (a : Int) : Rg (Pg.gt a) I64 := fun _ hs => hs.get a
theorem Sg.gt1 (h0 : 0 ≤ a) (h1 : a < 440) : Sg (Pg.gt a) I64 := fun _ hs =>
 let ⟨h2, h3, h4, h5⟩ := hs.get a; ⟨⟨h2, h4, hs.getL h0 h1, [], by rw [show (Pg.run (Pg.gt a) _).2.puts = _ from h3]; simp, fun _ => rfl⟩, h5⟩
theorem Rg.gt {k : Int → Pg α} (h : ∀ v, -9223372036854775808 ≤ v → v ≤ 9223372036854775807 → Rg (k v) Q) : Rg (Pg.gt a >>= k) Q := Rg.bind (Rg.gt1 a) fun v hv => h v hv.1 hv.2
theorem Sg.gt {k : Int → Pg α} (h0 : 0 ≤ a) (h1 : a < 440) (h : ∀ v, -9223372036854775808 ≤ v → v ≤ 9223372036854775807 → Sg (k v) Q) : Sg (Pg.gt a >>= k) Q := Sg.bind (Sg.gt1 h0 h1) fun v hv => h v hv.1 hv.2
theorem Nx.gt {k : Int → Pg α} (h : ∀ v, -9223372036854775808 ≤ v → v ≤ 9223372036854775807 → Nx (k v) bad Q) : Nx (Pg.gt a >>= k) bad Q := Nx.bind (Rg.gt1 a) fun v hv => h v hv.1 hv.2
theorem Sg.pt1 (h0 : 0 ≤ a) (h1 : a < 440) (hv : I64 v) : Sg (Pg.pt a v) (fun _ => True) := fun _ hs => ⟨hs.put h0 h1 hv, trivial⟩
theorem Sg.pt {k : Unit → Pg α} (h0 : 0 ≤ a) (h1 : a < 440) (hv : I64 v) (h : Sg (k ()) Q) : Sg (Pg.pt a v >>= k) Q := Sg.bind (Sg.pt1 h0 h1 hv) fun _ _ => h
theorem w440 (h0 : 0 ≤ a) (h1 : a < 440) : w64 a = a := w64_in (by omega) (by omega)
theorem Sg.gtW {k : Int → Pg α} (h0 : 0 ≤ a) (h1 : a < 440) (h : ∀ v, -9223372036854775808 ≤ v → v ≤ 9223372036854775807 → Sg (k v) Q) : Sg (Pg.gt (w64 a) >>= k) Q := by rw [w440 h0 h1]; exact Sg.gt h0 h1 h
theorem Sg.ptW {k : Unit → Pg α} (h0 : 0 ≤ a) (h1 : a < 440) (hv : I64 v) (h : Sg (k ()) Q) : Sg (Pg.pt (w64 a) v >>= k) Q := by rw [w440 h0 h1]; exact Sg.pt h0 h1 hv h
theorem Sg.pt1W (h0 : 0 ≤ a) (h1 : a < 440) (hv : I64 v) : Sg (Pg.pt (w64 a) v) (fun _ => True) := by rw [w440 h0 h1]; exact Sg.pt1 h0 h1 hv
theorem Rg.ite {c : Prop} [Decidable c] {g h : Pg α} (h1 : c → Rg g Q) (h2 : ¬ c → Rg h Q) : Rg (if c then g else h) Q := by split; exact h1 ‹_›; exact h2 ‹_›
theorem Sg.ite {c : Prop} [Decidable c] {g h : Pg α} (h1 : c → Sg g Q) (h2 : ¬ c → Sg h Q) : Sg (if c then g else h) Q := by split; exact h1 ‹_›; exact h2 ‹_›
theorem Nx.ite {c : Prop} [Decidable c] {g h : Pg α} (h1 : c → Nx g bad Q) (h2 : ¬ c → Nx h bad Q) : Nx (if c then g else h) bad Q := by split; exact h1 ‹_›; exact h2 ‹_›
theorem nd_of {a : Int} (h0 : -9223372036854775808 ≤ a) (h1 : a ≤ 9223372036854775807) (h : awP.node a = true) : 200 ≤ a ∧ a ≤ 432 := by
 unfold Pl.node awP at h
 simp only [Bool.and_eq_true, decide_eq_true_eq] at h
 obtain ⟨⟨h1, h2⟩, h3⟩ := h
 have e1 : w64 (a - 200) = a - 200 := w64_in (by omega) (by omega)
 rw [e1] at h2 h3
 have e2 : (a - 200).tdiv 8 = (a - 200) / 8 := Int.tdiv_eq_ediv_of_nonneg (by omega)
 have e3 : (a - 200).tmod 8 = (a - 200) % 8 := Int.tmod_eq_emod_of_nonneg (by omega)
 rw [e2, w64_in (by omega) (by omega)] at h3
 rw [e3] at h2
 omega
theorem Rg.iteN {g h : Pg α} (h0 : -9223372036854775808 ≤ a) (h3 : a ≤ 9223372036854775807) (h1 : 200 ≤ a → a ≤ 432 → Rg g Q) (h2 : Rg h Q) : Rg (if awP.node a = true then g else h) Q := Rg.ite (fun h => h1 (nd_of h0 h3 h).1 (nd_of h0 h3 h).2) fun _ => h2
theorem Sg.iteN {g h : Pg α} (h0 : -9223372036854775808 ≤ a) (h3 : a ≤ 9223372036854775807) (h1 : 200 ≤ a → a ≤ 432 → Sg g Q) (h2 : Sg h Q) : Sg (if awP.node a = true then g else h) Q := Sg.ite (fun h => h1 (nd_of h0 h3 h).1 (nd_of h0 h3 h).2) fun _ => h2
theorem Bg.iteN {g h : Pg α} (h0 : -9223372036854775808 ≤ a) (h3 : a ≤ 9223372036854775807) (h1 : 200 ≤ a → a ≤ 432 → Bg g Q) (h2 : Bg h Q) : Bg (if awP.node a = true then g else h) Q := Bg.ite (fun h => h1 (nd_of h0 h3 h).1 (nd_of h0 h3 h).2) fun _ => h2
theorem Nx.iteN {g h : Pg α} (h0 : -9223372036854775808 ≤ a) (h3 : a ≤ 9223372036854775807) (h1 : 200 ≤ a → a ≤ 432 → Nx g bad Q) (h2 : Nx h bad Q) : Nx (if awP.node a = true then g else h) bad Q := Nx.ite (fun h => h1 (nd_of h0 h3 h).1 (nd_of h0 h3 h).2) fun _ => h2
end Sim
namespace Sim
open Go Go.Vc
theorem sg_takeP : Sg awP.takeP (fun r => I64 r.1 ∧ (r.2 = 0 → 200 ≤ r.1 ∧ r.1 ≤ 432)) := by
 unfold Pl.takeP Pl.addP
 have e1 : awP.root = 1 := rfl
 have e2 : awP.frm = 200 := rfl
 have e3 : awP.nodes = 30 := rfl
 rw [e1, e2, e3]
 refine Sg.gt (by omega) (by omega) fun v h0 h1 => Sg.ite (fun _ => ?_) (fun _ => ?_)
 · refine Sg.iteN h0 h1 (fun h2 h3 => ?_) (Sg.pure ⟨by unfold I64; omega, fun h => by cases h⟩)
   refine Sg.gt (by omega) (by omega) fun x h4 h5 => Sg.pt (by omega) (by omega) ⟨h4, h5⟩ ?_
   refine Sg.bind (Q1 := fun _ => True) (Sg.gt (by omega) (by omega) fun y h6 h7 => Sg.pt (by omega) (by omega) (i64_w _) (Sg.pure trivial)) fun _ _ => Sg.pure ⟨by unfold I64; omega, fun _ => ⟨h2, h3⟩⟩
 · refine Sg.gt (by omega) (by omega) fun n h2 h3 => Sg.ite (fun _ => Sg.pure ⟨by unfold I64; omega, fun h => by cases h⟩) fun hn => ?_
   exact Sg.pt (by omega) (by omega) (by unfold I64; omega) (Sg.pure ⟨by unfold I64; dsimp only; omega, fun _ => by dsimp only; omega⟩)
theorem sg_giveP {a : Int} (h0 : -9223372036854775808 ≤ a) (h1 : a ≤ 9223372036854775807) : Sg (awP.giveP a) I64 := by
 unfold Pl.giveP Pl.addP
 have e1 : awP.root = 1 := rfl
 rw [e1]
 refine Sg.iteN h0 h1 (fun h2 h3 => ?_) (Sg.pure (by unfold I64; omega))
 refine Sg.gt (by omega) (by omega) fun f h4 h5 => Sg.pt (by omega) (by omega) ⟨h4, h5⟩ (Sg.pt (by omega) (by omega) ⟨h0, h1⟩ ?_)
 refine Sg.bind (Q1 := fun _ => True) (Sg.gt (by omega) (by omega) fun y h6 h7 => Sg.pt (by omega) (by omega) (i64_w _) (Sg.pure trivial)) fun _ _ => Sg.pure (by unfold I64; omega)
theorem Nx.after {g : Pg Int} {Q : Int → Prop} (h : Sg g Q) : Nx (Pg.mk >>= fun m => g >>= fun e => Qu.after m e) (fun e => e ≠ 0) Q := Nx.roll h fun n r hq => by
 unfold Qu.after
 by_cases he : r ≠ 0
 · exact .inl ⟨r, by rw [if_pos he], hq⟩
 · exact .inr ⟨r, by rw [if_neg he], he, hq⟩
theorem Nx.after2 {g : Pg (Int × Int)} {Q : Int × Int → Prop} (h : Sg g Q) : Nx (Pg.mk >>= fun m => g >>= fun e => Qu.after2 m e) (fun e => e.2 ≠ 0) Q := Nx.roll h fun n r hq => by
 unfold Qu.after2
 by_cases he : r.2 ≠ 0
 · exact .inl ⟨r, by rw [if_pos he], hq⟩
 · exact .inr ⟨r, by rw [if_neg he], he, hq⟩
variable {r v : Int}
theorem nx_cGet : Nx (Ctr.get r) (fun _ => True) I64 := (Rg.gt1 r).nx
theorem nx_cAdd (h0 : 0 ≤ r) (h1 : r < 440) (n : Int) : Nx (Ctr.add r n) (fun q => q.2 ≠ 0) (fun q => I64 q.1) := by
 unfold Ctr.add
 refine Nx.gt fun v h2 h3 => Nx.ite (fun _ => ?_) (fun _ => Nx.pure (by unfold I64; dsimp only; omega))
 exact (Sg.pt h0 h1 (i64_w _) (Sg.pure (Q := fun q : Int × Int => q.2 = 0 ∧ I64 q.1) ⟨rfl, i64_w _⟩)).nx (fun q h h4 => h4 h.1) |>.mono fun q h => h.2
theorem nx_cSet (h0 : 0 ≤ r) (h1 : r < 440) (hv : I64 v) : Nx (Ctr.set r v) (fun _ => False) I64 := by
 unfold Ctr.set
 exact (Sg.gt (Q := I64) h0 h1 fun u h2 h3 => Sg.pt h0 h1 hv (Sg.pure ⟨h2, h3⟩)).nx fun _ _ h => h
theorem sg_stMore (h0 : 8 ≤ r) (h1 : r ≤ 170) (n : Int) : Sg (Stk.more r n) (fun _ => True) := by
 unfold Stk.more; repeat' first|with_reducible exact True.intro|with_reducible refine Sg.gtW (by omega) (by omega) (fun _ _ _ => ?_)|with_reducible refine Sg.ptW (by omega) (by omega) (by first | (unfold I64; omega)|exact i64_w _) ?_|with_reducible refine Sg.gt (by omega) (by omega) (fun _ _ _ => ?_)|with_reducible refine Sg.pt (by omega) (by omega) (by first | (unfold I64; omega)|exact i64_w _) ?_|with_reducible refine Sg.bind (sg_giveP (by omega) (by omega)) (fun _ _ => ?_)|with_reducible refine Sg.iteN (by omega) (by omega) (fun _ _ => ?_) ?_|with_reducible refine Sg.ite (fun _ => ?_) (fun _ => ?_)|with_reducible refine Sg.pure ?_
 all_goals first | trivial | (unfold I64; omega) | (unfold I64; dsimp only; omega)
theorem nx_sPush (h0 : 8 ≤ r) (h1 : r ≤ 170) (hv : I64 v) : Nx (Stk.push awP r v) (fun e => e ≠ 0) (fun _ => True) := by
 unfold Stk.push
 refine Nx.after ?_
 obtain ⟨h2, h3⟩ := hv
 unfold Stk.pushIn
 refine Sg.bind sg_takeP fun t ht => Sg.ite (fun _ => Sg.pure trivial) fun hE => ?_
 obtain ⟨h4, h5⟩ := ht.2 (by omega)
 repeat' first|with_reducible refine Sg.bind (sg_stMore h0 h1 _) (fun _ _ => ?_)|with_reducible exact True.intro|with_reducible refine Sg.gtW (by omega) (by omega) (fun _ _ _ => ?_)|with_reducible refine Sg.ptW (by omega) (by omega) (by first | (unfold I64; omega)|exact i64_w _) ?_|with_reducible refine Sg.gt (by omega) (by omega) (fun _ _ _ => ?_)|with_reducible refine Sg.pt (by omega) (by omega) (by first | (unfold I64; omega)|exact i64_w _) ?_|with_reducible refine Sg.bind (sg_giveP (by omega) (by omega)) (fun _ _ => ?_)|with_reducible refine Sg.iteN (by omega) (by omega) (fun _ _ => ?_) ?_|with_reducible refine Sg.ite (fun _ => ?_) (fun _ => ?_)|with_reducible refine Sg.pure ?_
 all_goals first | trivial | (unfold I64; omega) | (unfold I64; dsimp only; omega)
theorem nx_sPop (h0 : 8 ≤ r) (h1 : r ≤ 170) : Nx (Stk.pop awP r) (fun q => q.2 ≠ 0) (fun q => I64 q.1) := by
 unfold Stk.pop
 refine Nx.after2 ?_
 unfold Stk.popIn
 repeat' first|with_reducible refine Sg.bind (sg_stMore h0 h1 _) (fun _ _ => ?_)|with_reducible exact True.intro|with_reducible refine Sg.gtW (by omega) (by omega) (fun _ _ _ => ?_)|with_reducible refine Sg.ptW (by omega) (by omega) (by first | (unfold I64; omega)|exact i64_w _) ?_|with_reducible refine Sg.gt (by omega) (by omega) (fun _ _ _ => ?_)|with_reducible refine Sg.pt (by omega) (by omega) (by first | (unfold I64; omega)|exact i64_w _) ?_|with_reducible refine Sg.bind (sg_giveP (by omega) (by omega)) (fun _ _ => ?_)|with_reducible refine Sg.iteN (by omega) (by omega) (fun _ _ => ?_) ?_|with_reducible refine Sg.ite (fun _ => ?_) (fun _ => ?_)|with_reducible refine Sg.pure ?_
 all_goals first | trivial | (unfold I64; omega) | (unfold I64; dsimp only; omega)
theorem rg_sTop : Rg (Stk.top r) (fun q => I64 q.1) := by
 unfold Stk.top; repeat' first|with_reducible refine Rg.gt (fun _ _ _ => ?_)|with_reducible refine Rg.ite (fun _ => ?_) (fun _ => ?_)|with_reducible refine Rg.pure ?_
 all_goals first | trivial | (unfold I64; omega) | (unfold I64; dsimp only; omega)
end Sim
