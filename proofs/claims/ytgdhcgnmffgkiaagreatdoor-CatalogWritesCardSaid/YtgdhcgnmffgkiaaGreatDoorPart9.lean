import Derived.Test.YtgdhcgnmffgkiaaGreatDoorPart8
import Derived.Test.YtgdhcgnmffgkiaaGreatDoorPart3
import Derived.Test.YtgdhcgnmffgkiaaGreatDoorKit
/- Own work: lemmas of this claim. -/
namespace Go.Proofs.YtgdhcgnmffgkiaaGreatDoor
variable (w0 : World)
open Go.Vc Sim
set_option maxHeartbeats 4000000
abbrev ghV (G : Gh) : Value := .agg (List.toArray [.int .i64 G.pool.root, .int .i64 G.pool.frm, .int .i64 G.pool.nodes, .int .i64 G.root])
abbrev glV (l : GL) : Value := .agg (List.toArray [.int .i64 l.head, .int .i64 l.nx, .int .i64 l.pv])
theorem ghNode (G : Gh) (hG : G.Ok) (n : Int) : FnE PP w0 [] 281 [ghV G, .int .i64 n] [] (.bool (G.nd n)) [] := by
 have kn := node_spec w0 G.pool hG.1 n
 refine zep en281 fn281 rfl rfl rfl ?_
 refine zyr ?_
 repeat' first|(refine zap rfl ?_;refine zaq (cs := [_, _, _, _]) rfl (fun nb => ?_))|refine zp ?_|refine zyn ?_
 refine zeb [0] rfl ?_
 repeat' first|refine zck ?_|refine zyq ?_|(refine zap rfl ?_;refine zah [] kn rfl rfl rfl zdj rfl ?_)|refine zp ?_|refine zyl 0 rfl ?_|refine zyf rfl ?_|refine zch ?_
 exact zej rfl ⟨rfl, rfl⟩
theorem ghVm (G : Gh) (hG : G.Ok) : FnE PP w0 [] 170 [ghV G] [] (.int .i64 G.vm) [] := by
 obtain ⟨_, h1, h2⟩ := id hG
 refine zep en170 fn170 rfl rfl rfl ?_
 refine zyr ?_
 repeat' first|(refine zap rfl ?_;refine zaq (cs := [_, _, _, _]) rfl (fun nb => ?_))|refine zp ?_|refine zyn ?_
 refine zeb [0] rfl ?_
 repeat' first|refine zyq ?_|(refine zap rfl ?_;first|refine zav rfl rfl (by omega) ?_|refine zaw rfl rfl (by omega) ?_)|refine zp ?_|refine zyl 0 rfl ?_|refine zyf rfl ?_|refine zch ?_
 exact zej rfl ⟨rfl, rfl⟩
theorem ghEm (G : Gh) (hG : G.Ok) : FnE PP w0 [] 177 [ghV G] [] (.int .i64 G.em) [] := by
 obtain ⟨_, h1, h2⟩ := id hG
 refine zep en177 fn177 rfl rfl rfl ?_
 refine zyr ?_
 repeat' first|(refine zap rfl ?_;refine zaq (cs := [_, _, _, _]) rfl (fun nb => ?_))|refine zp ?_|refine zyn ?_
 refine zeb [0] rfl ?_
 repeat' first|refine zyq ?_|(refine zap rfl ?_;first|refine zav rfl rfl (by omega) ?_|refine zaw rfl rfl (by omega) ?_)|refine zp ?_|refine zyl 0 rfl ?_|refine zyf rfl ?_|refine zch ?_
 exact zej rfl ⟨rfl, rfl⟩
theorem ghAll (G : Gh) : FnE PP w0 [] 173 [ghV G] [] (glV G.all) [] := by
 refine zep en173 fn173 rfl rfl rfl ?_
 refine zyr ?_
 repeat' (refine zap rfl ?_;first|refine zar (fun t2 => ?_)|refine zaq (cs := [_, _, _, _]) rfl (fun nb => ?_))
 all_goals refine zyn ?_
 refine zeb [0] rfl ?_
 repeat' first|refine zyq ?_|(refine zap rfl ?_;first|refine zdu rfl rfl ?_|refine zae 0 rfl rfl rfl rfl rfl rfl rfl ?_|refine zcb rfl ?_)|refine zyl 0 rfl ?_|refine zyf rfl ?_|refine zch ?_
 exact zeg (zek (zel [] rfl (zem rfl (zeo 0 rfl rfl rfl) ⟨rfl, rfl, rfl⟩)))
theorem ghOut (G : Gh) (v : Int) : FnE PP w0 [] 178 [ghV G, .int .i64 v] [] (glV (Gh.out v)) [] := by
 refine zep en178 fn178 rfl rfl rfl ?_
 refine zyr ?_
 repeat' (refine zap rfl ?_;first|refine zar (fun t4 => ?_)|refine zaq (cs := [_, _, _, _]) rfl (fun nb => ?_))
 all_goals refine zyn ?_
 refine zeb [0] rfl ?_
 repeat' first|refine zyq ?_|(refine zap rfl ?_;first|refine zdu rfl rfl ?_|refine zae 0 rfl rfl rfl rfl rfl rfl rfl ?_|refine zcb rfl ?_)|refine zp ?_|refine zch ?_
 exact zeg (zek (zel [] rfl (zem rfl (zeo 0 rfl rfl rfl) ⟨rfl, rfl, rfl⟩)))
theorem ghIn (G : Gh) (v : Int) : FnE PP w0 [] 179 [ghV G, .int .i64 v] [] (glV (Gh.inn v)) [] := by
 refine zep en179 fn179 rfl rfl rfl ?_
 refine zyr ?_
 repeat' (refine zap rfl ?_;first|refine zar (fun t4 => ?_)|refine zaq (cs := [_, _, _, _]) rfl (fun nb => ?_))
 all_goals refine zyn ?_
 refine zeb [0] rfl ?_
 repeat' first|refine zyq ?_|(refine zap rfl ?_;first|refine zdu rfl rfl ?_|refine zae 0 rfl rfl rfl rfl rfl rfl rfl ?_|refine zcb rfl ?_)|refine zp ?_|refine zch ?_
 exact zeg (zek (zel [] rfl (zem rfl (zeo 0 rfl rfl rfl) ⟨rfl, rfl, rfl⟩)))
theorem ghAt (n c : Int) : FnE PP w0 [] 171 [.int .i64 n, .int .i64 c] [] (.int .i64 (w64 (n + c))) [] := by
 refine zep en171 fn171 rfl rfl rfl ?_
 repeat' first|refine zck ?_|refine zyq ?_|(refine zap rfl ?_;refine zdu rfl rfl ?_)|refine zp ?_|refine zch ?_
 exact zej rfl ⟨rfl, rfl⟩
theorem ghMore (p : Nat) (a n : Int) : FnG w0 [] 174 [spP p, .int .i64 a, .int .i64 n] p (Gh.more a n) encU := by
 intro s hS; have hG := At.start hS; generalize Pg.run _ s = R at hG ⊢
 unfold Gh.more at hG
 refine zep en174 fn174 rfl rfl rfl ?_
 repeat' first|refine zyq ?_|(refine zap rfl ?_;first|refine zdu rfl rfl ?_|refine zdk [0] hG (getG w0 p _) rfl rfl rfl zdj (fun x s hG => ?_)|refine zdk [0] hG (putG w0 p _ _) rfl rfl rfl zdj (fun u s hG => ?_))|refine zp ?_|refine zch ?_
 rw [hG.done]
 exact end_tmp0 rfl ⟨rfl, rfl⟩
theorem ghVertex (p : Nat) (G : Gh) (hK : G.Ok) (n : Int) : FnG w0 [] 175 [ghV G, spP p, .int .i64 n] p (G.vertex n) (.bool) := by
 have kn := ghNode w0 G hK n
 have km := ghVm w0 G hK
 intro s hS; have hG := At.start hS; generalize Pg.run _ s = R at hG ⊢
 unfold Gh.vertex at hG
 refine zep en175 fn175 rfl rfl rfl ?_
 refine zyr ?_
 repeat' first|(refine zap rfl ?_;refine zaq (cs := [_, _, _, _]) rfl (fun nb => ?_))|refine zp ?_|refine zyn ?_
 refine zeb [1] rfl ?_
 cases hN : G.nd n with
 | false =>
   rw [hN, if_neg (by decide)] at hG
   rw [hN] at kn
   rw [hG.done]
   repeat' first|refine zyq ?_|(refine zap rfl ?_;first|refine zak rfl ?_|refine zah [] kn rfl rfl rfl zdj rfl ?_|refine zbv rfl ?_)|refine zp ?_|refine zyl 0 rfl ?_|refine zch ?_
   exact zej rfl ⟨rfl, rfl⟩
 | true =>
   rw [hN, if_pos rfl] at hG
   rw [hN] at kn
   repeat' first|refine zyq ?_|(refine zap rfl ?_;first|refine zaj rfl ?_|refine zah [] kn rfl rfl rfl zdj rfl ?_|refine zah [] km rfl rfl rfl zdj rfl ?_|refine zah [] (ghAt w0 _ _) rfl rfl rfl zdj rfl ?_|refine zdk [0] hG (getG w0 p _) rfl rfl rfl zdj (fun x s hG => ?_)|refine zbo rfl rfl ?_|refine zbu rfl ?_)|refine zp ?_|refine zyl 0 rfl ?_|refine zch ?_
   rw [hG.done]
   exact zej rfl ⟨rfl, rfl⟩
theorem ghEdge (p : Nat) (G : Gh) (hK : G.Ok) (n : Int) : FnG w0 [] 180 [ghV G, spP p, .int .i64 n] p (G.edge n) (.bool) := by
 have kn := ghNode w0 G hK n
 have km := ghEm w0 G hK
 intro s hS; have hG := At.start hS; generalize Pg.run _ s = R at hG ⊢
 unfold Gh.edge at hG
 refine zep en180 fn180 rfl rfl rfl ?_
 refine zyr ?_
 repeat' first|(refine zap rfl ?_;refine zaq (cs := [_, _, _, _]) rfl (fun nb => ?_))|refine zp ?_|refine zyn ?_
 refine zeb [1] rfl ?_
 cases hN : G.nd n with
 | false =>
   rw [hN, if_neg (by decide)] at hG
   rw [hN] at kn
   rw [hG.done]
   repeat' first|refine zyq ?_|(refine zap rfl ?_;first|refine zak rfl ?_|refine zah [] kn rfl rfl rfl zdj rfl ?_|refine zbv rfl ?_)|refine zp ?_|refine zyl 0 rfl ?_|refine zch ?_
   exact zej rfl ⟨rfl, rfl⟩
 | true =>
   rw [hN, if_pos rfl] at hG
   rw [hN] at kn
   repeat' first|refine zyq ?_|(refine zap rfl ?_;first|refine zaj rfl ?_|refine zah [] kn rfl rfl rfl zdj rfl ?_|refine zah [] km rfl rfl rfl zdj rfl ?_|refine zah [] (ghAt w0 _ _) rfl rfl rfl zdj rfl ?_|refine zdk [0] hG (getG w0 p _) rfl rfl rfl zdj (fun x s hG => ?_)|refine zbo rfl rfl ?_|refine zbu rfl ?_)|refine zp ?_|refine zyl 0 rfl ?_|refine zch ?_
   rw [hG.done]
   exact zej rfl ⟨rfl, rfl⟩
theorem ghLink (p : Nat) (G : Gh) (hK : G.Ok) (l : GL) (n : Int) : FnG w0 [] 172 [ghV G, spP p, glV l, .int .i64 n] p (G.link l n) (.int .i64) := by
 intro s hS; have hG := At.start hS; generalize Pg.run _ s = R at hG ⊢
 unfold Gh.link at hG
 refine zep en172 fn172 rfl rfl rfl ?_
 refine zyr ?_
 repeat' first|(refine zap rfl ?_;first|refine zaq (cs := [_, _, _]) rfl (fun nb => ?_)|refine zaq (cs := [_, _, _, _]) rfl (fun nb => ?_))|refine zp ?_|refine zyn ?_
 refine zeb [1] rfl ?_
 refine zeb [1] rfl ?_
 refine zyr ?_
 repeat' first|(refine zap rfl ?_;refine zdk [0] hG (getG w0 p _) rfl rfl rfl zdj (fun was s hG => ?_))|refine zp ?_|refine zyl 0 rfl ?_|refine zyf rfl ?_|refine zyn ?_
 refine zyr ?_
 repeat' first|(refine zap rfl ?_;first|refine zah [] (ghAt w0 _ _) rfl rfl rfl zdj rfl ?_|refine zdk [0] hG (putG w0 p _ _) rfl rfl rfl zdj (fun u s hG => ?_))|refine zp ?_|refine zyl 0 rfl ?_|refine zyf rfl ?_|refine zyn ?_
 refine zyr ?_
 repeat' first|(refine zap rfl ?_;first|refine zah [] (ghAt w0 _ _) rfl rfl rfl zdj rfl ?_|refine zdk [0] hG (putG w0 p _ _) rfl rfl rfl zdj (fun u s hG => ?_))|refine zp ?_|refine zyl 0 rfl ?_|refine zyf rfl ?_|refine zyn ?_
 refine zyr ?_
 repeat' first|(refine zap rfl ?_;refine zdk [0] hG (putG w0 p _ _) rfl rfl rfl zdj (fun u s hG => ?_))|refine zp ?_|refine zyl 0 rfl ?_|refine zyf rfl ?_|refine zyn ?_
 by_cases hw : was = 0
 · rw [if_pos hw] at hG
   rw [hG.done]
   repeat' first|refine zck ?_|refine zyq ?_|(refine zap rfl ?_;refine zbc rfl rfl (by omega) ?_)|refine zp ?_|refine zch ?_|refine zci rfl ?_
   exact zej rfl ⟨rfl, rfl⟩
 rw [if_neg hw] at hG
 refine zyr ?_
 repeat' first|(refine zap rfl ?_;refine zbd rfl rfl (by omega) ?_)|refine zp ?_|refine zyn ?_
 refine zcj rfl ?_
 have kn := ghNode w0 G hK was
 cases hN : G.nd was with
 | false =>
   rw [hN, if_neg (by decide)] at hG
   rw [hN] at kn
   rw [hG.done]
   repeat' first|refine zck ?_|refine zcm ?_|refine zyq ?_|(refine zap rfl ?_;first|refine zbx rfl ?_|refine zah [] kn rfl rfl rfl zdj rfl ?_)|refine zp ?_|refine zyl 1 rfl ?_|refine zch ?_|refine zci rfl ?_
   exact zej rfl ⟨rfl, rfl⟩
 | true =>
   rw [hN, if_pos rfl] at hG
   rw [hN] at kn
   repeat' first|refine zck ?_|refine zcm ?_|refine zyq ?_|(refine zap rfl ?_;first|refine zbx rfl ?_|refine zah [] kn rfl rfl rfl zdj rfl ?_|refine zah [] (ghAt w0 _ _) rfl rfl rfl zdj rfl ?_|refine zdk [0] hG (putG w0 p _ _) rfl rfl rfl zdj (fun u s hG => ?_))|refine zp ?_|refine zyl 0 rfl ?_|refine zyl 1 rfl ?_|refine zyf rfl ?_|refine zch ?_|refine zcj rfl ?_
   rw [hG.done]
   exact zej rfl ⟨rfl, rfl⟩
theorem ghUnlink (p : Nat) (G : Gh) (hK : G.Ok) (l : GL) (n : Int) : FnG w0 [] 183 [ghV G, spP p, glV l, .int .i64 n] p (G.unlink l n) (.int .i64) := by
 intro s hS; have hG := At.start hS; generalize Pg.run _ s = R at hG ⊢
 unfold Gh.unlink at hG
 refine zep en183 fn183 rfl rfl rfl ?_
 refine zyr ?_
 repeat' first|(refine zap rfl ?_;first|refine zaq (cs := [_, _, _]) rfl (fun nb => ?_)|refine zaq (cs := [_, _, _, _]) rfl (fun nb => ?_))|refine zp ?_|refine zyn ?_
 rename_i gb
 revert nb; intro lb
 refine zeb [1] rfl ?_
 refine zeb [1] rfl ?_
 refine zyr ?_
 repeat' first|(refine zap rfl ?_;first|refine zah [] (ghAt w0 _ _) rfl rfl rfl zdj rfl ?_|refine zdk [0] hG (getG w0 p (w64 (n + l.pv))) rfl rfl rfl zdj (fun a s hG => ?_)|refine zdk [0] hG (getG w0 p (w64 (n + l.nx))) rfl rfl rfl zdj (fun b s hG => ?_))|refine zp ?_|refine zyl 0 rfl ?_|refine zyf rfl ?_|refine zyn ?_
 refine zyr ?_
 repeat' first|(refine zap rfl ?_;refine zbo rfl rfl ?_)|refine zp ?_|refine zyn ?_
 refine run_join (S := Sp) (fun _ => [(1, spP p), (3, .int .i64 n), (4, .pointer (some ⟨gb, 0, none⟩)), (6, .pointer (some ⟨lb, 0, none⟩)), (9, .int .i64 a), (10, .int .i64 b)])
   (fun z Γ => Γ = [SpaceA p z] ∧ At R (G.unlinkB l a b) z) ?_ ?_
 · refine zed rfl (fun ha => ?_) (fun ha => ?_)
   · rw [if_pos ha] at hG
     repeat' first|refine zyq ?_|(refine zap rfl ?_;refine zdk [0] hG (putG w0 p _ _) rfl rfl rfl zdj (fun u s hG => ?_))|refine zp ?_|refine zyl 0 rfl ?_|refine zyf rfl ?_|refine zch ?_
     exact zeq ⟨rfl, s, ⟨rfl, rfl, rfl, rfl, rfl, rfl, trivial⟩, ⟨rfl, hG⟩⟩
   rw [if_neg ha] at hG
   have kn := ghNode w0 G hK a
   cases hN : G.nd a with
   | false =>
     rw [hN, if_neg (by decide)] at hG
     rw [hN] at kn
     rw [hG.done]
     repeat' first|refine zck ?_|refine zyq ?_|(refine zap rfl ?_;first|refine zbx rfl ?_|refine zah [] kn rfl rfl rfl zdj rfl ?_)|refine zp ?_|refine zyl 1 rfl ?_|refine zch ?_|refine zci rfl ?_
     exact cut_ret (zek (zem rfl rfl ⟨rfl, rfl⟩))
   | true =>
     rw [hN, if_pos rfl] at hG
     rw [hN] at kn
     repeat' first|refine zck ?_|refine zyq ?_|(refine zap rfl ?_;first|refine zbx rfl ?_|refine zah [] kn rfl rfl rfl zdj rfl ?_|refine zah [] (ghAt w0 _ _) rfl rfl rfl zdj rfl ?_|refine zdk [0] hG (putG w0 p _ _) rfl rfl rfl zdj (fun u s hG => ?_))|refine zp ?_|refine zyl 0 rfl ?_|refine zyl 1 rfl ?_|refine zyf rfl ?_|refine zch ?_|refine zcj rfl ?_
     exact zeq ⟨rfl, s, ⟨rfl, rfl, rfl, rfl, rfl, rfl, trivial⟩, ⟨rfl, hG⟩⟩
 rintro s Γ junk ⟨rfl, hG⟩
 unfold Gh.unlinkB at hG
 by_cases hb : b = 0
 · rw [if_pos hb] at hG
   rw [hG.done]
   repeat' first|refine zck ?_|refine zcn ?_|refine zyq ?_|(refine zap rfl ?_;refine zbc rfl rfl (by omega) ?_)|refine zp ?_|refine zch ?_|refine zci rfl ?_
   exact zej rfl ⟨rfl, rfl⟩
 rw [if_neg hb] at hG
 refine zyr ?_
 repeat' first|(refine zap rfl ?_;refine zbd rfl rfl (by omega) ?_)|refine zp ?_|refine zyn ?_
 refine zcj rfl ?_
 have kn := ghNode w0 G hK b
 cases hN : G.nd b with
 | false =>
   rw [hN, if_neg (by decide)] at hG
   rw [hN] at kn
   rw [hG.done]
   repeat' first|refine zck ?_|refine zcm ?_|refine zyq ?_|(refine zap rfl ?_;first|refine zbx rfl ?_|refine zah [] kn rfl rfl rfl zdj rfl ?_)|refine zp ?_|refine zyl 1 rfl ?_|refine zch ?_|refine zci rfl ?_
   exact zej rfl ⟨rfl, rfl⟩
 | true =>
   rw [hN, if_pos rfl] at hG
   rw [hN] at kn
   repeat' first|refine zck ?_|refine zcm ?_|refine zyq ?_|(refine zap rfl ?_;first|refine zbx rfl ?_|refine zah [] kn rfl rfl rfl zdj rfl ?_|refine zah [] (ghAt w0 _ _) rfl rfl rfl zdj rfl ?_|refine zdk [0] hG (putG w0 p _ _) rfl rfl rfl zdj (fun u s hG => ?_))|refine zp ?_|refine zyl 0 rfl ?_|refine zyl 1 rfl ?_|refine zyf rfl ?_|refine zch ?_|refine zcj rfl ?_
   rw [hG.done]
   exact zej rfl ⟨rfl, rfl⟩
theorem ghUndo (p : Nat) (s : Sp) (m : Nat) (eb : Nat) (e : Int) : FnD PP w0 [] 169 [spP p, .int .i64 m, .pointer (some ⟨eb, 0, none⟩)] [SpaceA p s, erV eb e]
    fun v Γ' => v = .tuple #[] ∧ Γ' = [SpaceA p (if e ≠ 0 then s.back m else s), erV eb e] := by
  refine fnD_of_run en169 fn169 rfl rfl rfl ?_
 
  repeat' first|refine zck ?_|refine zyq ?_|(refine zap rfl ?_;first|refine zab 1 rfl rfl rfl ?_|refine zbp rfl rfl ?_)|refine zp ?_|refine zch ?_
  refine zed rfl (fun hE => ?_) (fun hE => ?_)
  · repeat' first|refine zyq ?_|(refine zap rfl ?_;refine zah [0] (back_spec w0 p s m) rfl rfl rfl zdj rfl ?_)|refine zp ?_|refine zch ?_
    refine run_nil ⟨rfl, ends_none rfl ?_⟩
    rw [if_pos hE]; exact ⟨rfl, rfl⟩
  · repeat' first|refine zcm ?_|(refine zap rfl ?_;first|refine zaj rfl ?_|refine zak rfl ?_|refine zal rfl ?_|refine zam rfl rfl (fun _ => ?_) (fun _ => ?_))|refine zch ?_
    refine run_nil ⟨rfl, ends_none rfl ?_⟩
    rw [if_neg hE]; exact ⟨rfl, rfl⟩
def ghD (p eb : Nat) (m : Nat) : Deferred := { target := .fn (.func 169) #[], args := List.toArray [spP p, .int .i64 m, .pointer (some ⟨eb, 0, none⟩)] }
abbrev shP (p b : Nat) : Nat × Obj := (b, .cells (List.toArray [spP p]) 24 (0, 0))
abbrev shL (l : GL) (b : Nat) : Nat × Obj := (b, .cells (List.toArray [.int .i64 l.head, .int .i64 l.nx, .int .i64 l.pv]) 228 (0, 0))
abbrev shG (G : Gh) (b : Nat) : Nat × Obj := (b, .cells (List.toArray [.int .i64 G.pool.root, .int .i64 G.pool.frm, .int .i64 G.pool.nodes, .int .i64 G.root]) 130 (0, 0))
abbrev shE (eb b : Nat) : Nat × Obj := (b, .cells (List.toArray [.pointer (some ⟨eb, 0, none⟩)]) 153 (0, 0))
abbrev ptS (x : Nat × Obj) : Asn := pt x.1 x.2
theorem ghThrough (p eb : Nat) (G : Gh) (l : GL) : Vc.Fn PP w0 [] 185 [ghV G, spP p, glV l, .pointer (some ⟨eb, 0, none⟩)] [] (fun v Γ => ∃ b1 b2 b3 b4, v = .func (.func 282) #[] #[.pointer (some ⟨b1, 0, none⟩), .pointer (some ⟨b2, 0, none⟩), .pointer (some ⟨b3, 0, none⟩), .pointer (some ⟨b4, 0, none⟩)] ∧
   Γ = [ptS (shG G b3), ptS (shP p b1), ptS (shL l b2), ptS (shE eb b4)]) := by
 refine zep en185 fn185 rfl rfl rfl ?_
 refine zyr ?_
 repeat' first|(refine zap rfl ?_;first|refine zaq (cs := [_]) rfl (fun nb => ?_)|refine zaq (cs := [_, _, _]) rfl (fun nb => ?_)|refine zaq (cs := [_, _, _, _]) rfl (fun nb => ?_))|refine zp ?_|refine zyn ?_
 repeat' first|refine zyq ?_|refine zp ?_|refine zch ?_
 exact zej rfl ⟨_, _, _, _, rfl, rfl⟩
def RY (p : Nat) {β : Type} (φ : Nat → β → Prop) (f : β → Int → Pg (β × Bool)) (A X : β → Asn) (x : {x : β × Int × Sp // Pg.Fits (f x.1 x.2.1) x.2.2 ∧ ∃ i, i < 128 ∧ φ i x.1}) (jump : Option Code) (Γ : List Asn) : Prop :=
 jump = (if (Pg.run (f x.1.1 x.1.2.1) x.1.2.2).1.2 = true then none else some .ret) ∧
 Γ = [SpaceA p (Pg.run (f x.1.1 x.1.2.1) x.1.2.2).2, if (Pg.run (f x.1.1 x.1.2.1) x.1.2.2).1.2 = true then A (Pg.run (f x.1.1 x.1.2.1) x.1.2.2).1.1 else X (Pg.run (f x.1.1 x.1.2.1) x.1.2.2).1.1]
theorem ghThrough1 (p eb : Nat) (G : Gh) (hK : G.Ok) (l : GL) (sh : Shared) (b1 b2 b3 b4 : Nat) {β : Type} (f : β → Int → Pg (β × Bool)) (A X : β → Asn) (φ : Nat → β → Prop) (hφ : ∀ i acc n s, i < 128 → φ i acc → (Pg.run (f acc n) s).1.2 = true → φ (i + 1) (Pg.run (f acc n) s).1.1) (L : Nat) (lp : Option Code → Asn)
   (hY : ∀ x : {x : β × Int × Sp // Pg.Fits (f x.1 x.2.1) x.2.2 ∧ ∃ i, i < 128 ∧ φ i x.1}, Yld PP w0 (shP p b1 :: shL l b2 :: shG G b3 :: shE eb b4 :: sh) L [.int .i64 x.1.2.1] (lp none :: [SpaceA p x.1.2.2, A x.1.1])
     (fun b Γ' => ∃ jump Γ'', b = jump.isNone ∧ RY p φ f A X x jump Γ'' ∧ Γ' = lp jump :: Γ'')) (acc : β) (h0 : φ 0 acc) (s : Sp) (hS : Pg.Fits (G.through l f acc) s) :
   Vc.Fn PP w0 (shP p b1 :: shL l b2 :: shG G b3 :: shE eb b4 :: sh) 282 [.func (.yield L) #[] #[], .pointer (some ⟨b1, 0, none⟩), .pointer (some ⟨b2, 0, none⟩), .pointer (some ⟨b3, 0, none⟩), .pointer (some ⟨b4, 0, none⟩)]
     [lp none, SpaceA p s, A acc, erV eb 0]
     (fun _ Γ' => Γ' = [lp (if (Pg.run (G.through l f acc) s).1.2.2 = true then some .ret else none), SpaceA p (Pg.run (G.through l f acc) s).2, if (Pg.run (G.through l f acc) s).1.2.2 = true then X (Pg.run (G.through l f acc) s).1.1 else A (Pg.run (G.through l f acc) s).1.1, erV eb (Pg.run (G.through l f acc) s).1.2.1]) := by
 have hG := At.start hS
 generalize Pg.run _ s = R at hG ⊢
 unfold Gh.through at hG
 refine zep en282 fn282 rfl rfl rfl ?_
 refine zyr ?_
 repeat' refine zp ?_
 all_goals refine zyn ?_
 refine zyr ?_
 repeat' first|(refine zap rfl ?_;refine zdk [1] hG (getG w0 p _) rfl rfl rfl zdj (fun n s hG => ?_))|refine zp ?_|refine zyl 0 rfl ?_|refine zyl 1 rfl ?_|refine zyf rfl ?_|refine zyn ?_
 repeat (first|refine zck ?_|refine zcl ?_|refine zcm ?_|refine zcn ?_|refine zco ?_)
 obtain ⟨⟨hp1, hp2, hp3, hp4, hp5, hp6, hp7⟩, _, _⟩ := id hK
 refine run_loop (S := Int × Nat × β × Sp) (fun v => [(0, .func (.yield L) #[] #[]), (1, .pointer (some ⟨b1, 0, none⟩)), (2, .pointer (some ⟨b2, 0, none⟩)), (3, .pointer (some ⟨b3, 0, none⟩)), (4, .pointer (some ⟨b4, 0, none⟩)), (6, .int .i64 (G.pool.nodes - v.2.1)), (7, .int .i64 v.1)])
   (fun v Γ => Γ = [SpaceA p v.2.2.2, lp none, A v.2.2.1, erV eb 0] ∧ At R (G.thr l f v.2.1 v.1 v.2.2.1) v.2.2.2 ∧ v.2.1 ≤ G.pool.nodes.toNat ∧ φ (G.pool.nodes.toNat - v.2.1) v.2.2.1) (fun v => v.2.1) (n, G.pool.nodes.toNat, acc, s) ⟨rfl, rfl, rfl, rfl, rfl, by show Value.int .i64 0 = _; congr 1; dsimp only; omega, rfl, trivial⟩ ⟨rfl, hG, Nat.le_refl _, by dsimp only; rw [Nat.sub_self]; exact h0⟩ ?_
 rintro ⟨n, k, acc, s⟩ Γ junk ⟨rfl, hG, hle, hph⟩
 dsimp only at hG hle hph ⊢
 by_cases hn : n = 0
 · have hG : At R (Pg.ret (acc, 0, false)) s := by cases k <;> rw [Gh.thr, if_pos hn] at hG <;> exact hG
   rw [hG.done]
   refine zyr ?_
   repeat' first|(refine zap rfl ?_;refine zbf rfl rfl (by omega) ?_)|refine zp ?_|refine zyn ?_
   refine zcj rfl ?_
   refine zer rfl rfl ?_
   exact run_nil (zek (zel [1, 0, 0, 0] rfl (ends_none rfl ⟨rfl, by first | rfl | simp⟩)))
 have kn := ghNode w0 G hK n
 cases hN : G.nd n with
 | false =>
   have hG : At R (Pg.ret (acc, 24, false)) s := by cases k <;> rw [Gh.thr, if_neg hn] at hG <;> first|exact hG|(rw [hN, if_neg (by decide)] at hG; exact hG)
   rw [hN] at kn
   rw [hG.done]
   repeat' first|refine zck ?_|refine zcm ?_|refine zcl ?_|refine zyq ?_|(refine zap rfl ?_;first|refine zbx rfl ?_|refine zak rfl ?_|refine zah [] kn rfl rfl rfl zdj rfl ?_|refine zbe rfl rfl (by omega) ?_|refine zau rfl rfl (by omega) ?_|refine zbu rfl ?_|refine zae 3 rfl rfl rfl rfl rfl rfl rfl ?_)|refine zp ?_|refine zyl 2 rfl ?_|refine zyl 3 rfl ?_|refine zch ?_|refine zci rfl ?_
   exact cut_ret (zek (zel [1, 0, 0, 0] rfl (ends_none rfl ⟨rfl, by first | rfl | simp⟩)))
 | true =>
 cases k with
 | zero =>
   rw [Gh.thr, if_neg hn] at hG
   rw [hN] at kn
   rw [hG.done]
   repeat' first|refine zck ?_|refine zcm ?_|refine zcl ?_|refine zyq ?_|(refine zap rfl ?_;first|refine zbx rfl ?_|refine zaj rfl ?_|refine zah [] kn rfl rfl rfl zdj rfl ?_|refine zbe rfl rfl (by omega) ?_|refine zbk rfl rfl (by omega) ?_|refine zau rfl rfl (by omega) ?_|refine zbv rfl ?_|refine zae 3 rfl rfl rfl rfl rfl rfl rfl ?_)|refine zp ?_|refine zyl 2 rfl ?_|refine zyl 3 rfl ?_|refine zyf rfl ?_|refine zch ?_|refine zci rfl ?_
   exact cut_ret (zek (zel [1, 0, 0, 0] rfl (ends_none rfl ⟨rfl, by first | rfl | simp⟩)))
 | succ k =>
   rw [Gh.thr, if_neg hn, hN, if_pos rfl] at hG
   rw [hN] at kn
   refine zyr ?_
   repeat' first|(refine zap rfl ?_;refine zbe rfl rfl (by omega) ?_)|refine zp ?_|refine zyn ?_
   refine zci rfl ?_
   repeat (first|refine zck ?_|refine zcl ?_|refine zcm ?_|refine zcn ?_|refine zco ?_)
   refine zyr ?_
   repeat' first|(refine zap rfl ?_;refine zau rfl rfl (by omega) ?_)|refine zp ?_|refine zyn ?_
   refine zyr ?_
   repeat' first|(refine zap rfl ?_;first|refine zbx rfl ?_|refine zaj rfl ?_|refine zah [] kn rfl rfl rfl zdj rfl ?_|refine zbl rfl rfl (by omega) ?_|refine zbv rfl ?_)|refine zp ?_|refine zyl 2 rfl ?_|refine zyf rfl ?_|refine zyn ?_
   refine zcj rfl ?_
   refine zyr ?_
   repeat' first|(refine zap rfl ?_;first|refine zbx rfl ?_|refine reg_yield [1, 0, 0] (hY ⟨(acc, n, s), hG.step.1, G.pool.nodes.toNat - (k + 1), by omega, hph⟩) rfl rfl rfl (fun _ h => h) (fun b Γ' ⟨jump, Γ'', q1, ⟨q2, q3⟩, q4⟩ => ?_))|refine zp ?_|refine zyn ?_
   subst q4; subst q3; subst q2; subst q1
   have hG := hG.step.2
   have hph2 := hφ _ acc n s (by omega) hph
   rw [show G.pool.nodes.toNat - (k + 1) + 1 = G.pool.nodes.toNat - k by omega] at hph2
   dsimp only at hG ⊢
   generalize Pg.run (f acc n) s = q at hG hph2 ⊢
   obtain ⟨⟨acc2, go⟩, s⟩ := q
   dsimp only at hG ⊢
   cases go with
   | false =>
     rw [if_neg (by decide)] at hG
     refine zci rfl ?_
     rw [hG.done]
     exact cut_ret (zek (ends_none rfl (by simp)))
   | true =>
     rw [if_pos rfl] at hG
     refine zcj rfl ?_
     repeat' first|refine zcm ?_|refine zcn ?_|refine zyq ?_|(refine zap rfl ?_;first|refine zah [] (ghAt w0 _ _) rfl rfl rfl zdj rfl ?_|refine zdk [1] hG (getG w0 p _) rfl rfl rfl zdj (fun m s hG => ?_))|refine zp ?_|refine zyl 0 rfl ?_|refine zyl 1 rfl ?_|refine zyf rfl ?_|refine zch ?_
     exact zeq ⟨rfl, (m, k, acc2, s), ⟨rfl, rfl, rfl, rfl, rfl, by show Value.int .i64 _ = _; congr 1; dsimp only; omega, rfl, trivial⟩, ⟨rfl, hG, by dsimp only; omega, hph2 rfl⟩, Nat.lt_succ_self k⟩
section
variable {w0 : World} {nn : Nat} {sh : Shared} {Q : Exit → Env → List Deferred → List Asn → Prop} {k : List Item} {ρ : Env} {df : List Deferred} {Γ Γr : List Asn}
theorem run_through {β γ : Type} (is : List Nat) {R : γ × Sp} {G : Gh} (hK : G.Ok) {l : GL} (φ : Nat → β → Prop) (f : β → Int → Pg (β × Bool)) (A X : β → Asn) {acc : β} {kk : β × Int × Bool → Pg γ} {p eb b1 b2 b3 b4 : Nat} {s : Sp} {g : Operand} {prm : Tmp} {assign body : Code}
   (hG : At R (G.through l f acc >>= kk) s) (h0 : φ 0 acc) (hφ : ∀ i acc n s, i < 128 → φ i acc → (Pg.run (f acc n) s).1.2 = true → φ (i + 1) (Pg.run (f acc n) s).1.1)
   (hg : ev ρ g = .func (.func 282) #[] #[.pointer (some ⟨b1, 0, none⟩), .pointer (some ⟨b2, 0, none⟩), .pointer (some ⟨b3, 0, none⟩), .pointer (some ⟨b4, 0, none⟩)])
   (hsh : ∀ q ∈ [shP p b1, shL l b2, shG G b3, shE eb b4], q ∈ sh)
   (hp : Nat.blt prm nn = true) (hnd : (noDefC assign && noDefC body) = true) (hpk : pick is Γ = some ([SpaceA p s, A acc, erV eb 0], Γr))
   (hround : ∀ i acc n s R, i < 128 → φ i acc → At R (f acc n) s → Run PP w0 nn sh (fun e ρ' df' Γ' => e = .normal ∧
       Run PP w0 nn sh (rndQ fun jump Γ => jump = (if R.1.2 = true then none else some .ret) ∧ Γ = [SpaceA p R.2, if R.1.2 = true then A R.1.1 else X R.1.1]) [.code body] ρ' df' Γ') [.code assign] (ρ.set prm (.int .i64 n)) [] [SpaceA p s, A acc])
   (hk : ∀ D r s', r = (Pg.run (G.through l f acc) s).1 → At R (kk r) s' → (r.2.2 = false → Run PP w0 nn sh Q k ρ (markD D :: df) (markA D :: [SpaceA p s', A r.1, erV eb r.2.1] ++ Γr)) ∧
       (r.2.2 = true → Q .ret ρ (markD D :: df) (markA D :: [SpaceA p s', X r.1, erV eb r.2.1] ++ Γr))) :
   Run PP w0 nn sh Q (.code (.rangeFunc g #[prm] assign body) :: k) ρ df Γ := by
 refine run_rangeFunc (β := {x : β × Int × Sp // Pg.Fits (f x.1 x.2.1) x.2.2 ∧ ∃ i, i < 128 ∧ φ i x.1}) is (fun x => .int .i64 x.1.2.1) (fun x => [SpaceA p x.1.2.2, A x.1.1]) (RY p φ f A X)
   (fun jump Γ => ∃ r s', r = (Pg.run (G.through l f acc) s).1 ∧ At R (kk r) s' ∧ jump = (if r.2.2 = true then some .ret else none) ∧ Γ = [SpaceA p s', if r.2.2 = true then X r.1 else A r.1, erV eb r.2.1]) hg hp hnd hpk (fun x => let ⟨i, h1, h2⟩ := x.2.2; hround i x.1.1 x.1.2.1 x.1.2.2 _ h1 h2 (At.start x.2.1)) (fun L lp hY => ?_) (fun D jump Γ ⟨r, s', h0, h1, h2, h3⟩ => ?_)
 · have h := ghThrough1 w0 p eb G hK l sh b1 b2 b3 b4 f A X φ hφ L lp (fun x => (hY x).share (fun q hq => List.mem_cons_of_mem _ (List.mem_cons_of_mem _ (List.mem_cons_of_mem _ (List.mem_cons_of_mem _ hq))))) acc h0 s hG.step.1
   refine (h.share (fun q hq => ?_)).mono ?_
   · rcases List.mem_cons.1 hq with rfl | hq
     · exact hsh _ (by simp)
     rcases List.mem_cons.1 hq with rfl | hq
     · exact hsh _ (by simp)
     rcases List.mem_cons.1 hq with rfl | hq
     · exact hsh _ (by simp)
     rcases List.mem_cons.1 hq with rfl | hq
     · exact hsh _ (by simp)
     exact hq
   · rintro v Γ' rfl
     exact ⟨_, _, ⟨_, _, rfl, hG.step.2, rfl, rfl⟩, rfl⟩
 · subst h3
   obtain ⟨k1, k2⟩ := hk D r s' h0 h1
   cases hr : r.2.2 with
   | false => rw [hr] at h2; subst h2; simp only [Bool.false_eq_true, if_false]; exact k1 hr
   | true => rw [hr] at h2; subst h2; simp only [if_true]; exact k2 hr
end
theorem sub4 {P L G E : Nat × Obj} {sh : Shared} : ∀ q ∈ [P, L, G, E], q ∈ E :: L :: P :: G :: sh := by
 intro q hq
 simp only [List.mem_cons, List.not_mem_nil, or_false] at hq ⊢
 rcases hq with rfl | rfl | rfl | rfl <;> simp
abbrev clI2 (b : Nat) (v : Int) : Asn := pt b (.cells (List.toArray [.int .i64 v]) 2 (0, 0))
theorem ghFind (p : Nat) (G : Gh) (hK : G.Ok) (a b : Int) : FnG w0 [] 176 [ghV G, spP p, .int .i64 a, .int .i64 b] p (G.find a b) encI2 := by
 intro s hS; have hG := At.start hS; generalize Pg.run _ s = R at hG ⊢
 unfold Gh.find at hG
 refine zep en176 fn176 rfl rfl rfl ?_
 refine zyr ?_
 repeat' (refine zap rfl ?_;first|refine zar (fun ra => ?_)|refine zaq (cs := [_]) rfl (fun nb => ?_)|refine zaq (cs := [_, _, _, _]) rfl (fun nb => ?_))
 all_goals refine zyn ?_
 rename_i rb
 refine zeb [1] rfl ?_
 refine zeb [1] rfl ?_
 refine zeb [1] rfl ?_
 refine zyr ?_
 repeat' (refine zap rfl ?_;first|refine zar (fun eb => ?_)|refine zae 3 rfl rfl rfl rfl rfl rfl rfl ?_)
 all_goals refine zyn ?_
 first|refine zcp (by kernel_rfl) ?_|refine zcr [(.quiet, 0), (.quiet, 1), (.read, 2), (.quiet, 3), (.loud, 4), (.loud, 5)] PP_mixed (by kernel_rfl) (by kernel_rfl) ?_|refine zeh PP_mixed (by kernel_rfl) (by kernel_rfl) ?_
 repeat' first|(refine zap rfl ?_;first|refine zah [] (ghOut w0 G a) rfl rfl rfl zdj rfl ?_|refine zai [] (ghThrough w0 p eb G (Gh.out a)) rfl rfl rfl zdj (fun v Γ' ⟨b1, b2, b3, b4, q1, q2⟩ => ?_))|refine zp ?_|refine zyl 1 rfl ?_|refine zyl 2 rfl ?_|refine zyn ?_
 subst q1; subst q2
 refine zeb [0] rfl ?_
 refine zeb [0] rfl ?_
 refine zeb [0] rfl ?_
 refine zeb [0] rfl ?_
 refine run_closeB (l := [clI2 rb 0, erV ra 0]) [1, 1] rfl ?_
 repeat (first|refine zck ?_|refine zcl ?_|refine zcm ?_|refine zcn ?_|refine zco ?_)
 refine run_through [1, 0, 0] hK (fun _ _ => True) (Gh.findF b) (fun _ => big [clI2 rb 0, erV ra 0]) (fun r => big [clI2 rb r, erV ra 0]) hG trivial (fun _ _ _ _ _ _ _ => trivial) rfl sub4 rfl (by kernel_rfl) rfl (fun _ acc n s R _ _ hG => ?_) (fun D r s _ hG => ⟨fun hr => ?_, fun hr => ?_⟩)
 · unfold Gh.findF at hG
   refine zyr ?_
   repeat' refine zp ?_
   all_goals refine zyn ?_
   refine run_nil ⟨rfl, ?_⟩
   repeat (first|refine zck ?_|refine zcl ?_|refine zcm ?_|refine zcn ?_|refine zco ?_)
   refine zyx ?_
   first|refine zcp (by kernel_rfl) ?_|refine zcr [(.quiet, 0), (.quiet, 1), (.loud, 2), (.loud, 3), (.quiet, 4), (.quiet, 5)] PP_mixed (by kernel_rfl) (by kernel_rfl) ?_|refine zeh PP_mixed (by kernel_rfl) (by kernel_rfl) ?_
   repeat' first|(refine zap rfl ?_;first|refine zah [] (ghAt w0 _ _) rfl rfl rfl zdj rfl ?_|refine zdk [0] hG (getG w0 p _) rfl rfl rfl zdj (fun x s hG => ?_)|refine zbo rfl rfl ?_)|refine zp ?_|refine zyl 4 rfl ?_|refine zyl 5 rfl ?_|refine zyn ?_
   refine run_openB [1] rfl ?_
   refine zed rfl (fun hx => ?_) (fun hx => ?_)
   · rw [if_pos hx] at hG
     rw [hG.done]
     refine zyr ?_
     repeat' first|(refine zap rfl ?_;first|refine zae 0 rfl rfl rfl rfl rfl rfl rfl ?_|refine zae 1 rfl rfl rfl rfl rfl rfl rfl ?_)|refine zp ?_|refine zyn ?_
     refine run_closeB (l := [clI2 rb n, erV ra 0]) [0, 0] rfl ?_
     refine zec [1, 0] rfl ?_
     exact zeg ⟨rfl, rfl⟩
   · rw [if_neg hx] at hG
     rw [hG.done]
     refine run_closeB (l := [clI2 rb 0, erV ra 0]) [0, 0] rfl ?_
     refine zec [1, 0] rfl ?_
     repeat' first|refine zcm ?_|refine zcn ?_|refine zp ?_|refine zch ?_
     exact run_nil ⟨rfl, rfl⟩
 · rw [hr, if_neg (by decide)] at hG
   refine run_openB [2] rfl ?_
   repeat (first|refine zck ?_|refine zcl ?_|refine zcm ?_|refine zcn ?_|refine zco ?_)
   refine zeb [4] rfl ?_
   refine zyx ?_
   first|refine zcp (by kernel_rfl) ?_|refine zcr [(.quiet, 0), (.loud, 1), (.loud, 2)] PP_mixed (by kernel_rfl) (by kernel_rfl) ?_|refine zeh PP_mixed (by kernel_rfl) (by kernel_rfl) ?_
   repeat' first|(refine zap rfl ?_;first|refine zae 0 rfl rfl rfl rfl rfl rfl rfl ?_|refine zae 1 rfl rfl rfl rfl rfl rfl rfl ?_)|refine zyl 0 rfl ?_|refine zyn ?_
   rw [hG.done]
   exact zeg (leaves_mark [2] rfl (zek (zel [2] rfl (zen rfl (zeo 0 rfl rfl rfl) (zeo 1 rfl rfl rfl) ⟨rfl, rfl, rfl⟩))))
 · rw [hr, if_pos rfl] at hG
   rw [hG.done]
   refine leaves_mark [0] rfl (leaves_openB [1] rfl (zek ?_))
   exact zel [2] rfl (zen rfl (zeo 0 rfl rfl rfl) (zeo 1 rfl rfl rfl) ⟨rfl, rfl, rfl⟩)
end Go.Proofs.YtgdhcgnmffgkiaaGreatDoor
