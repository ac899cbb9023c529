import Derived.Test.YtgdhcgnmffgkiaaGreatDoorPart6
import Derived.Test.YtgdhcgnmffgkiaaGreatDoorPart11
/- Own work: lemmas of this claim. -/
namespace Go.Proofs.YtgdhcgnmffgkiaaGreatDoor
variable (w0 : World)
open Go.Vc Sim
set_option maxHeartbeats 4000000
theorem gone_spec (v : Int) (b : Bool) (e : Int) : FnE PP w0 [] 228 [.int .i64 v, .bool b, .int .i64 e] [] (encI2 (if e ≠ 0 then (0, e) else if b = true then (v, 0) else (0, 10))) [] := by
 refine zep en228 fn228 rfl rfl rfl ?_
 refine zyr ?_
 repeat' refine zp ?_
 all_goals refine zyn ?_
 refine zyr ?_
 repeat' first|(refine zap rfl ?_;refine zbp rfl rfl ?_)|refine zp ?_|refine zyn ?_
 refine zed rfl (fun h => ?_) (fun h => ?_)
 · rw [if_pos h]
   repeat' first|refine zck ?_|refine zyq ?_|refine zp ?_|refine zch ?_
   exact zei rfl ⟨rfl, rfl⟩
 · rw [if_neg h]
   repeat' first|refine zck ?_|refine zcm ?_|refine zyq ?_|(refine zap rfl ?_;refine zah [] (found_spec w0 v b) rfl rfl rfl zdj rfl ?_)|refine zp ?_|refine zch ?_
   cases b <;> exact zei rfl ⟨rfl, rfl⟩
theorem truthE_spec (b : Bool) (e : Int) : FnE PP w0 [] 226 [.bool b, .int .i64 e] [] (encI2 (if e = 0 ∧ b = true then (1, e) else (0, e))) [] := by
 by_cases he : e = 0
 · cases b with
   | false =>
     rw [if_neg (fun h => by cases h.2)]
     refine zep en226 fn226 rfl rfl rfl ?_
     repeat' first|refine zck ?_|refine zyq ?_|(refine zap rfl ?_;first|refine zbx rfl ?_|refine zaj rfl ?_|refine zbf rfl rfl (by omega) ?_|refine zbv rfl ?_)|refine zp ?_|refine zch ?_|refine zci rfl ?_
     exact zei rfl ⟨rfl, rfl⟩
   | true =>
     rw [if_pos ⟨he, rfl⟩]
     refine zep en226 fn226 rfl rfl rfl ?_
     repeat' first|refine zck ?_|refine zcm ?_|refine zyq ?_|(refine zap rfl ?_;first|refine zbx rfl ?_|refine zaj rfl ?_|refine zbf rfl rfl (by omega) ?_|refine zbv rfl ?_)|refine zp ?_|refine zch ?_|refine zcj rfl ?_
     exact zei rfl ⟨rfl, rfl⟩
 · rw [if_neg (fun h => he h.1)]
   refine zep en226 fn226 rfl rfl rfl ?_
   repeat' first|refine zck ?_|refine zyq ?_|(refine zap rfl ?_;first|refine zak rfl ?_|refine zbe rfl rfl (by omega) ?_|refine zbu rfl ?_)|refine zp ?_|refine zch ?_|refine zci rfl ?_
   exact zei rfl ⟨rfl, rfl⟩
theorem count_spec (a : Option Addr) (n c : Nat) (e : Int) : FnE PP w0 [] 256 [.slice a n c, .int .i64 e] [] (encI2 (if e ≠ 0 then (0, e) else ((n : Int), e))) [] := by
 refine zep en256 fn256 rfl rfl rfl ?_
 refine zyr ?_
 repeat' refine zp ?_
 all_goals refine zyn ?_
 refine zyr ?_
 repeat' first|(refine zap rfl ?_;refine zbp rfl rfl ?_)|refine zp ?_|refine zyn ?_
 refine zed rfl (fun h => ?_) (fun h => ?_)
 · rw [if_pos h]
   repeat' first|refine zck ?_|refine zyq ?_|refine zp ?_|refine zch ?_
   exact zei rfl ⟨rfl, rfl⟩
 · rw [if_neg h]
   repeat' first|refine zck ?_|refine zcm ?_|refine zyq ?_|(refine zap rfl ?_;refine zce rfl ?_)|refine zp ?_|refine zch ?_
   exact zei rfl ⟨rfl, rfl⟩
abbrev strV (P : Pl) (r : Int) : Value := .agg (List.toArray [.int .i64 P.root, .int .i64 P.frm, .int .i64 P.nodes, .int .i64 r])
theorem on_tree (p : Nat) (P : Pl) (r : Int) : FnE PP w0 [] 231 [onV p P r] [] (strV P r) [] := by
 refine zep en231 fn231 rfl rfl rfl ?_
 refine zyr ?_
 repeat' (refine zap rfl ?_;first|refine zaq (cs := [_, _, _, _, _]) rfl (fun tb => ?_)|refine zar (fun t2 => ?_))
 all_goals refine zyn ?_
 refine zeb [0] rfl ?_
 repeat' first|refine zyq ?_|(refine zap rfl ?_;first|refine zcb rfl ?_|refine zae 0 rfl rfl rfl rfl rfl rfl rfl ?_)|refine zyl 0 rfl ?_|refine zyf rfl ?_|refine zch ?_
 exact zeg (zek (zel [] rfl (zem rfl (zeo 0 rfl rfl rfl) ⟨rfl, rfl, rfl⟩)))
theorem on_heap (p : Nat) (P : Pl) (r : Int) : FnE PP w0 [] 241 [onV p P r] [] (strV P r) [] := by
 refine zep en241 fn241 rfl rfl rfl ?_
 refine zyr ?_
 repeat' (refine zap rfl ?_;first|refine zaq (cs := [_, _, _, _, _]) rfl (fun tb => ?_)|refine zar (fun t2 => ?_))
 all_goals refine zyn ?_
 refine zeb [0] rfl ?_
 repeat' first|refine zyq ?_|(refine zap rfl ?_;first|refine zcb rfl ?_|refine zae 0 rfl rfl rfl rfl rfl rfl rfl ?_)|refine zyl 0 rfl ?_|refine zyf rfl ?_|refine zch ?_
 exact zeg (zek (zel [] rfl (zem rfl (zeo 0 rfl rfl rfl) ⟨rfl, rfl, rfl⟩)))
theorem on_array (p : Nat) (P : Pl) (r : Int) : FnE PP w0 [] 215 [onV p P r] [] (strV P r) [] := by
 refine zep en215 fn215 rfl rfl rfl ?_
 refine zyr ?_
 repeat' (refine zap rfl ?_;first|refine zaq (cs := [_, _, _, _, _]) rfl (fun tb => ?_)|refine zar (fun t2 => ?_))
 all_goals refine zyn ?_
 refine zeb [0] rfl ?_
 repeat' first|refine zyq ?_|(refine zap rfl ?_;first|refine zcb rfl ?_|refine zae 0 rfl rfl rfl rfl rfl rfl rfl ?_)|refine zyl 0 rfl ?_|refine zyf rfl ?_|refine zch ?_
 exact zeg (zek (zel [] rfl (zem rfl (zeo 0 rfl rfl rfl) ⟨rfl, rfl, rfl⟩)))
theorem on_graph (p : Nat) (P : Pl) (r : Int) : FnE PP w0 [] 249 [onV p P r] [] (strV P r) [] := by
 refine zep en249 fn249 rfl rfl rfl ?_
 refine zyr ?_
 repeat' (refine zap rfl ?_;first|refine zaq (cs := [_, _, _, _, _]) rfl (fun tb => ?_)|refine zar (fun t2 => ?_))
 all_goals refine zyn ?_
 refine zeb [0] rfl ?_
 repeat' first|refine zyq ?_|(refine zap rfl ?_;first|refine zcb rfl ?_|refine zae 0 rfl rfl rfl rfl rfl rfl rfl ?_)|refine zyl 0 rfl ?_|refine zyf rfl ?_|refine zch ?_
 exact zeg (zek (zel [] rfl (zem rfl (zeo 0 rfl rfl rfl) ⟨rfl, rfl, rfl⟩)))
theorem on_forest (p : Nat) (P : Pl) (r : Int) : FnE PP w0 [] 261 [onV p P r] [] (strV P r) [] := by
 refine zep en261 fn261 rfl rfl rfl ?_
 refine zyr ?_
 repeat' (refine zap rfl ?_;first|refine zaq (cs := [_, _, _, _, _]) rfl (fun tb => ?_)|refine zar (fun t2 => ?_))
 all_goals refine zyn ?_
 refine zeb [0] rfl ?_
 repeat' first|refine zyq ?_|(refine zap rfl ?_;first|refine zcb rfl ?_|refine zae 0 rfl rfl rfl rfl rfl rfl rfl ?_)|refine zyl 0 rfl ?_|refine zyf rfl ?_|refine zch ?_
 exact zeg (zek (zel [] rfl (zem rfl (zeo 0 rfl rfl rfl) ⟨rfl, rfl, rfl⟩)))
theorem clo_cGet (sh : Shared) (p : Nat) (P : Pl) (r : Int) (z : Value) (s s' : Sp) (v : Int) (hop : FnE PP w0 [] 43 [spP p, .int .i64 r] [SpaceA p s] (.int .i64 v) [SpaceA p s']) :
   FnE PP w0 sh 194 [onV p P r, z] [SpaceA p s] (encI2 ((v, 0))) [SpaceA p s'] := by
 refine zep en194 fn194 rfl rfl rfl ?_
 refine zyr ?_
 repeat' first|(refine zap rfl ?_;refine zaq (cs := [_, _, _, _, _]) rfl (fun tb => ?_))|refine zp ?_|refine zyn ?_
 refine zeb [1] rfl ?_
 repeat' first|refine zyq ?_|(refine zap rfl ?_;first|refine zah [0] hop rfl rfl rfl zdj rfl ?_|refine zah [] (plain_spec w0 _) rfl rfl rfl zdj rfl ?_)|refine zp ?_|refine zyl 0 rfl ?_|refine zyf rfl ?_|refine zch ?_
 exact zei rfl ⟨rfl, rfl⟩
theorem clo_cAdd (sh : Shared) (p : Nat) (P : Pl) (r : Int) (x0 : Int) (l : List Int) (a : Option Addr) (c : Nat) (hl : RdSl w0 sh encI 1 (.slice a l.length c) l) (hx0 : l[0]? = some x0) (s s' : Sp) (q : Int × Int) (hop : FnE PP w0 [] 44 [spP p, .int .i64 r, .int .i64 x0] [SpaceA p s] (encI2 q) [SpaceA p s']) :
   FnE PP w0 sh 196 [onV p P r, .slice a l.length c] [SpaceA p s] (encI2 (q)) [SpaceA p s'] := by
 obtain ⟨b0, off0, c0, T0, fr0, rfl, e20, _, e40⟩ := hl.cells hx0
 have hlen : 0 < l.length := (List.getElem?_eq_some_iff.1 hx0).1
 refine zep en196 fn196 rfl rfl rfl ?_
 refine zyr ?_
 repeat' first|(refine zap rfl ?_;refine zaq (cs := [_, _, _, _, _]) rfl (fun tb => ?_))|refine zp ?_|refine zyn ?_
 refine zeb [1] rfl ?_
 repeat' first|refine zyq ?_|(refine zap rfl ?_;first|refine zad rfl (zyt e20) (e40 0 _ rfl _ (by omega)) ?_|refine zah [0] hop rfl rfl rfl zdj rfl ?_|refine zas rfl rfl (by omega) ?_)|refine zp ?_|refine zyl 0 rfl ?_|refine zyf rfl ?_|refine zch ?_
 exact zei rfl ⟨rfl, rfl⟩
theorem clo_cSet (sh : Shared) (p : Nat) (P : Pl) (r : Int) (x0 : Int) (l : List Int) (a : Option Addr) (c : Nat) (hl : RdSl w0 sh encI 1 (.slice a l.length c) l) (hx0 : l[0]? = some x0) (s s' : Sp) (v : Int) (hop : FnE PP w0 [] 45 [spP p, .int .i64 r, .int .i64 x0] [SpaceA p s] (.int .i64 v) [SpaceA p s']) :
   FnE PP w0 sh 197 [onV p P r, .slice a l.length c] [SpaceA p s] (encI2 ((v, 0))) [SpaceA p s'] := by
 obtain ⟨b0, off0, c0, T0, fr0, rfl, e20, _, e40⟩ := hl.cells hx0
 have hlen : 0 < l.length := (List.getElem?_eq_some_iff.1 hx0).1
 refine zep en197 fn197 rfl rfl rfl ?_
 refine zyr ?_
 repeat' first|(refine zap rfl ?_;refine zaq (cs := [_, _, _, _, _]) rfl (fun tb => ?_))|refine zp ?_|refine zyn ?_
 refine zeb [1] rfl ?_
 repeat' first|refine zyq ?_|(refine zap rfl ?_;first|refine zad rfl (zyt e20) (e40 0 _ rfl _ (by omega)) ?_|refine zah [0] hop rfl rfl rfl zdj rfl ?_|refine zah [] (plain_spec w0 _) rfl rfl rfl zdj rfl ?_|refine zas rfl rfl (by omega) ?_)|refine zp ?_|refine zyl 0 rfl ?_|refine zyf rfl ?_|refine zch ?_
 exact zei rfl ⟨rfl, rfl⟩
theorem clo_sPush (sh : Shared) (p : Nat) (P : Pl) (r : Int) (x0 : Int) (l : List Int) (a : Option Addr) (c : Nat) (hl : RdSl w0 sh encI 1 (.slice a l.length c) l) (hx0 : l[0]? = some x0) (s s' : Sp) (e : Int) (hop : FnE PP w0 [] 46 [spP p, poolV P, .int .i64 r, .int .i64 x0] [SpaceA p s] (.int .i64 e) [SpaceA p s']) :
   FnE PP w0 sh 198 [onV p P r, .slice a l.length c] [SpaceA p s] (encI2 ((0, e))) [SpaceA p s'] := by
 obtain ⟨b0, off0, c0, T0, fr0, rfl, e20, _, e40⟩ := hl.cells hx0
 have hlen : 0 < l.length := (List.getElem?_eq_some_iff.1 hx0).1
 refine zep en198 fn198 rfl rfl rfl ?_
 refine zyr ?_
 repeat' first|(refine zap rfl ?_;refine zaq (cs := [_, _, _, _, _]) rfl (fun tb => ?_))|refine zp ?_|refine zyn ?_
 refine zeb [1] rfl ?_
 repeat' first|refine zyq ?_|(refine zap rfl ?_;first|refine zad rfl (zyt e20) (e40 0 _ rfl _ (by omega)) ?_|refine zah [0] hop rfl rfl rfl zdj rfl ?_|refine zah [] (nothing_spec w0 _) rfl rfl rfl zdj rfl ?_|refine zas rfl rfl (by omega) ?_)|refine zp ?_|refine zyl 0 rfl ?_|refine zyf rfl ?_|refine zch ?_
 exact zei rfl ⟨rfl, rfl⟩
theorem clo_sPop (sh : Shared) (p : Nat) (P : Pl) (r : Int) (z : Value) (s s' : Sp) (q : Int × Int) (hop : FnE PP w0 [] 47 [spP p, poolV P, .int .i64 r] [SpaceA p s] (encI2 q) [SpaceA p s']) :
   FnE PP w0 sh 200 [onV p P r, z] [SpaceA p s] (encI2 (q)) [SpaceA p s'] := by
 refine zep en200 fn200 rfl rfl rfl ?_
 refine zyr ?_
 repeat' first|(refine zap rfl ?_;refine zaq (cs := [_, _, _, _, _]) rfl (fun tb => ?_))|refine zp ?_|refine zyn ?_
 refine zeb [1] rfl ?_
 repeat' first|refine zyq ?_|(refine zap rfl ?_;refine zah [0] hop rfl rfl rfl zdj rfl ?_)|refine zp ?_|refine zyl 0 rfl ?_|refine zyf rfl ?_|refine zch ?_
 exact zei rfl ⟨rfl, rfl⟩
theorem clo_sTop (sh : Shared) (p : Nat) (P : Pl) (r : Int) (z : Value) (s s' : Sp) (q : Int × Int) (hop : FnE PP w0 [] 48 [spP p, .int .i64 r] [SpaceA p s] (encI2 q) [SpaceA p s']) :
   FnE PP w0 sh 201 [onV p P r, z] [SpaceA p s] (encI2 (q)) [SpaceA p s'] := by
 refine zep en201 fn201 rfl rfl rfl ?_
 refine zyr ?_
 repeat' first|(refine zap rfl ?_;refine zaq (cs := [_, _, _, _, _]) rfl (fun tb => ?_))|refine zp ?_|refine zyn ?_
 refine zeb [1] rfl ?_
 repeat' first|refine zyq ?_|(refine zap rfl ?_;refine zah [0] hop rfl rfl rfl zdj rfl ?_)|refine zp ?_|refine zyl 0 rfl ?_|refine zyf rfl ?_|refine zch ?_
 exact zei rfl ⟨rfl, rfl⟩
theorem clo_sLen (sh : Shared) (p : Nat) (P : Pl) (r : Int) (z : Value) (s s' : Sp) (v : Int) (hop : FnE PP w0 [] 49 [spP p, .int .i64 r] [SpaceA p s] (.int .i64 v) [SpaceA p s']) :
   FnE PP w0 sh 202 [onV p P r, z] [SpaceA p s] (encI2 ((v, 0))) [SpaceA p s'] := by
 refine zep en202 fn202 rfl rfl rfl ?_
 refine zyr ?_
 repeat' first|(refine zap rfl ?_;refine zaq (cs := [_, _, _, _, _]) rfl (fun tb => ?_))|refine zp ?_|refine zyn ?_
 refine zeb [1] rfl ?_
 repeat' first|refine zyq ?_|(refine zap rfl ?_;first|refine zah [0] hop rfl rfl rfl zdj rfl ?_|refine zah [] (plain_spec w0 _) rfl rfl rfl zdj rfl ?_)|refine zp ?_|refine zyl 0 rfl ?_|refine zyf rfl ?_|refine zch ?_
 exact zei rfl ⟨rfl, rfl⟩
theorem clo_qPut (sh : Shared) (p : Nat) (P : Pl) (r : Int) (x0 : Int) (l : List Int) (a : Option Addr) (c : Nat) (hl : RdSl w0 sh encI 1 (.slice a l.length c) l) (hx0 : l[0]? = some x0) (s s' : Sp) (e : Int) (hop : FnE PP w0 [] 50 [spP p, poolV P, .int .i64 r, .int .i64 x0] [SpaceA p s] (.int .i64 e) [SpaceA p s']) :
   FnE PP w0 sh 203 [onV p P r, .slice a l.length c] [SpaceA p s] (encI2 ((0, e))) [SpaceA p s'] := by
 obtain ⟨b0, off0, c0, T0, fr0, rfl, e20, _, e40⟩ := hl.cells hx0
 have hlen : 0 < l.length := (List.getElem?_eq_some_iff.1 hx0).1
 refine zep en203 fn203 rfl rfl rfl ?_
 refine zyr ?_
 repeat' first|(refine zap rfl ?_;refine zaq (cs := [_, _, _, _, _]) rfl (fun tb => ?_))|refine zp ?_|refine zyn ?_
 refine zeb [1] rfl ?_
 repeat' first|refine zyq ?_|(refine zap rfl ?_;first|refine zad rfl (zyt e20) (e40 0 _ rfl _ (by omega)) ?_|refine zah [0] hop rfl rfl rfl zdj rfl ?_|refine zah [] (nothing_spec w0 _) rfl rfl rfl zdj rfl ?_|refine zas rfl rfl (by omega) ?_)|refine zp ?_|refine zyl 0 rfl ?_|refine zyf rfl ?_|refine zch ?_
 exact zei rfl ⟨rfl, rfl⟩
theorem clo_qTake (sh : Shared) (p : Nat) (P : Pl) (r : Int) (z : Value) (s s' : Sp) (q : Int × Int) (hop : FnE PP w0 [] 51 [spP p, poolV P, .int .i64 r] [SpaceA p s] (encI2 q) [SpaceA p s']) :
   FnE PP w0 sh 204 [onV p P r, z] [SpaceA p s] (encI2 (q)) [SpaceA p s'] := by
 refine zep en204 fn204 rfl rfl rfl ?_
 refine zyr ?_
 repeat' first|(refine zap rfl ?_;refine zaq (cs := [_, _, _, _, _]) rfl (fun tb => ?_))|refine zp ?_|refine zyn ?_
 refine zeb [1] rfl ?_
 repeat' first|refine zyq ?_|(refine zap rfl ?_;refine zah [0] hop rfl rfl rfl zdj rfl ?_)|refine zp ?_|refine zyl 0 rfl ?_|refine zyf rfl ?_|refine zch ?_
 exact zei rfl ⟨rfl, rfl⟩
theorem clo_qFirst (sh : Shared) (p : Nat) (P : Pl) (r : Int) (z : Value) (s s' : Sp) (q : Int × Int) (hop : FnE PP w0 [] 52 [spP p, .int .i64 r] [SpaceA p s] (encI2 q) [SpaceA p s']) :
   FnE PP w0 sh 205 [onV p P r, z] [SpaceA p s] (encI2 (q)) [SpaceA p s'] := by
 refine zep en205 fn205 rfl rfl rfl ?_
 refine zyr ?_
 repeat' first|(refine zap rfl ?_;refine zaq (cs := [_, _, _, _, _]) rfl (fun tb => ?_))|refine zp ?_|refine zyn ?_
 refine zeb [1] rfl ?_
 repeat' first|refine zyq ?_|(refine zap rfl ?_;refine zah [0] hop rfl rfl rfl zdj rfl ?_)|refine zp ?_|refine zyl 0 rfl ?_|refine zyf rfl ?_|refine zch ?_
 exact zei rfl ⟨rfl, rfl⟩
theorem clo_qLen (sh : Shared) (p : Nat) (P : Pl) (r : Int) (z : Value) (s s' : Sp) (v : Int) (hop : FnE PP w0 [] 53 [spP p, .int .i64 r] [SpaceA p s] (.int .i64 v) [SpaceA p s']) :
   FnE PP w0 sh 206 [onV p P r, z] [SpaceA p s] (encI2 ((v, 0))) [SpaceA p s'] := by
 refine zep en206 fn206 rfl rfl rfl ?_
 refine zyr ?_
 repeat' first|(refine zap rfl ?_;refine zaq (cs := [_, _, _, _, _]) rfl (fun tb => ?_))|refine zp ?_|refine zyn ?_
 refine zeb [1] rfl ?_
 repeat' first|refine zyq ?_|(refine zap rfl ?_;first|refine zah [0] hop rfl rfl rfl zdj rfl ?_|refine zah [] (plain_spec w0 _) rfl rfl rfl zdj rfl ?_)|refine zp ?_|refine zyl 0 rfl ?_|refine zyf rfl ?_|refine zch ?_
 exact zei rfl ⟨rfl, rfl⟩
theorem clo_dPushL (sh : Shared) (p : Nat) (P : Pl) (r : Int) (x0 : Int) (l : List Int) (a : Option Addr) (c : Nat) (hl : RdSl w0 sh encI 1 (.slice a l.length c) l) (hx0 : l[0]? = some x0) (s s' : Sp) (e : Int) (hop : FnE PP w0 [] 54 [spP p, poolV P, .int .i64 r, .bool false, .int .i64 x0] [SpaceA p s] (.int .i64 e) [SpaceA p s']) :
   FnE PP w0 sh 207 [onV p P r, .slice a l.length c] [SpaceA p s] (encI2 ((0, e))) [SpaceA p s'] := by
 obtain ⟨b0, off0, c0, T0, fr0, rfl, e20, _, e40⟩ := hl.cells hx0
 have hlen : 0 < l.length := (List.getElem?_eq_some_iff.1 hx0).1
 refine zep en207 fn207 rfl rfl rfl ?_
 refine zyr ?_
 repeat' first|(refine zap rfl ?_;refine zaq (cs := [_, _, _, _, _]) rfl (fun tb => ?_))|refine zp ?_|refine zyn ?_
 refine zeb [1] rfl ?_
 repeat' first|refine zyq ?_|(refine zap rfl ?_;first|refine zad rfl (zyt e20) (e40 0 _ rfl _ (by omega)) ?_|refine zah [0] hop rfl rfl rfl zdj rfl ?_|refine zah [] (nothing_spec w0 _) rfl rfl rfl zdj rfl ?_|refine zas rfl rfl (by omega) ?_)|refine zp ?_|refine zyl 0 rfl ?_|refine zyf rfl ?_|refine zch ?_
 exact zei rfl ⟨rfl, rfl⟩
theorem clo_dPushR (sh : Shared) (p : Nat) (P : Pl) (r : Int) (x0 : Int) (l : List Int) (a : Option Addr) (c : Nat) (hl : RdSl w0 sh encI 1 (.slice a l.length c) l) (hx0 : l[0]? = some x0) (s s' : Sp) (e : Int) (hop : FnE PP w0 [] 54 [spP p, poolV P, .int .i64 r, .bool true, .int .i64 x0] [SpaceA p s] (.int .i64 e) [SpaceA p s']) :
   FnE PP w0 sh 208 [onV p P r, .slice a l.length c] [SpaceA p s] (encI2 ((0, e))) [SpaceA p s'] := by
 obtain ⟨b0, off0, c0, T0, fr0, rfl, e20, _, e40⟩ := hl.cells hx0
 have hlen : 0 < l.length := (List.getElem?_eq_some_iff.1 hx0).1
 refine zep en208 fn208 rfl rfl rfl ?_
 refine zyr ?_
 repeat' first|(refine zap rfl ?_;refine zaq (cs := [_, _, _, _, _]) rfl (fun tb => ?_))|refine zp ?_|refine zyn ?_
 refine zeb [1] rfl ?_
 repeat' first|refine zyq ?_|(refine zap rfl ?_;first|refine zad rfl (zyt e20) (e40 0 _ rfl _ (by omega)) ?_|refine zah [0] hop rfl rfl rfl zdj rfl ?_|refine zah [] (nothing_spec w0 _) rfl rfl rfl zdj rfl ?_|refine zas rfl rfl (by omega) ?_)|refine zp ?_|refine zyl 0 rfl ?_|refine zyf rfl ?_|refine zch ?_
 exact zei rfl ⟨rfl, rfl⟩
theorem clo_dPopL (sh : Shared) (p : Nat) (P : Pl) (r : Int) (z : Value) (s s' : Sp) (q : Int × Int) (hop : FnE PP w0 [] 55 [spP p, poolV P, .int .i64 r, .bool false] [SpaceA p s] (encI2 q) [SpaceA p s']) :
   FnE PP w0 sh 209 [onV p P r, z] [SpaceA p s] (encI2 (q)) [SpaceA p s'] := by
 refine zep en209 fn209 rfl rfl rfl ?_
 refine zyr ?_
 repeat' first|(refine zap rfl ?_;refine zaq (cs := [_, _, _, _, _]) rfl (fun tb => ?_))|refine zp ?_|refine zyn ?_
 refine zeb [1] rfl ?_
 repeat' first|refine zyq ?_|(refine zap rfl ?_;refine zah [0] hop rfl rfl rfl zdj rfl ?_)|refine zp ?_|refine zyl 0 rfl ?_|refine zyf rfl ?_|refine zch ?_
 exact zei rfl ⟨rfl, rfl⟩
theorem clo_dPopR (sh : Shared) (p : Nat) (P : Pl) (r : Int) (z : Value) (s s' : Sp) (q : Int × Int) (hop : FnE PP w0 [] 55 [spP p, poolV P, .int .i64 r, .bool true] [SpaceA p s] (encI2 q) [SpaceA p s']) :
   FnE PP w0 sh 210 [onV p P r, z] [SpaceA p s] (encI2 (q)) [SpaceA p s'] := by
 refine zep en210 fn210 rfl rfl rfl ?_
 refine zyr ?_
 repeat' first|(refine zap rfl ?_;refine zaq (cs := [_, _, _, _, _]) rfl (fun tb => ?_))|refine zp ?_|refine zyn ?_
 refine zeb [1] rfl ?_
 repeat' first|refine zyq ?_|(refine zap rfl ?_;refine zah [0] hop rfl rfl rfl zdj rfl ?_)|refine zp ?_|refine zyl 0 rfl ?_|refine zyf rfl ?_|refine zch ?_
 exact zei rfl ⟨rfl, rfl⟩
theorem clo_dLeft (sh : Shared) (p : Nat) (P : Pl) (r : Int) (z : Value) (s s' : Sp) (q : Int × Int) (hop : FnE PP w0 [] 56 [spP p, .int .i64 r, .bool false] [SpaceA p s] (encI2 q) [SpaceA p s']) :
   FnE PP w0 sh 211 [onV p P r, z] [SpaceA p s] (encI2 (q)) [SpaceA p s'] := by
 refine zep en211 fn211 rfl rfl rfl ?_
 refine zyr ?_
 repeat' first|(refine zap rfl ?_;refine zaq (cs := [_, _, _, _, _]) rfl (fun tb => ?_))|refine zp ?_|refine zyn ?_
 refine zeb [1] rfl ?_
 repeat' first|refine zyq ?_|(refine zap rfl ?_;refine zah [0] hop rfl rfl rfl zdj rfl ?_)|refine zp ?_|refine zyl 0 rfl ?_|refine zyf rfl ?_|refine zch ?_
 exact zei rfl ⟨rfl, rfl⟩
theorem clo_dRight (sh : Shared) (p : Nat) (P : Pl) (r : Int) (z : Value) (s s' : Sp) (q : Int × Int) (hop : FnE PP w0 [] 56 [spP p, .int .i64 r, .bool true] [SpaceA p s] (encI2 q) [SpaceA p s']) :
   FnE PP w0 sh 212 [onV p P r, z] [SpaceA p s] (encI2 (q)) [SpaceA p s'] := by
 refine zep en212 fn212 rfl rfl rfl ?_
 refine zyr ?_
 repeat' first|(refine zap rfl ?_;refine zaq (cs := [_, _, _, _, _]) rfl (fun tb => ?_))|refine zp ?_|refine zyn ?_
 refine zeb [1] rfl ?_
 repeat' first|refine zyq ?_|(refine zap rfl ?_;refine zah [0] hop rfl rfl rfl zdj rfl ?_)|refine zp ?_|refine zyl 0 rfl ?_|refine zyf rfl ?_|refine zch ?_
 exact zei rfl ⟨rfl, rfl⟩
theorem clo_dLen (sh : Shared) (p : Nat) (P : Pl) (r : Int) (z : Value) (s s' : Sp) (v : Int) (hop : FnE PP w0 [] 57 [spP p, .int .i64 r] [SpaceA p s] (.int .i64 v) [SpaceA p s']) :
   FnE PP w0 sh 213 [onV p P r, z] [SpaceA p s] (encI2 ((v, 0))) [SpaceA p s'] := by
 refine zep en213 fn213 rfl rfl rfl ?_
 refine zyr ?_
 repeat' first|(refine zap rfl ?_;refine zaq (cs := [_, _, _, _, _]) rfl (fun tb => ?_))|refine zp ?_|refine zyn ?_
 refine zeb [1] rfl ?_
 repeat' first|refine zyq ?_|(refine zap rfl ?_;first|refine zah [0] hop rfl rfl rfl zdj rfl ?_|refine zah [] (plain_spec w0 _) rfl rfl rfl zdj rfl ?_)|refine zp ?_|refine zyl 0 rfl ?_|refine zyf rfl ?_|refine zch ?_
 exact zei rfl ⟨rfl, rfl⟩
theorem clo_aPush (sh : Shared) (p : Nat) (P : Pl) (r : Int) (x0 : Int) (l : List Int) (a : Option Addr) (c : Nat) (hl : RdSl w0 sh encI 1 (.slice a l.length c) l) (hx0 : l[0]? = some x0) (s s' : Sp) (q : Int × Int) (hop : FnE PP w0 [] 79 [strV P r, spP p, .int .i64 x0] [SpaceA p s] (encI2 q) [SpaceA p s']) :
   FnE PP w0 sh 214 [onV p P r, .slice a l.length c] [SpaceA p s] (encI2 (q)) [SpaceA p s'] := by
 obtain ⟨b0, off0, c0, T0, fr0, rfl, e20, _, e40⟩ := hl.cells hx0
 have hlen : 0 < l.length := (List.getElem?_eq_some_iff.1 hx0).1
 refine zep en214 fn214 rfl rfl rfl ?_
 refine zyr ?_
 repeat' first|(refine zap rfl ?_;refine zaq (cs := [_, _, _, _, _]) rfl (fun tb => ?_))|refine zp ?_|refine zyn ?_
 refine zeb [1] rfl ?_
 repeat' first|refine zyq ?_|(refine zap rfl ?_;first|refine zad rfl (zyt e20) (e40 0 _ rfl _ (by omega)) ?_|refine zah [0] hop rfl rfl rfl zdj rfl ?_|refine zah [] (on_array w0 p P r) rfl rfl rfl zdj rfl ?_|refine zas rfl rfl (by omega) ?_)|refine zp ?_|refine zyl 0 rfl ?_|refine zyf rfl ?_|refine zch ?_
 exact zei rfl ⟨rfl, rfl⟩
theorem clo_aPop (sh : Shared) (p : Nat) (P : Pl) (r : Int) (z : Value) (s s' : Sp) (q : Int × Int) (hop : FnE PP w0 [] 80 [strV P r, spP p] [SpaceA p s] (encI2 q) [SpaceA p s']) :
   FnE PP w0 sh 216 [onV p P r, z] [SpaceA p s] (encI2 (q)) [SpaceA p s'] := by
 refine zep en216 fn216 rfl rfl rfl ?_
 refine zyr ?_
 repeat' first|(refine zap rfl ?_;refine zaq (cs := [_, _, _, _, _]) rfl (fun tb => ?_))|refine zp ?_|refine zyn ?_
 refine zeb [1] rfl ?_
 repeat' first|refine zyq ?_|(refine zap rfl ?_;first|refine zah [0] hop rfl rfl rfl zdj rfl ?_|refine zah [] (on_array w0 p P r) rfl rfl rfl zdj rfl ?_)|refine zp ?_|refine zyl 0 rfl ?_|refine zyf rfl ?_|refine zch ?_
 exact zei rfl ⟨rfl, rfl⟩
theorem clo_aGet (sh : Shared) (p : Nat) (P : Pl) (r : Int) (x0 : Int) (l : List Int) (a : Option Addr) (c : Nat) (hl : RdSl w0 sh encI 1 (.slice a l.length c) l) (hx0 : l[0]? = some x0) (s s' : Sp) (q : Int × Int) (hop : FnE PP w0 [] 81 [strV P r, spP p, .int .i64 x0] [SpaceA p s] (encI2 q) [SpaceA p s']) :
   FnE PP w0 sh 217 [onV p P r, .slice a l.length c] [SpaceA p s] (encI2 (q)) [SpaceA p s'] := by
 obtain ⟨b0, off0, c0, T0, fr0, rfl, e20, _, e40⟩ := hl.cells hx0
 have hlen : 0 < l.length := (List.getElem?_eq_some_iff.1 hx0).1
 refine zep en217 fn217 rfl rfl rfl ?_
 refine zyr ?_
 repeat' first|(refine zap rfl ?_;refine zaq (cs := [_, _, _, _, _]) rfl (fun tb => ?_))|refine zp ?_|refine zyn ?_
 refine zeb [1] rfl ?_
 repeat' first|refine zyq ?_|(refine zap rfl ?_;first|refine zad rfl (zyt e20) (e40 0 _ rfl _ (by omega)) ?_|refine zah [0] hop rfl rfl rfl zdj rfl ?_|refine zah [] (on_array w0 p P r) rfl rfl rfl zdj rfl ?_|refine zas rfl rfl (by omega) ?_)|refine zp ?_|refine zyl 0 rfl ?_|refine zyf rfl ?_|refine zch ?_
 exact zei rfl ⟨rfl, rfl⟩
theorem clo_aSet (sh : Shared) (p : Nat) (P : Pl) (r : Int) (x0 : Int) (x1 : Int) (l : List Int) (a : Option Addr) (c : Nat) (hl : RdSl w0 sh encI 1 (.slice a l.length c) l) (hx0 : l[0]? = some x0) (hx1 : l[1]? = some x1) (s s' : Sp) (q : Int × Int) (hop : FnE PP w0 [] 82 [strV P r, spP p, .int .i64 x0, .int .i64 x1] [SpaceA p s] (encI2 q) [SpaceA p s']) :
   FnE PP w0 sh 218 [onV p P r, .slice a l.length c] [SpaceA p s] (encI2 (q)) [SpaceA p s'] := by
 obtain ⟨b0, off0, c0, T0, fr0, rfl, e20, _, e40⟩ := hl.cells hx0
 obtain ⟨b1, off1, c1, T1, fr1, hb1, e21, _, e41⟩ := hl.cells hx1
 cases hb1
 have hlen : 1 < l.length := (List.getElem?_eq_some_iff.1 hx1).1
 refine zep en218 fn218 rfl rfl rfl ?_
 refine zyr ?_
 repeat' first|(refine zap rfl ?_;refine zaq (cs := [_, _, _, _, _]) rfl (fun tb => ?_))|refine zp ?_|refine zyn ?_
 refine zeb [1] rfl ?_
 repeat' first|refine zyq ?_|(refine zap rfl ?_;first|refine zad rfl (zyt e20) (e40 0 _ rfl _ (by omega)) ?_|refine zad rfl (zyt e21) (e41 0 _ rfl _ (by omega)) ?_|refine zah [0] hop rfl rfl rfl zdj rfl ?_|refine zah [] (on_array w0 p P r) rfl rfl rfl zdj rfl ?_|refine zas rfl rfl (by omega) ?_)|refine zp ?_|refine zyl 0 rfl ?_|refine zyf rfl ?_|refine zch ?_
 exact zei rfl ⟨rfl, rfl⟩
theorem clo_aSwap (sh : Shared) (p : Nat) (P : Pl) (r : Int) (x0 : Int) (x1 : Int) (l : List Int) (a : Option Addr) (c : Nat) (hl : RdSl w0 sh encI 1 (.slice a l.length c) l) (hx0 : l[0]? = some x0) (hx1 : l[1]? = some x1) (s s' : Sp) (e : Int) (hop : FnE PP w0 [] 83 [strV P r, spP p, .int .i64 x0, .int .i64 x1] [SpaceA p s] (.int .i64 e) [SpaceA p s']) :
   FnE PP w0 sh 219 [onV p P r, .slice a l.length c] [SpaceA p s] (encI2 ((0, e))) [SpaceA p s'] := by
 obtain ⟨b0, off0, c0, T0, fr0, rfl, e20, _, e40⟩ := hl.cells hx0
 obtain ⟨b1, off1, c1, T1, fr1, hb1, e21, _, e41⟩ := hl.cells hx1
 cases hb1
 have hlen : 1 < l.length := (List.getElem?_eq_some_iff.1 hx1).1
 refine zep en219 fn219 rfl rfl rfl ?_
 refine zyr ?_
 repeat' first|(refine zap rfl ?_;refine zaq (cs := [_, _, _, _, _]) rfl (fun tb => ?_))|refine zp ?_|refine zyn ?_
 refine zeb [1] rfl ?_
 repeat' first|refine zyq ?_|(refine zap rfl ?_;first|refine zad rfl (zyt e20) (e40 0 _ rfl _ (by omega)) ?_|refine zad rfl (zyt e21) (e41 0 _ rfl _ (by omega)) ?_|refine zah [0] hop rfl rfl rfl zdj rfl ?_|refine zah [] (on_array w0 p P r) rfl rfl rfl zdj rfl ?_|refine zah [] (nothing_spec w0 _) rfl rfl rfl zdj rfl ?_|refine zas rfl rfl (by omega) ?_)|refine zp ?_|refine zyl 0 rfl ?_|refine zyf rfl ?_|refine zch ?_
 exact zei rfl ⟨rfl, rfl⟩
theorem clo_aLen (sh : Shared) (p : Nat) (P : Pl) (r : Int) (z : Value) (s s' : Sp) (v : Int) (hop : FnE PP w0 [] 84 [strV P r, spP p] [SpaceA p s] (.int .i64 v) [SpaceA p s']) :
   FnE PP w0 sh 220 [onV p P r, z] [SpaceA p s] (encI2 ((v, 0))) [SpaceA p s'] := by
 refine zep en220 fn220 rfl rfl rfl ?_
 refine zyr ?_
 repeat' first|(refine zap rfl ?_;refine zaq (cs := [_, _, _, _, _]) rfl (fun tb => ?_))|refine zp ?_|refine zyn ?_
 refine zeb [1] rfl ?_
 repeat' first|refine zyq ?_|(refine zap rfl ?_;first|refine zah [0] hop rfl rfl rfl zdj rfl ?_|refine zah [] (on_array w0 p P r) rfl rfl rfl zdj rfl ?_|refine zah [] (plain_spec w0 _) rfl rfl rfl zdj rfl ?_)|refine zp ?_|refine zyl 0 rfl ?_|refine zyf rfl ?_|refine zch ?_
 exact zei rfl ⟨rfl, rfl⟩
theorem clo_mPut (sh : Shared) (p : Nat) (P : Pl) (r : Int) (x0 : Int) (x1 : Int) (l : List Int) (a : Option Addr) (c : Nat) (hl : RdSl w0 sh encI 1 (.slice a l.length c) l) (hx0 : l[0]? = some x0) (hx1 : l[1]? = some x1) (s s' : Sp) (v : Int) (b : Bool) (e : Int) (hop : FnE PP w0 [] 58 [trV ⟨P, r, hsI, fun _ => true⟩, spP p, .int .i64 x0, .int .i64 x1] [SpaceA p s] (.tuple #[.int .i64 v, .bool b, .int .i64 e]) [SpaceA p s']) :
   FnE PP w0 sh 221 [onV p P r, .slice a l.length c] [SpaceA p s] (encI2 ((v, e))) [SpaceA p s'] := by
 obtain ⟨b0, off0, c0, T0, fr0, rfl, e20, _, e40⟩ := hl.cells hx0
 obtain ⟨b1, off1, c1, T1, fr1, hb1, e21, _, e41⟩ := hl.cells hx1
 cases hb1
 have hlen : 1 < l.length := (List.getElem?_eq_some_iff.1 hx1).1
 refine zep en221 fn221 rfl rfl rfl ?_
 refine zyr ?_
 repeat' first|(refine zap rfl ?_;refine zaq (cs := [_, _, _, _, _]) rfl (fun tb => ?_))|refine zp ?_|refine zyn ?_
 refine zeb [1] rfl ?_
 repeat' first|refine zck ?_|refine zyq ?_|(refine zap rfl ?_;first|refine zad rfl (zyt e20) (e40 0 _ rfl _ (by omega)) ?_|refine zad rfl (zyt e21) (e41 0 _ rfl _ (by omega)) ?_|refine zah [0] hop rfl rfl rfl zdj rfl ?_|refine zah [] (onTrie_spec w0 p P r) rfl rfl rfl zdj rfl ?_|refine zas rfl rfl (by omega) ?_)|refine zp ?_|refine zyl 0 rfl ?_|refine zyf rfl ?_|refine zch ?_
 exact zei rfl ⟨rfl, rfl⟩
theorem clo_mGet (sh : Shared) (p : Nat) (P : Pl) (r : Int) (x0 : Int) (l : List Int) (a : Option Addr) (c : Nat) (hl : RdSl w0 sh encI 1 (.slice a l.length c) l) (hx0 : l[0]? = some x0) (s s' : Sp) (v : Int) (b : Bool) (hop : FnE PP w0 [] 60 [trV ⟨P, r, hsI, fun _ => true⟩, spP p, .int .i64 x0] [SpaceA p s] (.tuple #[.int .i64 v, .bool b]) [SpaceA p s']) :
   FnE PP w0 sh 223 [onV p P r, .slice a l.length c] [SpaceA p s] (encI2 (if b = true then (v, 0) else (0, 10))) [SpaceA p s'] := by
 obtain ⟨b0, off0, c0, T0, fr0, rfl, e20, _, e40⟩ := hl.cells hx0
 have hlen : 0 < l.length := (List.getElem?_eq_some_iff.1 hx0).1
 refine zep en223 fn223 rfl rfl rfl ?_
 refine zyr ?_
 repeat' first|(refine zap rfl ?_;refine zaq (cs := [_, _, _, _, _]) rfl (fun tb => ?_))|refine zp ?_|refine zyn ?_
 refine zeb [1] rfl ?_
 repeat' first|refine zyq ?_|(refine zap rfl ?_;first|refine zad rfl (zyt e20) (e40 0 _ rfl _ (by omega)) ?_|refine zah [0] hop rfl rfl rfl zdj rfl ?_|refine zah [] (onTrie_spec w0 p P r) rfl rfl rfl zdj rfl ?_|refine zah [] (found_spec w0 _ _) rfl rfl rfl zdj rfl ?_|refine zas rfl rfl (by omega) ?_)|refine zp ?_|refine zyl 0 rfl ?_|refine zyf rfl ?_|refine zch ?_
 cases b <;> exact zei rfl ⟨rfl, rfl⟩
theorem clo_mHas (sh : Shared) (p : Nat) (P : Pl) (r : Int) (x0 : Int) (l : List Int) (a : Option Addr) (c : Nat) (hl : RdSl w0 sh encI 1 (.slice a l.length c) l) (hx0 : l[0]? = some x0) (s s' : Sp) (v : Int) (b : Bool) (hop : FnE PP w0 [] 60 [trV ⟨P, r, hsI, fun _ => true⟩, spP p, .int .i64 x0] [SpaceA p s] (.tuple #[.int .i64 v, .bool b]) [SpaceA p s']) :
   FnE PP w0 sh 225 [onV p P r, .slice a l.length c] [SpaceA p s] (encI2 (if b = true then (1, 0) else (0, 0))) [SpaceA p s'] := by
 obtain ⟨b0, off0, c0, T0, fr0, rfl, e20, _, e40⟩ := hl.cells hx0
 have hlen : 0 < l.length := (List.getElem?_eq_some_iff.1 hx0).1
 refine zep en225 fn225 rfl rfl rfl ?_
 refine zyr ?_
 repeat' first|(refine zap rfl ?_;refine zaq (cs := [_, _, _, _, _]) rfl (fun tb => ?_))|refine zp ?_|refine zyn ?_
 refine zeb [1] rfl ?_
 repeat' first|refine zck ?_|refine zyq ?_|(refine zap rfl ?_;first|refine zad rfl (zyt e20) (e40 0 _ rfl _ (by omega)) ?_|refine zah [0] hop rfl rfl rfl zdj rfl ?_|refine zah [] (onTrie_spec w0 p P r) rfl rfl rfl zdj rfl ?_|refine zah [] (truth_spec w0 _) rfl rfl rfl zdj rfl ?_|refine zas rfl rfl (by omega) ?_)|refine zp ?_|refine zyl 0 rfl ?_|refine zyf rfl ?_|refine zch ?_
 cases b <;> exact zei rfl ⟨rfl, rfl⟩
theorem clo_mDrop (sh : Shared) (p : Nat) (P : Pl) (r : Int) (x0 : Int) (l : List Int) (a : Option Addr) (c : Nat) (hl : RdSl w0 sh encI 1 (.slice a l.length c) l) (hx0 : l[0]? = some x0) (s s' : Sp) (v : Int) (b : Bool) (e : Int) (hop : FnE PP w0 [] 63 [trV ⟨P, r, hsI, fun _ => true⟩, spP p, .int .i64 x0] [SpaceA p s] (.tuple #[.int .i64 v, .bool b, .int .i64 e]) [SpaceA p s']) :
   FnE PP w0 sh 227 [onV p P r, .slice a l.length c] [SpaceA p s] (encI2 (if e ≠ 0 then (0, e) else if b = true then (v, 0) else (0, 10))) [SpaceA p s'] := by
 obtain ⟨b0, off0, c0, T0, fr0, rfl, e20, _, e40⟩ := hl.cells hx0
 have hlen : 0 < l.length := (List.getElem?_eq_some_iff.1 hx0).1
 refine zep en227 fn227 rfl rfl rfl ?_
 refine zyr ?_
 repeat' first|(refine zap rfl ?_;refine zaq (cs := [_, _, _, _, _]) rfl (fun tb => ?_))|refine zp ?_|refine zyn ?_
 refine zeb [1] rfl ?_
 repeat' first|refine zyq ?_|(refine zap rfl ?_;first|refine zad rfl (zyt e20) (e40 0 _ rfl _ (by omega)) ?_|refine zah [0] hop rfl rfl rfl zdj rfl ?_|refine zah [] (onTrie_spec w0 p P r) rfl rfl rfl zdj rfl ?_|refine zah [] (gone_spec w0 _ _ _) rfl rfl rfl zdj rfl ?_|refine zas rfl rfl (by omega) ?_)|refine zp ?_|refine zyl 0 rfl ?_|refine zyf rfl ?_|refine zch ?_
 exact zei rfl ⟨rfl, rfl⟩
theorem clo_tPut (sh : Shared) (p : Nat) (P : Pl) (r : Int) (x0 : Int) (x1 : Int) (l : List Int) (a : Option Addr) (c : Nat) (hl : RdSl w0 sh encI 1 (.slice a l.length c) l) (hx0 : l[0]? = some x0) (hx1 : l[1]? = some x1) (s s' : Sp) (v : Int) (b : Bool) (e : Int) (hop : FnE PP w0 [] 65 [strV P r, spP p, .int .i64 x0, .int .i64 x1] [SpaceA p s] (.tuple #[.int .i64 v, .bool b, .int .i64 e]) [SpaceA p s']) :
   FnE PP w0 sh 230 [onV p P r, .slice a l.length c] [SpaceA p s] (encI2 ((v, e))) [SpaceA p s'] := by
 obtain ⟨b0, off0, c0, T0, fr0, rfl, e20, _, e40⟩ := hl.cells hx0
 obtain ⟨b1, off1, c1, T1, fr1, hb1, e21, _, e41⟩ := hl.cells hx1
 cases hb1
 have hlen : 1 < l.length := (List.getElem?_eq_some_iff.1 hx1).1
 refine zep en230 fn230 rfl rfl rfl ?_
 refine zyr ?_
 repeat' first|(refine zap rfl ?_;refine zaq (cs := [_, _, _, _, _]) rfl (fun tb => ?_))|refine zp ?_|refine zyn ?_
 refine zeb [1] rfl ?_
 repeat' first|refine zck ?_|refine zyq ?_|(refine zap rfl ?_;first|refine zad rfl (zyt e20) (e40 0 _ rfl _ (by omega)) ?_|refine zad rfl (zyt e21) (e41 0 _ rfl _ (by omega)) ?_|refine zah [0] hop rfl rfl rfl zdj rfl ?_|refine zah [] (on_tree w0 p P r) rfl rfl rfl zdj rfl ?_|refine zas rfl rfl (by omega) ?_)|refine zp ?_|refine zyl 0 rfl ?_|refine zyf rfl ?_|refine zch ?_
 exact zei rfl ⟨rfl, rfl⟩
theorem clo_tGet (sh : Shared) (p : Nat) (P : Pl) (r : Int) (x0 : Int) (l : List Int) (a : Option Addr) (c : Nat) (hl : RdSl w0 sh encI 1 (.slice a l.length c) l) (hx0 : l[0]? = some x0) (s s' : Sp) (v : Int) (b : Bool) (hop : FnE PP w0 [] 66 [strV P r, spP p, .int .i64 x0] [SpaceA p s] (.tuple #[.int .i64 v, .bool b]) [SpaceA p s']) :
   FnE PP w0 sh 232 [onV p P r, .slice a l.length c] [SpaceA p s] (encI2 (if b = true then (v, 0) else (0, 10))) [SpaceA p s'] := by
 obtain ⟨b0, off0, c0, T0, fr0, rfl, e20, _, e40⟩ := hl.cells hx0
 have hlen : 0 < l.length := (List.getElem?_eq_some_iff.1 hx0).1
 refine zep en232 fn232 rfl rfl rfl ?_
 refine zyr ?_
 repeat' first|(refine zap rfl ?_;refine zaq (cs := [_, _, _, _, _]) rfl (fun tb => ?_))|refine zp ?_|refine zyn ?_
 refine zeb [1] rfl ?_
 repeat' first|refine zyq ?_|(refine zap rfl ?_;first|refine zad rfl (zyt e20) (e40 0 _ rfl _ (by omega)) ?_|refine zah [0] hop rfl rfl rfl zdj rfl ?_|refine zah [] (on_tree w0 p P r) rfl rfl rfl zdj rfl ?_|refine zah [] (found_spec w0 _ _) rfl rfl rfl zdj rfl ?_|refine zas rfl rfl (by omega) ?_)|refine zp ?_|refine zyl 0 rfl ?_|refine zyf rfl ?_|refine zch ?_
 cases b <;> exact zei rfl ⟨rfl, rfl⟩
theorem clo_tHas (sh : Shared) (p : Nat) (P : Pl) (r : Int) (x0 : Int) (l : List Int) (a : Option Addr) (c : Nat) (hl : RdSl w0 sh encI 1 (.slice a l.length c) l) (hx0 : l[0]? = some x0) (s s' : Sp) (v : Int) (b : Bool) (hop : FnE PP w0 [] 66 [strV P r, spP p, .int .i64 x0] [SpaceA p s] (.tuple #[.int .i64 v, .bool b]) [SpaceA p s']) :
   FnE PP w0 sh 233 [onV p P r, .slice a l.length c] [SpaceA p s] (encI2 (if b = true then (1, 0) else (0, 0))) [SpaceA p s'] := by
 obtain ⟨b0, off0, c0, T0, fr0, rfl, e20, _, e40⟩ := hl.cells hx0
 have hlen : 0 < l.length := (List.getElem?_eq_some_iff.1 hx0).1
 refine zep en233 fn233 rfl rfl rfl ?_
 refine zyr ?_
 repeat' first|(refine zap rfl ?_;refine zaq (cs := [_, _, _, _, _]) rfl (fun tb => ?_))|refine zp ?_|refine zyn ?_
 refine zeb [1] rfl ?_
 repeat' first|refine zck ?_|refine zyq ?_|(refine zap rfl ?_;first|refine zad rfl (zyt e20) (e40 0 _ rfl _ (by omega)) ?_|refine zah [0] hop rfl rfl rfl zdj rfl ?_|refine zah [] (on_tree w0 p P r) rfl rfl rfl zdj rfl ?_|refine zah [] (truth_spec w0 _) rfl rfl rfl zdj rfl ?_|refine zas rfl rfl (by omega) ?_)|refine zp ?_|refine zyl 0 rfl ?_|refine zyf rfl ?_|refine zch ?_
 cases b <;> exact zei rfl ⟨rfl, rfl⟩
theorem clo_tDrop (sh : Shared) (p : Nat) (P : Pl) (r : Int) (x0 : Int) (l : List Int) (a : Option Addr) (c : Nat) (hl : RdSl w0 sh encI 1 (.slice a l.length c) l) (hx0 : l[0]? = some x0) (s s' : Sp) (v : Int) (b : Bool) (e : Int) (hop : FnE PP w0 [] 67 [strV P r, spP p, .int .i64 x0] [SpaceA p s] (.tuple #[.int .i64 v, .bool b, .int .i64 e]) [SpaceA p s']) :
   FnE PP w0 sh 234 [onV p P r, .slice a l.length c] [SpaceA p s] (encI2 (if e ≠ 0 then (0, e) else if b = true then (v, 0) else (0, 10))) [SpaceA p s'] := by
 obtain ⟨b0, off0, c0, T0, fr0, rfl, e20, _, e40⟩ := hl.cells hx0
 have hlen : 0 < l.length := (List.getElem?_eq_some_iff.1 hx0).1
 refine zep en234 fn234 rfl rfl rfl ?_
 refine zyr ?_
 repeat' first|(refine zap rfl ?_;refine zaq (cs := [_, _, _, _, _]) rfl (fun tb => ?_))|refine zp ?_|refine zyn ?_
 refine zeb [1] rfl ?_
 repeat' first|refine zyq ?_|(refine zap rfl ?_;first|refine zad rfl (zyt e20) (e40 0 _ rfl _ (by omega)) ?_|refine zah [0] hop rfl rfl rfl zdj rfl ?_|refine zah [] (on_tree w0 p P r) rfl rfl rfl zdj rfl ?_|refine zah [] (gone_spec w0 _ _ _) rfl rfl rfl zdj rfl ?_|refine zas rfl rfl (by omega) ?_)|refine zp ?_|refine zyl 0 rfl ?_|refine zyf rfl ?_|refine zch ?_
 exact zei rfl ⟨rfl, rfl⟩
theorem clo_mLen (sh : Shared) (p : Nat) (P : Pl) (r : Int) (z : Value) (s s' : Sp) (v : Int) (hop : FnE PP w0 [] 64 [trV ⟨P, r, hsI, fun _ => true⟩, spP p] [SpaceA p s] (.int .i64 v) [SpaceA p s']) :
   FnE PP w0 sh 229 [onV p P r, z] [SpaceA p s] (encI2 ((v, 0))) [SpaceA p s'] := by
 refine zep en229 fn229 rfl rfl rfl ?_
 refine zyr ?_
 repeat' first|(refine zap rfl ?_;refine zaq (cs := [_, _, _, _, _]) rfl (fun tb => ?_))|refine zp ?_|refine zyn ?_
 refine zeb [1] rfl ?_
 repeat' first|refine zyq ?_|(refine zap rfl ?_;first|refine zah [0] hop rfl rfl rfl zdj rfl ?_|refine zah [] (onTrie_spec w0 p P r) rfl rfl rfl zdj rfl ?_|refine zah [] (plain_spec w0 _) rfl rfl rfl zdj rfl ?_)|refine zp ?_|refine zyl 0 rfl ?_|refine zyf rfl ?_|refine zch ?_
 exact zei rfl ⟨rfl, rfl⟩
theorem clo_tSum (sh : Shared) (p : Nat) (P : Pl) (r : Int) (x0 : Int) (x1 : Int) (l : List Int) (a : Option Addr) (c : Nat) (hl : RdSl w0 sh encI 1 (.slice a l.length c) l) (hx0 : l[0]? = some x0) (hx1 : l[1]? = some x1) (s s' : Sp) (v : Int) (hop : FnE PP w0 [] 68 [strV P r, spP p, .int .i64 x0, .int .i64 x1] [SpaceA p s] (.int .i64 v) [SpaceA p s']) :
   FnE PP w0 sh 235 [onV p P r, .slice a l.length c] [SpaceA p s] (encI2 ((v, 0))) [SpaceA p s'] := by
 obtain ⟨b0, off0, c0, T0, fr0, rfl, e20, _, e40⟩ := hl.cells hx0
 obtain ⟨b1, off1, c1, T1, fr1, hb1, e21, _, e41⟩ := hl.cells hx1
 cases hb1
 have hlen : 1 < l.length := (List.getElem?_eq_some_iff.1 hx1).1
 refine zep en235 fn235 rfl rfl rfl ?_
 refine zyr ?_
 repeat' first|(refine zap rfl ?_;refine zaq (cs := [_, _, _, _, _]) rfl (fun tb => ?_))|refine zp ?_|refine zyn ?_
 refine zeb [1] rfl ?_
 repeat' first|refine zyq ?_|(refine zap rfl ?_;first|refine zad rfl (zyt e20) (e40 0 _ rfl _ (by omega)) ?_|refine zad rfl (zyt e21) (e41 0 _ rfl _ (by omega)) ?_|refine zah [0] hop rfl rfl rfl zdj rfl ?_|refine zah [] (on_tree w0 p P r) rfl rfl rfl zdj rfl ?_|refine zah [] (plain_spec w0 _) rfl rfl rfl zdj rfl ?_|refine zas rfl rfl (by omega) ?_)|refine zp ?_|refine zyl 0 rfl ?_|refine zyf rfl ?_|refine zch ?_
 exact zei rfl ⟨rfl, rfl⟩
theorem clo_tCount (sh : Shared) (p : Nat) (P : Pl) (r : Int) (x0 : Int) (x1 : Int) (l : List Int) (a : Option Addr) (c : Nat) (hl : RdSl w0 sh encI 1 (.slice a l.length c) l) (hx0 : l[0]? = some x0) (hx1 : l[1]? = some x1) (s s' : Sp) (v : Int) (hop : FnE PP w0 [] 69 [strV P r, spP p, .int .i64 x0, .int .i64 x1] [SpaceA p s] (.int .i64 v) [SpaceA p s']) :
   FnE PP w0 sh 236 [onV p P r, .slice a l.length c] [SpaceA p s] (encI2 ((v, 0))) [SpaceA p s'] := by
 obtain ⟨b0, off0, c0, T0, fr0, rfl, e20, _, e40⟩ := hl.cells hx0
 obtain ⟨b1, off1, c1, T1, fr1, hb1, e21, _, e41⟩ := hl.cells hx1
 cases hb1
 have hlen : 1 < l.length := (List.getElem?_eq_some_iff.1 hx1).1
 refine zep en236 fn236 rfl rfl rfl ?_
 refine zyr ?_
 repeat' first|(refine zap rfl ?_;refine zaq (cs := [_, _, _, _, _]) rfl (fun tb => ?_))|refine zp ?_|refine zyn ?_
 refine zeb [1] rfl ?_
 repeat' first|refine zyq ?_|(refine zap rfl ?_;first|refine zad rfl (zyt e20) (e40 0 _ rfl _ (by omega)) ?_|refine zad rfl (zyt e21) (e41 0 _ rfl _ (by omega)) ?_|refine zah [0] hop rfl rfl rfl zdj rfl ?_|refine zah [] (on_tree w0 p P r) rfl rfl rfl zdj rfl ?_|refine zah [] (plain_spec w0 _) rfl rfl rfl zdj rfl ?_|refine zas rfl rfl (by omega) ?_)|refine zp ?_|refine zyl 0 rfl ?_|refine zyf rfl ?_|refine zch ?_
 exact zei rfl ⟨rfl, rfl⟩
theorem clo_tNext (sh : Shared) (p : Nat) (P : Pl) (r : Int) (x0 : Int) (l : List Int) (a : Option Addr) (c : Nat) (hl : RdSl w0 sh encI 1 (.slice a l.length c) l) (hx0 : l[0]? = some x0) (s s' : Sp) (v : Int) (b : Bool) (hop : FnE PP w0 [] 70 [strV P r, spP p, .int .i64 x0] [SpaceA p s] (.tuple #[.int .i64 v, .bool b]) [SpaceA p s']) :
   FnE PP w0 sh 237 [onV p P r, .slice a l.length c] [SpaceA p s] (encI2 (if b = true then (v, 0) else (0, 10))) [SpaceA p s'] := by
 obtain ⟨b0, off0, c0, T0, fr0, rfl, e20, _, e40⟩ := hl.cells hx0
 have hlen : 0 < l.length := (List.getElem?_eq_some_iff.1 hx0).1
 refine zep en237 fn237 rfl rfl rfl ?_
 refine zyr ?_
 repeat' first|(refine zap rfl ?_;refine zaq (cs := [_, _, _, _, _]) rfl (fun tb => ?_))|refine zp ?_|refine zyn ?_
 refine zeb [1] rfl ?_
 repeat' first|refine zyq ?_|(refine zap rfl ?_;first|refine zad rfl (zyt e20) (e40 0 _ rfl _ (by omega)) ?_|refine zah [0] hop rfl rfl rfl zdj rfl ?_|refine zah [] (on_tree w0 p P r) rfl rfl rfl zdj rfl ?_|refine zah [] (found_spec w0 _ _) rfl rfl rfl zdj rfl ?_|refine zas rfl rfl (by omega) ?_)|refine zp ?_|refine zyl 0 rfl ?_|refine zyf rfl ?_|refine zch ?_
 cases b <;> exact zei rfl ⟨rfl, rfl⟩
theorem clo_tNth (sh : Shared) (p : Nat) (P : Pl) (r : Int) (x0 : Int) (l : List Int) (a : Option Addr) (c : Nat) (hl : RdSl w0 sh encI 1 (.slice a l.length c) l) (hx0 : l[0]? = some x0) (s s' : Sp) (v : Int) (b : Bool) (hop : FnE PP w0 [] 71 [strV P r, spP p, .int .i64 x0] [SpaceA p s] (.tuple #[.int .i64 v, .bool b]) [SpaceA p s']) :
   FnE PP w0 sh 238 [onV p P r, .slice a l.length c] [SpaceA p s] (encI2 (if b = true then (v, 0) else (0, 10))) [SpaceA p s'] := by
 obtain ⟨b0, off0, c0, T0, fr0, rfl, e20, _, e40⟩ := hl.cells hx0
 have hlen : 0 < l.length := (List.getElem?_eq_some_iff.1 hx0).1
 refine zep en238 fn238 rfl rfl rfl ?_
 refine zyr ?_
 repeat' first|(refine zap rfl ?_;refine zaq (cs := [_, _, _, _, _]) rfl (fun tb => ?_))|refine zp ?_|refine zyn ?_
 refine zeb [1] rfl ?_
 repeat' first|refine zyq ?_|(refine zap rfl ?_;first|refine zad rfl (zyt e20) (e40 0 _ rfl _ (by omega)) ?_|refine zah [0] hop rfl rfl rfl zdj rfl ?_|refine zah [] (on_tree w0 p P r) rfl rfl rfl zdj rfl ?_|refine zah [] (found_spec w0 _ _) rfl rfl rfl zdj rfl ?_|refine zas rfl rfl (by omega) ?_)|refine zp ?_|refine zyl 0 rfl ?_|refine zyf rfl ?_|refine zch ?_
 cases b <;> exact zei rfl ⟨rfl, rfl⟩
theorem clo_tLen (sh : Shared) (p : Nat) (P : Pl) (r : Int) (z : Value) (s s' : Sp) (v : Int) (hop : FnE PP w0 [] 72 [strV P r, spP p] [SpaceA p s] (.int .i64 v) [SpaceA p s']) :
   FnE PP w0 sh 239 [onV p P r, z] [SpaceA p s] (encI2 ((v, 0))) [SpaceA p s'] := by
 refine zep en239 fn239 rfl rfl rfl ?_
 refine zyr ?_
 repeat' first|(refine zap rfl ?_;refine zaq (cs := [_, _, _, _, _]) rfl (fun tb => ?_))|refine zp ?_|refine zyn ?_
 refine zeb [1] rfl ?_
 repeat' first|refine zyq ?_|(refine zap rfl ?_;first|refine zah [0] hop rfl rfl rfl zdj rfl ?_|refine zah [] (on_tree w0 p P r) rfl rfl rfl zdj rfl ?_|refine zah [] (plain_spec w0 _) rfl rfl rfl zdj rfl ?_)|refine zp ?_|refine zyl 0 rfl ?_|refine zyf rfl ?_|refine zch ?_
 exact zei rfl ⟨rfl, rfl⟩
theorem clo_hPush (sh : Shared) (p : Nat) (P : Pl) (r : Int) (x0 : Int) (x1 : Int) (l : List Int) (a : Option Addr) (c : Nat) (hl : RdSl w0 sh encI 1 (.slice a l.length c) l) (hx0 : l[0]? = some x0) (hx1 : l[1]? = some x1) (s s' : Sp) (q : Int × Int) (hop : FnE PP w0 [] 73 [strV P r, spP p, .int .i64 x0, .int .i64 x1] [SpaceA p s] (encI2 q) [SpaceA p s']) :
   FnE PP w0 sh 240 [onV p P r, .slice a l.length c] [SpaceA p s] (encI2 (q)) [SpaceA p s'] := by
 obtain ⟨b0, off0, c0, T0, fr0, rfl, e20, _, e40⟩ := hl.cells hx0
 obtain ⟨b1, off1, c1, T1, fr1, hb1, e21, _, e41⟩ := hl.cells hx1
 cases hb1
 have hlen : 1 < l.length := (List.getElem?_eq_some_iff.1 hx1).1
 refine zep en240 fn240 rfl rfl rfl ?_
 refine zyr ?_
 repeat' first|(refine zap rfl ?_;refine zaq (cs := [_, _, _, _, _]) rfl (fun tb => ?_))|refine zp ?_|refine zyn ?_
 refine zeb [1] rfl ?_
 repeat' first|refine zyq ?_|(refine zap rfl ?_;first|refine zad rfl (zyt e20) (e40 0 _ rfl _ (by omega)) ?_|refine zad rfl (zyt e21) (e41 0 _ rfl _ (by omega)) ?_|refine zah [0] hop rfl rfl rfl zdj rfl ?_|refine zah [] (on_heap w0 p P r) rfl rfl rfl zdj rfl ?_|refine zas rfl rfl (by omega) ?_)|refine zp ?_|refine zyl 0 rfl ?_|refine zyf rfl ?_|refine zch ?_
 exact zei rfl ⟨rfl, rfl⟩
theorem clo_hPop (sh : Shared) (p : Nat) (P : Pl) (r : Int) (z : Value) (s s' : Sp) (u v e : Int) (hop : FnE PP w0 [] 74 [strV P r, spP p] [SpaceA p s] (.tuple #[.int .i64 u, .int .i64 v, .int .i64 e]) [SpaceA p s']) :
   FnE PP w0 sh 242 [onV p P r, z] [SpaceA p s] (encI2 ((v, e))) [SpaceA p s'] := by
 refine zep en242 fn242 rfl rfl rfl ?_
 refine zyr ?_
 repeat' first|(refine zap rfl ?_;refine zaq (cs := [_, _, _, _, _]) rfl (fun tb => ?_))|refine zp ?_|refine zyn ?_
 refine zeb [1] rfl ?_
 repeat' first|refine zck ?_|refine zyq ?_|(refine zap rfl ?_;first|refine zah [0] hop rfl rfl rfl zdj rfl ?_|refine zah [] (on_heap w0 p P r) rfl rfl rfl zdj rfl ?_)|refine zp ?_|refine zyl 0 rfl ?_|refine zyf rfl ?_|refine zch ?_
 exact zei rfl ⟨rfl, rfl⟩
theorem clo_hMin (sh : Shared) (p : Nat) (P : Pl) (r : Int) (z : Value) (s s' : Sp) (u v e : Int) (hop : FnE PP w0 [] 75 [strV P r, spP p] [SpaceA p s] (.tuple #[.int .i64 u, .int .i64 v, .int .i64 e]) [SpaceA p s']) :
   FnE PP w0 sh 243 [onV p P r, z] [SpaceA p s] (encI2 ((v, e))) [SpaceA p s'] := by
 refine zep en243 fn243 rfl rfl rfl ?_
 refine zyr ?_
 repeat' first|(refine zap rfl ?_;refine zaq (cs := [_, _, _, _, _]) rfl (fun tb => ?_))|refine zp ?_|refine zyn ?_
 refine zeb [1] rfl ?_
 repeat' first|refine zck ?_|refine zyq ?_|(refine zap rfl ?_;first|refine zah [0] hop rfl rfl rfl zdj rfl ?_|refine zah [] (on_heap w0 p P r) rfl rfl rfl zdj rfl ?_)|refine zp ?_|refine zyl 0 rfl ?_|refine zyf rfl ?_|refine zch ?_
 exact zei rfl ⟨rfl, rfl⟩
theorem clo_hLeast (sh : Shared) (p : Nat) (P : Pl) (r : Int) (z : Value) (s s' : Sp) (u v e : Int) (hop : FnE PP w0 [] 75 [strV P r, spP p] [SpaceA p s] (.tuple #[.int .i64 u, .int .i64 v, .int .i64 e]) [SpaceA p s']) :
   FnE PP w0 sh 244 [onV p P r, z] [SpaceA p s] (encI2 ((u, e))) [SpaceA p s'] := by
 refine zep en244 fn244 rfl rfl rfl ?_
 refine zyr ?_
 repeat' first|(refine zap rfl ?_;refine zaq (cs := [_, _, _, _, _]) rfl (fun tb => ?_))|refine zp ?_|refine zyn ?_
 refine zeb [1] rfl ?_
 repeat' first|refine zck ?_|refine zyq ?_|(refine zap rfl ?_;first|refine zah [0] hop rfl rfl rfl zdj rfl ?_|refine zah [] (on_heap w0 p P r) rfl rfl rfl zdj rfl ?_)|refine zp ?_|refine zyl 0 rfl ?_|refine zyf rfl ?_|refine zch ?_
 exact zei rfl ⟨rfl, rfl⟩
theorem clo_hLower (sh : Shared) (p : Nat) (P : Pl) (r : Int) (x0 : Int) (x1 : Int) (l : List Int) (a : Option Addr) (c : Nat) (hl : RdSl w0 sh encI 1 (.slice a l.length c) l) (hx0 : l[0]? = some x0) (hx1 : l[1]? = some x1) (s s' : Sp) (e : Int) (hop : FnE PP w0 [] 76 [strV P r, spP p, .int .i64 x0, .int .i64 x1] [SpaceA p s] (.int .i64 e) [SpaceA p s']) :
   FnE PP w0 sh 245 [onV p P r, .slice a l.length c] [SpaceA p s] (encI2 ((0, e))) [SpaceA p s'] := by
 obtain ⟨b0, off0, c0, T0, fr0, rfl, e20, _, e40⟩ := hl.cells hx0
 obtain ⟨b1, off1, c1, T1, fr1, hb1, e21, _, e41⟩ := hl.cells hx1
 cases hb1
 have hlen : 1 < l.length := (List.getElem?_eq_some_iff.1 hx1).1
 refine zep en245 fn245 rfl rfl rfl ?_
 refine zyr ?_
 repeat' first|(refine zap rfl ?_;refine zaq (cs := [_, _, _, _, _]) rfl (fun tb => ?_))|refine zp ?_|refine zyn ?_
 refine zeb [1] rfl ?_
 repeat' first|refine zyq ?_|(refine zap rfl ?_;first|refine zad rfl (zyt e20) (e40 0 _ rfl _ (by omega)) ?_|refine zad rfl (zyt e21) (e41 0 _ rfl _ (by omega)) ?_|refine zah [0] hop rfl rfl rfl zdj rfl ?_|refine zah [] (on_heap w0 p P r) rfl rfl rfl zdj rfl ?_|refine zah [] (nothing_spec w0 _) rfl rfl rfl zdj rfl ?_|refine zas rfl rfl (by omega) ?_)|refine zp ?_|refine zyl 0 rfl ?_|refine zyf rfl ?_|refine zch ?_
 exact zei rfl ⟨rfl, rfl⟩
theorem clo_hDrop (sh : Shared) (p : Nat) (P : Pl) (r : Int) (x0 : Int) (l : List Int) (a : Option Addr) (c : Nat) (hl : RdSl w0 sh encI 1 (.slice a l.length c) l) (hx0 : l[0]? = some x0) (s s' : Sp) (q : Int × Int) (hop : FnE PP w0 [] 77 [strV P r, spP p, .int .i64 x0] [SpaceA p s] (encI2 q) [SpaceA p s']) :
   FnE PP w0 sh 246 [onV p P r, .slice a l.length c] [SpaceA p s] (encI2 (q)) [SpaceA p s'] := by
 obtain ⟨b0, off0, c0, T0, fr0, rfl, e20, _, e40⟩ := hl.cells hx0
 have hlen : 0 < l.length := (List.getElem?_eq_some_iff.1 hx0).1
 refine zep en246 fn246 rfl rfl rfl ?_
 refine zyr ?_
 repeat' first|(refine zap rfl ?_;refine zaq (cs := [_, _, _, _, _]) rfl (fun tb => ?_))|refine zp ?_|refine zyn ?_
 refine zeb [1] rfl ?_
 repeat' first|refine zyq ?_|(refine zap rfl ?_;first|refine zad rfl (zyt e20) (e40 0 _ rfl _ (by omega)) ?_|refine zah [0] hop rfl rfl rfl zdj rfl ?_|refine zah [] (on_heap w0 p P r) rfl rfl rfl zdj rfl ?_|refine zas rfl rfl (by omega) ?_)|refine zp ?_|refine zyl 0 rfl ?_|refine zyf rfl ?_|refine zch ?_
 exact zei rfl ⟨rfl, rfl⟩
theorem clo_hLen (sh : Shared) (p : Nat) (P : Pl) (r : Int) (z : Value) (s s' : Sp) (v : Int) (hop : FnE PP w0 [] 78 [strV P r, spP p] [SpaceA p s] (.int .i64 v) [SpaceA p s']) :
   FnE PP w0 sh 247 [onV p P r, z] [SpaceA p s] (encI2 ((v, 0))) [SpaceA p s'] := by
 refine zep en247 fn247 rfl rfl rfl ?_
 refine zyr ?_
 repeat' first|(refine zap rfl ?_;refine zaq (cs := [_, _, _, _, _]) rfl (fun tb => ?_))|refine zp ?_|refine zyn ?_
 refine zeb [1] rfl ?_
 repeat' first|refine zyq ?_|(refine zap rfl ?_;first|refine zah [0] hop rfl rfl rfl zdj rfl ?_|refine zah [] (on_heap w0 p P r) rfl rfl rfl zdj rfl ?_|refine zah [] (plain_spec w0 _) rfl rfl rfl zdj rfl ?_)|refine zp ?_|refine zyl 0 rfl ?_|refine zyf rfl ?_|refine zch ?_
 exact zei rfl ⟨rfl, rfl⟩
theorem clo_gAdd (sh : Shared) (p : Nat) (P : Pl) (r : Int) (x0 : Int) (l : List Int) (a : Option Addr) (c : Nat) (hl : RdSl w0 sh encI 1 (.slice a l.length c) l) (hx0 : l[0]? = some x0) (s s' : Sp) (q : Int × Int) (hop : FnE PP w0 [] 85 [strV P r, spP p, .int .i64 x0] [SpaceA p s] (encI2 q) [SpaceA p s']) :
   FnE PP w0 sh 248 [onV p P r, .slice a l.length c] [SpaceA p s] (encI2 (q)) [SpaceA p s'] := by
 obtain ⟨b0, off0, c0, T0, fr0, rfl, e20, _, e40⟩ := hl.cells hx0
 have hlen : 0 < l.length := (List.getElem?_eq_some_iff.1 hx0).1
 refine zep en248 fn248 rfl rfl rfl ?_
 refine zyr ?_
 repeat' first|(refine zap rfl ?_;refine zaq (cs := [_, _, _, _, _]) rfl (fun tb => ?_))|refine zp ?_|refine zyn ?_
 refine zeb [1] rfl ?_
 repeat' first|refine zyq ?_|(refine zap rfl ?_;first|refine zad rfl (zyt e20) (e40 0 _ rfl _ (by omega)) ?_|refine zah [0] hop rfl rfl rfl zdj rfl ?_|refine zah [] (on_graph w0 p P r) rfl rfl rfl zdj rfl ?_|refine zas rfl rfl (by omega) ?_)|refine zp ?_|refine zyl 0 rfl ?_|refine zyf rfl ?_|refine zch ?_
 exact zei rfl ⟨rfl, rfl⟩
theorem clo_gLink (sh : Shared) (p : Nat) (P : Pl) (r : Int) (x0 : Int) (x1 : Int) (x2 : Int) (l : List Int) (a : Option Addr) (c : Nat) (hl : RdSl w0 sh encI 1 (.slice a l.length c) l) (hx0 : l[0]? = some x0) (hx1 : l[1]? = some x1) (hx2 : l[2]? = some x2) (s s' : Sp) (q : Int × Int) (hop : FnE PP w0 [] 86 [strV P r, spP p, .int .i64 x0, .int .i64 x1, .int .i64 x2] [SpaceA p s] (encI2 q) [SpaceA p s']) :
   FnE PP w0 sh 250 [onV p P r, .slice a l.length c] [SpaceA p s] (encI2 (q)) [SpaceA p s'] := by
 obtain ⟨b0, off0, c0, T0, fr0, rfl, e20, _, e40⟩ := hl.cells hx0
 obtain ⟨b1, off1, c1, T1, fr1, hb1, e21, _, e41⟩ := hl.cells hx1
 cases hb1
 obtain ⟨b2, off2, c2, T2, fr2, hb2, e22, _, e42⟩ := hl.cells hx2
 cases hb2
 have hlen : 2 < l.length := (List.getElem?_eq_some_iff.1 hx2).1
 refine zep en250 fn250 rfl rfl rfl ?_
 refine zyr ?_
 repeat' first|(refine zap rfl ?_;refine zaq (cs := [_, _, _, _, _]) rfl (fun tb => ?_))|refine zp ?_|refine zyn ?_
 refine zeb [1] rfl ?_
 repeat' first|refine zyq ?_|(refine zap rfl ?_;first|refine zad rfl (zyt e20) (e40 0 _ rfl _ (by omega)) ?_|refine zad rfl (zyt e21) (e41 0 _ rfl _ (by omega)) ?_|refine zad rfl (zyt e22) (e42 0 _ rfl _ (by omega)) ?_|refine zah [0] hop rfl rfl rfl zdj rfl ?_|refine zah [] (on_graph w0 p P r) rfl rfl rfl zdj rfl ?_|refine zas rfl rfl (by omega) ?_)|refine zp ?_|refine zyl 0 rfl ?_|refine zyf rfl ?_|refine zch ?_
 exact zei rfl ⟨rfl, rfl⟩
theorem clo_gCut (sh : Shared) (p : Nat) (P : Pl) (r : Int) (x0 : Int) (l : List Int) (a : Option Addr) (c : Nat) (hl : RdSl w0 sh encI 1 (.slice a l.length c) l) (hx0 : l[0]? = some x0) (s s' : Sp) (e : Int) (hop : FnE PP w0 [] 87 [strV P r, spP p, .int .i64 x0] [SpaceA p s] (.int .i64 e) [SpaceA p s']) :
   FnE PP w0 sh 251 [onV p P r, .slice a l.length c] [SpaceA p s] (encI2 ((0, e))) [SpaceA p s'] := by
 obtain ⟨b0, off0, c0, T0, fr0, rfl, e20, _, e40⟩ := hl.cells hx0
 have hlen : 0 < l.length := (List.getElem?_eq_some_iff.1 hx0).1
 refine zep en251 fn251 rfl rfl rfl ?_
 refine zyr ?_
 repeat' first|(refine zap rfl ?_;refine zaq (cs := [_, _, _, _, _]) rfl (fun tb => ?_))|refine zp ?_|refine zyn ?_
 refine zeb [1] rfl ?_
 repeat' first|refine zyq ?_|(refine zap rfl ?_;first|refine zad rfl (zyt e20) (e40 0 _ rfl _ (by omega)) ?_|refine zah [0] hop rfl rfl rfl zdj rfl ?_|refine zah [] (on_graph w0 p P r) rfl rfl rfl zdj rfl ?_|refine zah [] (nothing_spec w0 _) rfl rfl rfl zdj rfl ?_|refine zas rfl rfl (by omega) ?_)|refine zp ?_|refine zyl 0 rfl ?_|refine zyf rfl ?_|refine zch ?_
 exact zei rfl ⟨rfl, rfl⟩
theorem clo_gDrop (sh : Shared) (p : Nat) (P : Pl) (r : Int) (x0 : Int) (l : List Int) (a : Option Addr) (c : Nat) (hl : RdSl w0 sh encI 1 (.slice a l.length c) l) (hx0 : l[0]? = some x0) (s s' : Sp) (q : Int × Int) (hop : FnE PP w0 [] 88 [strV P r, spP p, .int .i64 x0] [SpaceA p s] (encI2 q) [SpaceA p s']) :
   FnE PP w0 sh 252 [onV p P r, .slice a l.length c] [SpaceA p s] (encI2 (q)) [SpaceA p s'] := by
 obtain ⟨b0, off0, c0, T0, fr0, rfl, e20, _, e40⟩ := hl.cells hx0
 have hlen : 0 < l.length := (List.getElem?_eq_some_iff.1 hx0).1
 refine zep en252 fn252 rfl rfl rfl ?_
 refine zyr ?_
 repeat' first|(refine zap rfl ?_;refine zaq (cs := [_, _, _, _, _]) rfl (fun tb => ?_))|refine zp ?_|refine zyn ?_
 refine zeb [1] rfl ?_
 repeat' first|refine zyq ?_|(refine zap rfl ?_;first|refine zad rfl (zyt e20) (e40 0 _ rfl _ (by omega)) ?_|refine zah [0] hop rfl rfl rfl zdj rfl ?_|refine zah [] (on_graph w0 p P r) rfl rfl rfl zdj rfl ?_|refine zas rfl rfl (by omega) ?_)|refine zp ?_|refine zyl 0 rfl ?_|refine zyf rfl ?_|refine zch ?_
 exact zei rfl ⟨rfl, rfl⟩
theorem clo_gWeight (sh : Shared) (p : Nat) (P : Pl) (r : Int) (x0 : Int) (x1 : Int) (l : List Int) (a : Option Addr) (c : Nat) (hl : RdSl w0 sh encI 1 (.slice a l.length c) l) (hx0 : l[0]? = some x0) (hx1 : l[1]? = some x1) (s s' : Sp) (v : Int) (b : Bool) (hop : FnE PP w0 [] 89 [strV P r, spP p, .int .i64 x0, .int .i64 x1] [SpaceA p s] (.tuple #[.int .i64 v, .bool b]) [SpaceA p s']) :
   FnE PP w0 sh 253 [onV p P r, .slice a l.length c] [SpaceA p s] (encI2 (if b = true then (v, 0) else (0, 10))) [SpaceA p s'] := by
 obtain ⟨b0, off0, c0, T0, fr0, rfl, e20, _, e40⟩ := hl.cells hx0
 obtain ⟨b1, off1, c1, T1, fr1, hb1, e21, _, e41⟩ := hl.cells hx1
 cases hb1
 have hlen : 1 < l.length := (List.getElem?_eq_some_iff.1 hx1).1
 refine zep en253 fn253 rfl rfl rfl ?_
 refine zyr ?_
 repeat' first|(refine zap rfl ?_;refine zaq (cs := [_, _, _, _, _]) rfl (fun tb => ?_))|refine zp ?_|refine zyn ?_
 refine zeb [1] rfl ?_
 repeat' first|refine zyq ?_|(refine zap rfl ?_;first|refine zad rfl (zyt e20) (e40 0 _ rfl _ (by omega)) ?_|refine zad rfl (zyt e21) (e41 0 _ rfl _ (by omega)) ?_|refine zah [0] hop rfl rfl rfl zdj rfl ?_|refine zah [] (on_graph w0 p P r) rfl rfl rfl zdj rfl ?_|refine zah [] (found_spec w0 _ _) rfl rfl rfl zdj rfl ?_|refine zas rfl rfl (by omega) ?_)|refine zp ?_|refine zyl 0 rfl ?_|refine zyf rfl ?_|refine zch ?_
 cases b <;> exact zei rfl ⟨rfl, rfl⟩
theorem clo_gLabel (sh : Shared) (p : Nat) (P : Pl) (r : Int) (x0 : Int) (l : List Int) (a : Option Addr) (c : Nat) (hl : RdSl w0 sh encI 1 (.slice a l.length c) l) (hx0 : l[0]? = some x0) (s s' : Sp) (q : Int × Int) (hop : FnE PP w0 [] 90 [strV P r, spP p, .int .i64 x0] [SpaceA p s] (encI2 q) [SpaceA p s']) :
   FnE PP w0 sh 254 [onV p P r, .slice a l.length c] [SpaceA p s] (encI2 (q)) [SpaceA p s'] := by
 obtain ⟨b0, off0, c0, T0, fr0, rfl, e20, _, e40⟩ := hl.cells hx0
 have hlen : 0 < l.length := (List.getElem?_eq_some_iff.1 hx0).1
 refine zep en254 fn254 rfl rfl rfl ?_
 refine zyr ?_
 repeat' first|(refine zap rfl ?_;refine zaq (cs := [_, _, _, _, _]) rfl (fun tb => ?_))|refine zp ?_|refine zyn ?_
 refine zeb [1] rfl ?_
 repeat' first|refine zyq ?_|(refine zap rfl ?_;first|refine zad rfl (zyt e20) (e40 0 _ rfl _ (by omega)) ?_|refine zah [0] hop rfl rfl rfl zdj rfl ?_|refine zah [] (on_graph w0 p P r) rfl rfl rfl zdj rfl ?_|refine zas rfl rfl (by omega) ?_)|refine zp ?_|refine zyl 0 rfl ?_|refine zyf rfl ?_|refine zch ?_
 exact zei rfl ⟨rfl, rfl⟩
theorem clo_gOuts (sh : Shared) (p : Nat) (P : Pl) (r : Int) (x0 : Int) (l : List Int) (a : Option Addr) (c : Nat) (hl : RdSl w0 sh encI 1 (.slice a l.length c) l) (hx0 : l[0]? = some x0) (s s' : Sp) (m : Nat) (e : Int) (hop : Vc.Fn PP w0 [] 91 [strV P r, spP p, .int .i64 x0] [SpaceA p s] (fun v Γ => ∃ ad n cap, v = .tuple #[.slice ad n cap, .int .i64 e] ∧ n = m ∧ Γ = [SpaceA p s'])) :
   FnE PP w0 sh 255 [onV p P r, .slice a l.length c] [SpaceA p s] (encI2 (if e ≠ 0 then (0, e) else ((m : Int), e))) [SpaceA p s'] := by
 obtain ⟨b0, off0, c0, T0, fr0, rfl, e20, _, e40⟩ := hl.cells hx0
 have hlen : 0 < l.length := (List.getElem?_eq_some_iff.1 hx0).1
 refine zep en255 fn255 rfl rfl rfl ?_
 refine zyr ?_
 repeat' first|(refine zap rfl ?_;refine zaq (cs := [_, _, _, _, _]) rfl (fun tb => ?_))|refine zp ?_|refine zyn ?_
 refine zeb [1] rfl ?_
 repeat' first|refine zyq ?_|(refine zap rfl ?_;first|refine zad rfl (zyt e20) (e40 0 _ rfl _ (by omega)) ?_|refine zai [0] hop rfl rfl rfl zdj (fun | _, _, ⟨ad, _, cap, rfl, rfl, rfl⟩ => ?_)|refine zah [] (on_graph w0 p P r) rfl rfl rfl zdj rfl ?_|refine zah [] (count_spec w0 _ _ _ _) rfl rfl rfl zdj rfl ?_|refine zas rfl rfl (by omega) ?_)|refine zp ?_|refine zyl 0 rfl ?_|refine zyf rfl ?_|refine zch ?_
 exact zei rfl ⟨by split <;> rfl, rfl⟩
theorem clo_gIns (sh : Shared) (p : Nat) (P : Pl) (r : Int) (x0 : Int) (l : List Int) (a : Option Addr) (c : Nat) (hl : RdSl w0 sh encI 1 (.slice a l.length c) l) (hx0 : l[0]? = some x0) (s s' : Sp) (m : Nat) (e : Int) (hop : Vc.Fn PP w0 [] 93 [strV P r, spP p, .int .i64 x0] [SpaceA p s] (fun v Γ => ∃ ad n cap, v = .tuple #[.slice ad n cap, .int .i64 e] ∧ n = m ∧ Γ = [SpaceA p s'])) :
   FnE PP w0 sh 257 [onV p P r, .slice a l.length c] [SpaceA p s] (encI2 (if e ≠ 0 then (0, e) else ((m : Int), e))) [SpaceA p s'] := by
 obtain ⟨b0, off0, c0, T0, fr0, rfl, e20, _, e40⟩ := hl.cells hx0
 have hlen : 0 < l.length := (List.getElem?_eq_some_iff.1 hx0).1
 refine zep en257 fn257 rfl rfl rfl ?_
 refine zyr ?_
 repeat' first|(refine zap rfl ?_;refine zaq (cs := [_, _, _, _, _]) rfl (fun tb => ?_))|refine zp ?_|refine zyn ?_
 refine zeb [1] rfl ?_
 repeat' first|refine zyq ?_|(refine zap rfl ?_;first|refine zad rfl (zyt e20) (e40 0 _ rfl _ (by omega)) ?_|refine zai [0] hop rfl rfl rfl zdj (fun | _, _, ⟨ad, _, cap, rfl, rfl, rfl⟩ => ?_)|refine zah [] (on_graph w0 p P r) rfl rfl rfl zdj rfl ?_|refine zah [] (count_spec w0 _ _ _ _) rfl rfl rfl zdj rfl ?_|refine zas rfl rfl (by omega) ?_)|refine zp ?_|refine zyl 0 rfl ?_|refine zyf rfl ?_|refine zch ?_
 exact zei rfl ⟨by split <;> rfl, rfl⟩
theorem clo_gVerts (sh : Shared) (p : Nat) (P : Pl) (r : Int) (z : Value) (s s' : Sp) (m : Nat) (e : Int) (hop : Vc.Fn PP w0 [] 94 [strV P r, spP p] [SpaceA p s] (fun v Γ => ∃ ad n cap, v = .tuple #[.slice ad n cap, .int .i64 e] ∧ n = m ∧ Γ = [SpaceA p s'])) :
   FnE PP w0 sh 258 [onV p P r, z] [SpaceA p s] (encI2 (((m : Int), e))) [SpaceA p s'] := by
 refine zep en258 fn258 rfl rfl rfl ?_
 refine zyr ?_
 repeat' first|(refine zap rfl ?_;refine zaq (cs := [_, _, _, _, _]) rfl (fun tb => ?_))|refine zp ?_|refine zyn ?_
 refine zeb [1] rfl ?_
 repeat' first|refine zck ?_|refine zyq ?_|(refine zap rfl ?_;first|refine zai [0] hop rfl rfl rfl zdj (fun | _, _, ⟨ad, _, cap, rfl, rfl, rfl⟩ => ?_)|refine zah [] (on_graph w0 p P r) rfl rfl rfl zdj rfl ?_|refine zce rfl ?_)|refine zp ?_|refine zyl 0 rfl ?_|refine zyf rfl ?_|refine zch ?_
 exact zei rfl ⟨rfl, rfl⟩
theorem clo_gEdges (sh : Shared) (p : Nat) (P : Pl) (r : Int) (z : Value) (s s' : Sp) (v : Int) (hop : FnE PP w0 [] 95 [strV P r, spP p] [SpaceA p s] (.int .i64 v) [SpaceA p s']) :
   FnE PP w0 sh 259 [onV p P r, z] [SpaceA p s] (encI2 ((v, 0))) [SpaceA p s'] := by
 refine zep en259 fn259 rfl rfl rfl ?_
 refine zyr ?_
 repeat' first|(refine zap rfl ?_;refine zaq (cs := [_, _, _, _, _]) rfl (fun tb => ?_))|refine zp ?_|refine zyn ?_
 refine zeb [1] rfl ?_
 repeat' first|refine zyq ?_|(refine zap rfl ?_;first|refine zah [0] hop rfl rfl rfl zdj rfl ?_|refine zah [] (on_graph w0 p P r) rfl rfl rfl zdj rfl ?_|refine zah [] (plain_spec w0 _) rfl rfl rfl zdj rfl ?_)|refine zp ?_|refine zyl 0 rfl ?_|refine zyf rfl ?_|refine zch ?_
 exact zei rfl ⟨rfl, rfl⟩
theorem clo_fMake (sh : Shared) (p : Nat) (P : Pl) (r : Int) (z : Value) (s s' : Sp) (q : Int × Int) (hop : FnE PP w0 [] 96 [strV P r, spP p] [SpaceA p s] (encI2 q) [SpaceA p s']) :
   FnE PP w0 sh 260 [onV p P r, z] [SpaceA p s] (encI2 (q)) [SpaceA p s'] := by
 refine zep en260 fn260 rfl rfl rfl ?_
 refine zyr ?_
 repeat' first|(refine zap rfl ?_;refine zaq (cs := [_, _, _, _, _]) rfl (fun tb => ?_))|refine zp ?_|refine zyn ?_
 refine zeb [1] rfl ?_
 repeat' first|refine zyq ?_|(refine zap rfl ?_;first|refine zah [0] hop rfl rfl rfl zdj rfl ?_|refine zah [] (on_forest w0 p P r) rfl rfl rfl zdj rfl ?_)|refine zp ?_|refine zyl 0 rfl ?_|refine zyf rfl ?_|refine zch ?_
 exact zei rfl ⟨rfl, rfl⟩
theorem clo_fFind (sh : Shared) (p : Nat) (P : Pl) (r : Int) (x0 : Int) (l : List Int) (a : Option Addr) (c : Nat) (hl : RdSl w0 sh encI 1 (.slice a l.length c) l) (hx0 : l[0]? = some x0) (s s' : Sp) (q : Int × Int) (hop : FnE PP w0 [] 97 [strV P r, spP p, .int .i64 x0] [SpaceA p s] (encI2 q) [SpaceA p s']) :
   FnE PP w0 sh 262 [onV p P r, .slice a l.length c] [SpaceA p s] (encI2 (q)) [SpaceA p s'] := by
 obtain ⟨b0, off0, c0, T0, fr0, rfl, e20, _, e40⟩ := hl.cells hx0
 have hlen : 0 < l.length := (List.getElem?_eq_some_iff.1 hx0).1
 refine zep en262 fn262 rfl rfl rfl ?_
 refine zyr ?_
 repeat' first|(refine zap rfl ?_;refine zaq (cs := [_, _, _, _, _]) rfl (fun tb => ?_))|refine zp ?_|refine zyn ?_
 refine zeb [1] rfl ?_
 repeat' first|refine zyq ?_|(refine zap rfl ?_;first|refine zad rfl (zyt e20) (e40 0 _ rfl _ (by omega)) ?_|refine zah [0] hop rfl rfl rfl zdj rfl ?_|refine zah [] (on_forest w0 p P r) rfl rfl rfl zdj rfl ?_|refine zas rfl rfl (by omega) ?_)|refine zp ?_|refine zyl 0 rfl ?_|refine zyf rfl ?_|refine zch ?_
 exact zei rfl ⟨rfl, rfl⟩
theorem clo_fUnion (sh : Shared) (p : Nat) (P : Pl) (r : Int) (x0 : Int) (x1 : Int) (l : List Int) (a : Option Addr) (c : Nat) (hl : RdSl w0 sh encI 1 (.slice a l.length c) l) (hx0 : l[0]? = some x0) (hx1 : l[1]? = some x1) (s s' : Sp) (b : Bool) (e : Int) (hop : FnE PP w0 [] 98 [strV P r, spP p, .int .i64 x0, .int .i64 x1] [SpaceA p s] (.tuple #[.bool b, .int .i64 e]) [SpaceA p s']) :
   FnE PP w0 sh 263 [onV p P r, .slice a l.length c] [SpaceA p s] (encI2 (if e = 0 ∧ b = true then (1, e) else (0, e))) [SpaceA p s'] := by
 obtain ⟨b0, off0, c0, T0, fr0, rfl, e20, _, e40⟩ := hl.cells hx0
 obtain ⟨b1, off1, c1, T1, fr1, hb1, e21, _, e41⟩ := hl.cells hx1
 cases hb1
 have hlen : 1 < l.length := (List.getElem?_eq_some_iff.1 hx1).1
 refine zep en263 fn263 rfl rfl rfl ?_
 refine zyr ?_
 repeat' first|(refine zap rfl ?_;refine zaq (cs := [_, _, _, _, _]) rfl (fun tb => ?_))|refine zp ?_|refine zyn ?_
 refine zeb [1] rfl ?_
 repeat' first|refine zyq ?_|(refine zap rfl ?_;first|refine zad rfl (zyt e20) (e40 0 _ rfl _ (by omega)) ?_|refine zad rfl (zyt e21) (e41 0 _ rfl _ (by omega)) ?_|refine zah [0] hop rfl rfl rfl zdj rfl ?_|refine zah [] (on_forest w0 p P r) rfl rfl rfl zdj rfl ?_|refine zah [] (truthE_spec w0 _ _) rfl rfl rfl zdj rfl ?_|refine zas rfl rfl (by omega) ?_)|refine zp ?_|refine zyl 0 rfl ?_|refine zyf rfl ?_|refine zch ?_
 exact zei rfl ⟨rfl, rfl⟩
theorem clo_fUndo (sh : Shared) (p : Nat) (P : Pl) (r : Int) (z : Value) (s s' : Sp) (b : Bool) (e : Int) (hop : FnE PP w0 [] 99 [strV P r, spP p] [SpaceA p s] (.tuple #[.bool b, .int .i64 e]) [SpaceA p s']) :
   FnE PP w0 sh 264 [onV p P r, z] [SpaceA p s] (encI2 (if e = 0 ∧ b = true then (1, e) else (0, e))) [SpaceA p s'] := by
 refine zep en264 fn264 rfl rfl rfl ?_
 refine zyr ?_
 repeat' first|(refine zap rfl ?_;refine zaq (cs := [_, _, _, _, _]) rfl (fun tb => ?_))|refine zp ?_|refine zyn ?_
 refine zeb [1] rfl ?_
 repeat' first|refine zyq ?_|(refine zap rfl ?_;first|refine zah [0] hop rfl rfl rfl zdj rfl ?_|refine zah [] (on_forest w0 p P r) rfl rfl rfl zdj rfl ?_|refine zah [] (truthE_spec w0 _ _) rfl rfl rfl zdj rfl ?_)|refine zp ?_|refine zyl 0 rfl ?_|refine zyf rfl ?_|refine zch ?_
 exact zei rfl ⟨rfl, rfl⟩
theorem clo_fSame (sh : Shared) (p : Nat) (P : Pl) (r : Int) (x0 : Int) (x1 : Int) (l : List Int) (a : Option Addr) (c : Nat) (hl : RdSl w0 sh encI 1 (.slice a l.length c) l) (hx0 : l[0]? = some x0) (hx1 : l[1]? = some x1) (s s' : Sp) (b : Bool) (e : Int) (hop : FnE PP w0 [] 100 [strV P r, spP p, .int .i64 x0, .int .i64 x1] [SpaceA p s] (.tuple #[.bool b, .int .i64 e]) [SpaceA p s']) :
   FnE PP w0 sh 265 [onV p P r, .slice a l.length c] [SpaceA p s] (encI2 (if e = 0 ∧ b = true then (1, e) else (0, e))) [SpaceA p s'] := by
 obtain ⟨b0, off0, c0, T0, fr0, rfl, e20, _, e40⟩ := hl.cells hx0
 obtain ⟨b1, off1, c1, T1, fr1, hb1, e21, _, e41⟩ := hl.cells hx1
 cases hb1
 have hlen : 1 < l.length := (List.getElem?_eq_some_iff.1 hx1).1
 refine zep en265 fn265 rfl rfl rfl ?_
 refine zyr ?_
 repeat' first|(refine zap rfl ?_;refine zaq (cs := [_, _, _, _, _]) rfl (fun tb => ?_))|refine zp ?_|refine zyn ?_
 refine zeb [1] rfl ?_
 repeat' first|refine zyq ?_|(refine zap rfl ?_;first|refine zad rfl (zyt e20) (e40 0 _ rfl _ (by omega)) ?_|refine zad rfl (zyt e21) (e41 0 _ rfl _ (by omega)) ?_|refine zah [0] hop rfl rfl rfl zdj rfl ?_|refine zah [] (on_forest w0 p P r) rfl rfl rfl zdj rfl ?_|refine zah [] (truthE_spec w0 _ _) rfl rfl rfl zdj rfl ?_|refine zas rfl rfl (by omega) ?_)|refine zp ?_|refine zyl 0 rfl ?_|refine zyf rfl ?_|refine zch ?_
 exact zei rfl ⟨rfl, rfl⟩
theorem clo_fSize (sh : Shared) (p : Nat) (P : Pl) (r : Int) (x0 : Int) (l : List Int) (a : Option Addr) (c : Nat) (hl : RdSl w0 sh encI 1 (.slice a l.length c) l) (hx0 : l[0]? = some x0) (s s' : Sp) (q : Int × Int) (hop : FnE PP w0 [] 101 [strV P r, spP p, .int .i64 x0] [SpaceA p s] (encI2 q) [SpaceA p s']) :
   FnE PP w0 sh 266 [onV p P r, .slice a l.length c] [SpaceA p s] (encI2 (q)) [SpaceA p s'] := by
 obtain ⟨b0, off0, c0, T0, fr0, rfl, e20, _, e40⟩ := hl.cells hx0
 have hlen : 0 < l.length := (List.getElem?_eq_some_iff.1 hx0).1
 refine zep en266 fn266 rfl rfl rfl ?_
 refine zyr ?_
 repeat' first|(refine zap rfl ?_;refine zaq (cs := [_, _, _, _, _]) rfl (fun tb => ?_))|refine zp ?_|refine zyn ?_
 refine zeb [1] rfl ?_
 repeat' first|refine zyq ?_|(refine zap rfl ?_;first|refine zad rfl (zyt e20) (e40 0 _ rfl _ (by omega)) ?_|refine zah [0] hop rfl rfl rfl zdj rfl ?_|refine zah [] (on_forest w0 p P r) rfl rfl rfl zdj rfl ?_|refine zas rfl rfl (by omega) ?_)|refine zp ?_|refine zyl 0 rfl ?_|refine zyf rfl ?_|refine zch ?_
 exact zei rfl ⟨rfl, rfl⟩
theorem clo_fSets (sh : Shared) (p : Nat) (P : Pl) (r : Int) (z : Value) (s s' : Sp) (v : Int) (hop : FnE PP w0 [] 102 [strV P r, spP p] [SpaceA p s] (.int .i64 v) [SpaceA p s']) :
   FnE PP w0 sh 267 [onV p P r, z] [SpaceA p s] (encI2 ((v, 0))) [SpaceA p s'] := by
 refine zep en267 fn267 rfl rfl rfl ?_
 refine zyr ?_
 repeat' first|(refine zap rfl ?_;refine zaq (cs := [_, _, _, _, _]) rfl (fun tb => ?_))|refine zp ?_|refine zyn ?_
 refine zeb [1] rfl ?_
 repeat' first|refine zyq ?_|(refine zap rfl ?_;first|refine zah [0] hop rfl rfl rfl zdj rfl ?_|refine zah [] (on_forest w0 p P r) rfl rfl rfl zdj rfl ?_|refine zah [] (plain_spec w0 _) rfl rfl rfl zdj rfl ?_)|refine zp ?_|refine zyl 0 rfl ?_|refine zyf rfl ?_|refine zch ?_
 exact zei rfl ⟨rfl, rfl⟩
end Go.Proofs.YtgdhcgnmffgkiaaGreatDoor
