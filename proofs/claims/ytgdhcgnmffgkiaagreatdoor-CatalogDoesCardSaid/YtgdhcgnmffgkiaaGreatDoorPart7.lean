import Derived.Test.YtgdhcgnmffgkiaaGreatDoorPart4
import Derived.Test.YtgdhcgnmffgkiaaGreatDoorPart6
import Derived.Test.YtgdhcgnmffgkiaaGreatDoorPart3
/- Own work: lemmas of this claim. -/
namespace Go.Proofs.YtgdhcgnmffgkiaaGreatDoor
variable (w0 : World)
open Go.Vc Sim
set_option maxHeartbeats 4000000
theorem gone_spec (v : Int) (b : Bool) (e : Int) : FnE PP w0 [] 228 [.int .i64 v, .bool b, .int .i64 e] [] (encI2 (if e ≠ 0 then (0, e) else if b = true then (v, 0) else (0, 10))) [] := by
 refine zep en228 fn228 rfl rfl rfl ?_
 refine zyr ?_
 repeat' refine zp ?_
 all_goals refine zyn ?_
 refine zyr ?_
 repeat' first|(refine zap rfl ?_;refine zbp rfl rfl ?_)|refine zp ?_|refine zyn ?_
 refine zed rfl (fun h => ?_) (fun h => ?_)
 · rw [if_pos h]
   repeat' first|refine zck ?_|refine zyq ?_|refine zp ?_|refine zch ?_
   exact zei rfl ⟨rfl, rfl⟩
 · rw [if_neg h]
   repeat' first|refine zck ?_|refine zcm ?_|refine zyq ?_|(refine zap rfl ?_;refine zah [] (found_spec w0 v b) rfl rfl rfl zdj rfl ?_)|refine zp ?_|refine zch ?_
   cases b <;> exact zei rfl ⟨rfl, rfl⟩
theorem truthE_spec (b : Bool) (e : Int) : FnE PP w0 [] 226 [.bool b, .int .i64 e] [] (encI2 (if e = 0 ∧ b = true then (1, e) else (0, e))) [] := by
 by_cases he : e = 0
 · cases b with
   | false =>
     rw [if_neg (fun h => by cases h.2)]
     refine zep en226 fn226 rfl rfl rfl ?_
     repeat' first|refine zck ?_|refine zyq ?_|(refine zap rfl ?_;first|refine zbx rfl ?_|refine zaj rfl ?_|refine zbf rfl rfl (by omega) ?_|refine zbv rfl ?_)|refine zp ?_|refine zch ?_|refine zci rfl ?_
     exact zei rfl ⟨rfl, rfl⟩
   | true =>
     rw [if_pos ⟨he, rfl⟩]
     refine zep en226 fn226 rfl rfl rfl ?_
     repeat' first|refine zck ?_|refine zcm ?_|refine zyq ?_|(refine zap rfl ?_;first|refine zbx rfl ?_|refine zaj rfl ?_|refine zbf rfl rfl (by omega) ?_|refine zbv rfl ?_)|refine zp ?_|refine zch ?_|refine zcj rfl ?_
     exact zei rfl ⟨rfl, rfl⟩
 · rw [if_neg (fun h => he h.1)]
   refine zep en226 fn226 rfl rfl rfl ?_
   repeat' first|refine zck ?_|refine zyq ?_|(refine zap rfl ?_;first|refine zak rfl ?_|refine zbe rfl rfl (by omega) ?_|refine zbu rfl ?_)|refine zp ?_|refine zch ?_|refine zci rfl ?_
   exact zei rfl ⟨rfl, rfl⟩
theorem count_spec (a : Option Addr) (n c : Nat) (e : Int) : FnE PP w0 [] 256 [.slice a n c, .int .i64 e] [] (encI2 (if e ≠ 0 then (0, e) else ((n : Int), e))) [] := by
 refine zep en256 fn256 rfl rfl rfl ?_
 refine zyr ?_
 repeat' refine zp ?_
 all_goals refine zyn ?_
 refine zyr ?_
 repeat' first|(refine zap rfl ?_;refine zbp rfl rfl ?_)|refine zp ?_|refine zyn ?_
 refine zed rfl (fun h => ?_) (fun h => ?_)
 · rw [if_pos h]
   repeat' first|refine zck ?_|refine zyq ?_|refine zp ?_|refine zch ?_
   exact zei rfl ⟨rfl, rfl⟩
 · rw [if_neg h]
   repeat' first|refine zck ?_|refine zcm ?_|refine zyq ?_|(refine zap rfl ?_;refine zce rfl ?_)|refine zp ?_|refine zch ?_
   exact zei rfl ⟨rfl, rfl⟩
abbrev strV (P : Pl) (r : Int) : Value := .agg (List.toArray [.int .i64 P.root, .int .i64 P.frm, .int .i64 P.nodes, .int .i64 r])
theorem on_tree (p : Nat) (P : Pl) (r : Int) : FnE PP w0 [] 231 [onV p P r] [] (strV P r) [] := by
 refine zep en231 fn231 rfl rfl rfl ?_
 refine zyr ?_
 repeat' (refine zap rfl ?_;first|refine zaq (cs := [_, _, _, _, _]) rfl (fun tb => ?_)|refine zar (fun t2 => ?_))
 all_goals refine zyn ?_
 refine zeb [0] rfl ?_
 repeat' first|refine zyq ?_|(refine zap rfl ?_;first|refine zcb rfl ?_|refine zae 0 rfl rfl rfl rfl rfl rfl rfl ?_)|refine zyl 0 rfl ?_|refine zyf rfl ?_|refine zch ?_
 exact zeg (zek (zel [] rfl (zem rfl (zeo 0 rfl rfl rfl) ⟨rfl, rfl, rfl⟩)))
theorem on_heap (p : Nat) (P : Pl) (r : Int) : FnE PP w0 [] 241 [onV p P r] [] (strV P r) [] := by
 refine zep en241 fn241 rfl rfl rfl ?_
 refine zyr ?_
 repeat' (refine zap rfl ?_;first|refine zaq (cs := [_, _, _, _, _]) rfl (fun tb => ?_)|refine zar (fun t2 => ?_))
 all_goals refine zyn ?_
 refine zeb [0] rfl ?_
 repeat' first|refine zyq ?_|(refine zap rfl ?_;first|refine zcb rfl ?_|refine zae 0 rfl rfl rfl rfl rfl rfl rfl ?_)|refine zyl 0 rfl ?_|refine zyf rfl ?_|refine zch ?_
 exact zeg (zek (zel [] rfl (zem rfl (zeo 0 rfl rfl rfl) ⟨rfl, rfl, rfl⟩)))
theorem on_array (p : Nat) (P : Pl) (r : Int) : FnE PP w0 [] 215 [onV p P r] [] (strV P r) [] := by
 refine zep en215 fn215 rfl rfl rfl ?_
 refine zyr ?_
 repeat' (refine zap rfl ?_;first|refine zaq (cs := [_, _, _, _, _]) rfl (fun tb => ?_)|refine zar (fun t2 => ?_))
 all_goals refine zyn ?_
 refine zeb [0] rfl ?_
 repeat' first|refine zyq ?_|(refine zap rfl ?_;first|refine zcb rfl ?_|refine zae 0 rfl rfl rfl rfl rfl rfl rfl ?_)|refine zyl 0 rfl ?_|refine zyf rfl ?_|refine zch ?_
 exact zeg (zek (zel [] rfl (zem rfl (zeo 0 rfl rfl rfl) ⟨rfl, rfl, rfl⟩)))
theorem on_graph (p : Nat) (P : Pl) (r : Int) : FnE PP w0 [] 249 [onV p P r] [] (strV P r) [] := by
 refine zep en249 fn249 rfl rfl rfl ?_
 refine zyr ?_
 repeat' (refine zap rfl ?_;first|refine zaq (cs := [_, _, _, _, _]) rfl (fun tb => ?_)|refine zar (fun t2 => ?_))
 all_goals refine zyn ?_
 refine zeb [0] rfl ?_
 repeat' first|refine zyq ?_|(refine zap rfl ?_;first|refine zcb rfl ?_|refine zae 0 rfl rfl rfl rfl rfl rfl rfl ?_)|refine zyl 0 rfl ?_|refine zyf rfl ?_|refine zch ?_
 exact zeg (zek (zel [] rfl (zem rfl (zeo 0 rfl rfl rfl) ⟨rfl, rfl, rfl⟩)))
theorem on_forest (p : Nat) (P : Pl) (r : Int) : FnE PP w0 [] 261 [onV p P r] [] (strV P r) [] := by
 refine zep en261 fn261 rfl rfl rfl ?_
 refine zyr ?_
 repeat' (refine zap rfl ?_;first|refine zaq (cs := [_, _, _, _, _]) rfl (fun tb => ?_)|refine zar (fun t2 => ?_))
 all_goals refine zyn ?_
 refine zeb [0] rfl ?_
 repeat' first|refine zyq ?_|(refine zap rfl ?_;first|refine zcb rfl ?_|refine zae 0 rfl rfl rfl rfl rfl rfl rfl ?_)|refine zyl 0 rfl ?_|refine zyf rfl ?_|refine zch ?_
 exact zeg (zek (zel [] rfl (zem rfl (zeo 0 rfl rfl rfl) ⟨rfl, rfl, rfl⟩)))
theorem clo_cGet (sh : Shared) (p : Nat) (P : Pl) (r : Int) (z : Value) (s s' : Sp) (v : Int) (hop : FnE PP w0 [] 43 [spP p, .int .i64 r] [SpaceA p s] (.int .i64 v) [SpaceA p s']) :
   FnE PP w0 sh 194 [onV p P r, z] [SpaceA p s] (encI2 ((v, 0))) [SpaceA p s'] := by
 refine zep en194 fn194 rfl rfl rfl ?_
 refine zyr ?_
 repeat' first|(refine zap rfl ?_;refine zaq (cs := [_, _, _, _, _]) rfl (fun tb => ?_))|refine zp ?_|refine zyn ?_
 refine zeb [1] rfl ?_
 repeat' first|refine zyq ?_|(refine zap rfl ?_;first|refine zah [0] hop rfl rfl rfl zdj rfl ?_|refine zah [] (plain_spec w0 _) rfl rfl rfl zdj rfl ?_)|refine zp ?_|refine zyl 0 rfl ?_|refine zyf rfl ?_|refine zch ?_
 exact zei rfl ⟨rfl, rfl⟩
theorem clo_cAdd (sh : Shared) (p : Nat) (P : Pl) (r : Int) (x0 : Int) (l : List Int) (a : Option Addr) (c : Nat) (hl : RdSl w0 sh encI 1 (.slice a l.length c) l) (hx0 : l[0]? = some x0) (s s' : Sp) (q : Int × Int) (hop : FnE PP w0 [] 44 [spP p, .int .i64 r, .int .i64 x0] [SpaceA p s] (encI2 q) [SpaceA p s']) :
   FnE PP w0 sh 196 [onV p P r, .slice a l.length c] [SpaceA p s] (encI2 (q)) [SpaceA p s'] := by
 obtain ⟨b0, off0, c0, T0, fr0, rfl, e20, _, e40⟩ := hl.cells hx0
 have hlen : 0 < l.length := (List.getElem?_eq_some_iff.1 hx0).1
 refine zep en196 fn196 rfl rfl rfl ?_
 refine zyr ?_
 repeat' first|(refine zap rfl ?_;refine zaq (cs := [_, _, _, _, _]) rfl (fun tb => ?_))|refine zp ?_|refine zyn ?_
 refine zeb [1] rfl ?_
 repeat' first|refine zyq ?_|(refine zap rfl ?_;first|refine zad rfl (zyt e20) (e40 0 _ rfl _ (by omega)) ?_|refine zah [0] hop rfl rfl rfl zdj rfl ?_|refine zas rfl rfl (by omega) ?_)|refine zp ?_|refine zyl 0 rfl ?_|refine zyf rfl ?_|refine zch ?_
 exact zei rfl ⟨rfl, rfl⟩
theorem clo_cSet (sh : Shared) (p : Nat) (P : Pl) (r : Int) (x0 : Int) (l : List Int) (a : Option Addr) (c : Nat) (hl : RdSl w0 sh encI 1 (.slice a l.length c) l) (hx0 : l[0]? = some x0) (s s' : Sp) (v : Int) (hop : FnE PP w0 [] 45 [spP p, .int .i64 r, .int .i64 x0] [SpaceA p s] (.int .i64 v) [SpaceA p s']) :
   FnE PP w0 sh 197 [onV p P r, .slice a l.length c] [SpaceA p s] (encI2 ((v, 0))) [SpaceA p s'] := by
 obtain ⟨b0, off0, c0, T0, fr0, rfl, e20, _, e40⟩ := hl.cells hx0
 have hlen : 0 < l.length := (List.getElem?_eq_some_iff.1 hx0).1
 refine zep en197 fn197 rfl rfl rfl ?_
 refine zyr ?_
 repeat' first|(refine zap rfl ?_;refine zaq (cs := [_, _, _, _, _]) rfl (fun tb => ?_))|refine zp ?_|refine zyn ?_
 refine zeb [1] rfl ?_
 repeat' first|refine zyq ?_|(refine zap rfl ?_;first|refine zad rfl (zyt e20) (e40 0 _ rfl _ (by omega)) ?_|refine zah [0] hop rfl rfl rfl zdj rfl ?_|refine zah [] (plain_spec w0 _) rfl rfl rfl zdj rfl ?_|refine zas rfl rfl (by omega) ?_)|refine zp ?_|refine zyl 0 rfl ?_|refine zyf rfl ?_|refine zch ?_
 exact zei rfl ⟨rfl, rfl⟩
theorem clo_sPush (sh : Shared) (p : Nat) (P : Pl) (r : Int) (x0 : Int) (l : List Int) (a : Option Addr) (c : Nat) (hl : RdSl w0 sh encI 1 (.slice a l.length c) l) (hx0 : l[0]? = some x0) (s s' : Sp) (e : Int) (hop : FnE PP w0 [] 46 [spP p, poolV P, .int .i64 r, .int .i64 x0] [SpaceA p s] (.int .i64 e) [SpaceA p s']) :
   FnE PP w0 sh 198 [onV p P r, .slice a l.length c] [SpaceA p s] (encI2 ((0, e))) [SpaceA p s'] := by
 obtain ⟨b0, off0, c0, T0, fr0, rfl, e20, _, e40⟩ := hl.cells hx0
 have hlen : 0 < l.length := (List.getElem?_eq_some_iff.1 hx0).1
 refine zep en198 fn198 rfl rfl rfl ?_
 refine zyr ?_
 repeat' first|(refine zap rfl ?_;refine zaq (cs := [_, _, _, _, _]) rfl (fun tb => ?_))|refine zp ?_|refine zyn ?_
 refine zeb [1] rfl ?_
 repeat' first|refine zyq ?_|(refine zap rfl ?_;first|refine zad rfl (zyt e20) (e40 0 _ rfl _ (by omega)) ?_|refine zah [0] hop rfl rfl rfl zdj rfl ?_|refine zah [] (nothing_spec w0 _) rfl rfl rfl zdj rfl ?_|refine zas rfl rfl (by omega) ?_)|refine zp ?_|refine zyl 0 rfl ?_|refine zyf rfl ?_|refine zch ?_
 exact zei rfl ⟨rfl, rfl⟩
theorem clo_sPop (sh : Shared) (p : Nat) (P : Pl) (r : Int) (z : Value) (s s' : Sp) (q : Int × Int) (hop : FnE PP w0 [] 47 [spP p, poolV P, .int .i64 r] [SpaceA p s] (encI2 q) [SpaceA p s']) :
   FnE PP w0 sh 200 [onV p P r, z] [SpaceA p s] (encI2 (q)) [SpaceA p s'] := by
 refine zep en200 fn200 rfl rfl rfl ?_
 refine zyr ?_
 repeat' first|(refine zap rfl ?_;refine zaq (cs := [_, _, _, _, _]) rfl (fun tb => ?_))|refine zp ?_|refine zyn ?_
 refine zeb [1] rfl ?_
 repeat' first|refine zyq ?_|(refine zap rfl ?_;refine zah [0] hop rfl rfl rfl zdj rfl ?_)|refine zp ?_|refine zyl 0 rfl ?_|refine zyf rfl ?_|refine zch ?_
 exact zei rfl ⟨rfl, rfl⟩
theorem clo_sTop (sh : Shared) (p : Nat) (P : Pl) (r : Int) (z : Value) (s s' : Sp) (q : Int × Int) (hop : FnE PP w0 [] 48 [spP p, .int .i64 r] [SpaceA p s] (encI2 q) [SpaceA p s']) :
   FnE PP w0 sh 201 [onV p P r, z] [SpaceA p s] (encI2 (q)) [SpaceA p s'] := by
 refine zep en201 fn201 rfl rfl rfl ?_
 refine zyr ?_
 repeat' first|(refine zap rfl ?_;refine zaq (cs := [_, _, _, _, _]) rfl (fun tb => ?_))|refine zp ?_|refine zyn ?_
 refine zeb [1] rfl ?_
 repeat' first|refine zyq ?_|(refine zap rfl ?_;refine zah [0] hop rfl rfl rfl zdj rfl ?_)|refine zp ?_|refine zyl 0 rfl ?_|refine zyf rfl ?_|refine zch ?_
 exact zei rfl ⟨rfl, rfl⟩
theorem clo_sLen (sh : Shared) (p : Nat) (P : Pl) (r : Int) (z : Value) (s s' : Sp) (v : Int) (hop : FnE PP w0 [] 49 [spP p, .int .i64 r] [SpaceA p s] (.int .i64 v) [SpaceA p s']) :
   FnE PP w0 sh 202 [onV p P r, z] [SpaceA p s] (encI2 ((v, 0))) [SpaceA p s'] := by
 refine zep en202 fn202 rfl rfl rfl ?_
 refine zyr ?_
 repeat' first|(refine zap rfl ?_;refine zaq (cs := [_, _, _, _, _]) rfl (fun tb => ?_))|refine zp ?_|refine zyn ?_
 refine zeb [1] rfl ?_
 repeat' first|refine zyq ?_|(refine zap rfl ?_;first|refine zah [0] hop rfl rfl rfl zdj rfl ?_|refine zah [] (plain_spec w0 _) rfl rfl rfl zdj rfl ?_)|refine zp ?_|refine zyl 0 rfl ?_|refine zyf rfl ?_|refine zch ?_
 exact zei rfl ⟨rfl, rfl⟩
theorem clo_qPut (sh : Shared) (p : Nat) (P : Pl) (r : Int) (x0 : Int) (l : List Int) (a : Option Addr) (c : Nat) (hl : RdSl w0 sh encI 1 (.slice a l.length c) l) (hx0 : l[0]? = some x0) (s s' : Sp) (e : Int) (hop : FnE PP w0 [] 50 [spP p, poolV P, .int .i64 r, .int .i64 x0] [SpaceA p s] (.int .i64 e) [SpaceA p s']) :
   FnE PP w0 sh 203 [onV p P r, .slice a l.length c] [SpaceA p s] (encI2 ((0, e))) [SpaceA p s'] := by
 obtain ⟨b0, off0, c0, T0, fr0, rfl, e20, _, e40⟩ := hl.cells hx0
 have hlen : 0 < l.length := (List.getElem?_eq_some_iff.1 hx0).1
 refine zep en203 fn203 rfl rfl rfl ?_
 refine zyr ?_
 repeat' first|(refine zap rfl ?_;refine zaq (cs := [_, _, _, _, _]) rfl (fun tb => ?_))|refine zp ?_|refine zyn ?_
 refine zeb [1] rfl ?_
 repeat' first|refine zyq ?_|(refine zap rfl ?_;first|refine zad rfl (zyt e20) (e40 0 _ rfl _ (by omega)) ?_|refine zah [0] hop rfl rfl rfl zdj rfl ?_|refine zah [] (nothing_spec w0 _) rfl rfl rfl zdj rfl ?_|refine zas rfl rfl (by omega) ?_)|refine zp ?_|refine zyl 0 rfl ?_|refine zyf rfl ?_|refine zch ?_
 exact zei rfl ⟨rfl, rfl⟩
theorem clo_qTake (sh : Shared) (p : Nat) (P : Pl) (r : Int) (z : Value) (s s' : Sp) (q : Int × Int) (hop : FnE PP w0 [] 51 [spP p, poolV P, .int .i64 r] [SpaceA p s] (encI2 q) [SpaceA p s']) :
   FnE PP w0 sh 204 [onV p P r, z] [SpaceA p s] (encI2 (q)) [SpaceA p s'] := by
 refine zep en204 fn204 rfl rfl rfl ?_
 refine zyr ?_
 repeat' first|(refine zap rfl ?_;refine zaq (cs := [_, _, _, _, _]) rfl (fun tb => ?_))|refine zp ?_|refine zyn ?_
 refine zeb [1] rfl ?_
 repeat' first|refine zyq ?_|(refine zap rfl ?_;refine zah [0] hop rfl rfl rfl zdj rfl ?_)|refine zp ?_|refine zyl 0 rfl ?_|refine zyf rfl ?_|refine zch ?_
 exact zei rfl ⟨rfl, rfl⟩
theorem clo_qFirst (sh : Shared) (p : Nat) (P : Pl) (r : Int) (z : Value) (s s' : Sp) (q : Int × Int) (hop : FnE PP w0 [] 52 [spP p, .int .i64 r] [SpaceA p s] (encI2 q) [SpaceA p s']) :
   FnE PP w0 sh 205 [onV p P r, z] [SpaceA p s] (encI2 (q)) [SpaceA p s'] := by
 refine zep en205 fn205 rfl rfl rfl ?_
 refine zyr ?_
 repeat' first|(refine zap rfl ?_;refine zaq (cs := [_, _, _, _, _]) rfl (fun tb => ?_))|refine zp ?_|refine zyn ?_
 refine zeb [1] rfl ?_
 repeat' first|refine zyq ?_|(refine zap rfl ?_;refine zah [0] hop rfl rfl rfl zdj rfl ?_)|refine zp ?_|refine zyl 0 rfl ?_|refine zyf rfl ?_|refine zch ?_
 exact zei rfl ⟨rfl, rfl⟩
theorem clo_qLen (sh : Shared) (p : Nat) (P : Pl) (r : Int) (z : Value) (s s' : Sp) (v : Int) (hop : FnE PP w0 [] 53 [spP p, .int .i64 r] [SpaceA p s] (.int .i64 v) [SpaceA p s']) :
   FnE PP w0 sh 206 [onV p P r, z] [SpaceA p s] (encI2 ((v, 0))) [SpaceA p s'] := by
 refine zep en206 fn206 rfl rfl rfl ?_
 refine zyr ?_
 repeat' first|(refine zap rfl ?_;refine zaq (cs := [_, _, _, _, _]) rfl (fun tb => ?_))|refine zp ?_|refine zyn ?_
 refine zeb [1] rfl ?_
 repeat' first|refine zyq ?_|(refine zap rfl ?_;first|refine zah [0] hop rfl rfl rfl zdj rfl ?_|refine zah [] (plain_spec w0 _) rfl rfl rfl zdj rfl ?_)|refine zp ?_|refine zyl 0 rfl ?_|refine zyf rfl ?_|refine zch ?_
 exact zei rfl ⟨rfl, rfl⟩
theorem clo_dPushL (sh : Shared) (p : Nat) (P : Pl) (r : Int) (x0 : Int) (l : List Int) (a : Option Addr) (c : Nat) (hl : RdSl w0 sh encI 1 (.slice a l.length c) l) (hx0 : l[0]? = some x0) (s s' : Sp) (e : Int) (hop : FnE PP w0 [] 54 [spP p, poolV P, .int .i64 r, .bool false, .int .i64 x0] [SpaceA p s] (.int .i64 e) [SpaceA p s']) :
   FnE PP w0 sh 207 [onV p P r, .slice a l.length c] [SpaceA p s] (encI2 ((0, e))) [SpaceA p s'] := by
 obtain ⟨b0, off0, c0, T0, fr0, rfl, e20, _, e40⟩ := hl.cells hx0
 have hlen : 0 < l.length := (List.getElem?_eq_some_iff.1 hx0).1
 refine zep en207 fn207 rfl rfl rfl ?_
 refine zyr ?_
 repeat' first|(refine zap rfl ?_;refine zaq (cs := [_, _, _, _, _]) rfl (fun tb => ?_))|refine zp ?_|refine zyn ?_
 refine zeb [1] rfl ?_
 repeat' first|refine zyq ?_|(refine zap rfl ?_;first|refine zad rfl (zyt e20) (e40 0 _ rfl _ (by omega)) ?_|refine zah [0] hop rfl rfl rfl zdj rfl ?_|refine zah [] (nothing_spec w0 _) rfl rfl rfl zdj rfl ?_|refine zas rfl rfl (by omega) ?_)|refine zp ?_|refine zyl 0 rfl ?_|refine zyf rfl ?_|refine zch ?_
 exact zei rfl ⟨rfl, rfl⟩
theorem clo_dPushR (sh : Shared) (p : Nat) (P : Pl) (r : Int) (x0 : Int) (l : List Int) (a : Option Addr) (c : Nat) (hl : RdSl w0 sh encI 1 (.slice a l.length c) l) (hx0 : l[0]? = some x0) (s s' : Sp) (e : Int) (hop : FnE PP w0 [] 54 [spP p, poolV P, .int .i64 r, .bool true, .int .i64 x0] [SpaceA p s] (.int .i64 e) [SpaceA p s']) :
   FnE PP w0 sh 208 [onV p P r, .slice a l.length c] [SpaceA p s] (encI2 ((0, e))) [SpaceA p s'] := by
 obtain ⟨b0, off0, c0, T0, fr0, rfl, e20, _, e40⟩ := hl.cells hx0
 have hlen : 0 < l.length := (List.getElem?_eq_some_iff.1 hx0).1
 refine zep en208 fn208 rfl rfl rfl ?_
 refine zyr ?_
 repeat' first|(refine zap rfl ?_;refine zaq (cs := [_, _, _, _, _]) rfl (fun tb => ?_))|refine zp ?_|refine zyn ?_
 refine zeb [1] rfl ?_
 repeat' first|refine zyq ?_|(refine zap rfl ?_;first|refine zad rfl (zyt e20) (e40 0 _ rfl _ (by omega)) ?_|refine zah [0] hop rfl rfl rfl zdj rfl ?_|refine zah [] (nothing_spec w0 _) rfl rfl rfl zdj rfl ?_|refine zas rfl rfl (by omega) ?_)|refine zp ?_|refine zyl 0 rfl ?_|refine zyf rfl ?_|refine zch ?_
 exact zei rfl ⟨rfl, rfl⟩
theorem clo_dPopL (sh : Shared) (p : Nat) (P : Pl) (r : Int) (z : Value) (s s' : Sp) (q : Int × Int) (hop : FnE PP w0 [] 55 [spP p, poolV P, .int .i64 r, .bool false] [SpaceA p s] (encI2 q) [SpaceA p s']) :
   FnE PP w0 sh 209 [onV p P r, z] [SpaceA p s] (encI2 (q)) [SpaceA p s'] := by
 refine zep en209 fn209 rfl rfl rfl ?_
 refine zyr ?_
 repeat' first|(refine zap rfl ?_;refine zaq (cs := [_, _, _, _, _]) rfl (fun tb => ?_))|refine zp ?_|refine zyn ?_
 refine zeb [1] rfl ?_
 repeat' first|refine zyq ?_|(refine zap rfl ?_;refine zah [0] hop rfl rfl rfl zdj rfl ?_)|refine zp ?_|refine zyl 0 rfl ?_|refine zyf rfl ?_|refine zch ?_
 exact zei rfl ⟨rfl, rfl⟩
theorem clo_dPopR (sh : Shared) (p : Nat) (P : Pl) (r : Int) (z : Value) (s s' : Sp) (q : Int × Int) (hop : FnE PP w0 [] 55 [spP p, poolV P, .int .i64 r, .bool true] [SpaceA p s] (encI2 q) [SpaceA p s']) :
   FnE PP w0 sh 210 [onV p P r, z] [SpaceA p s] (encI2 (q)) [SpaceA p s'] := by
 refine zep en210 fn210 rfl rfl rfl ?_
 refine zyr ?_
 repeat' first|(refine zap rfl ?_;refine zaq (cs := [_, _, _, _, _]) rfl (fun tb => ?_))|refine zp ?_|refine zyn ?_
 refine zeb [1] rfl ?_
 repeat' first|refine zyq ?_|(refine zap rfl ?_;refine zah [0] hop rfl rfl rfl zdj rfl ?_)|refine zp ?_|refine zyl 0 rfl ?_|refine zyf rfl ?_|refine zch ?_
 exact zei rfl ⟨rfl, rfl⟩
theorem clo_dLeft (sh : Shared) (p : Nat) (P : Pl) (r : Int) (z : Value) (s s' : Sp) (q : Int × Int) (hop : FnE PP w0 [] 56 [spP p, .int .i64 r, .bool false] [SpaceA p s] (encI2 q) [SpaceA p s']) :
   FnE PP w0 sh 211 [onV p P r, z] [SpaceA p s] (encI2 (q)) [SpaceA p s'] := by
 refine zep en211 fn211 rfl rfl rfl ?_
 refine zyr ?_
 repeat' first|(refine zap rfl ?_;refine zaq (cs := [_, _, _, _, _]) rfl (fun tb => ?_))|refine zp ?_|refine zyn ?_
 refine zeb [1] rfl ?_
 repeat' first|refine zyq ?_|(refine zap rfl ?_;refine zah [0] hop rfl rfl rfl zdj rfl ?_)|refine zp ?_|refine zyl 0 rfl ?_|refine zyf rfl ?_|refine zch ?_
 exact zei rfl ⟨rfl, rfl⟩
theorem clo_dRight (sh : Shared) (p : Nat) (P : Pl) (r : Int) (z : Value) (s s' : Sp) (q : Int × Int) (hop : FnE PP w0 [] 56 [spP p, .int .i64 r, .bool true] [SpaceA p s] (encI2 q) [SpaceA p s']) :
   FnE PP w0 sh 212 [onV p P r, z] [SpaceA p s] (encI2 (q)) [SpaceA p s'] := by
 refine zep en212 fn212 rfl rfl rfl ?_
 refine zyr ?_
 repeat' first|(refine zap rfl ?_;refine zaq (cs := [_, _, _, _, _]) rfl (fun tb => ?_))|refine zp ?_|refine zyn ?_
 refine zeb [1] rfl ?_
 repeat' first|refine zyq ?_|(refine zap rfl ?_;refine zah [0] hop rfl rfl rfl zdj rfl ?_)|refine zp ?_|refine zyl 0 rfl ?_|refine zyf rfl ?_|refine zch ?_
 exact zei rfl ⟨rfl, rfl⟩
theorem clo_dLen (sh : Shared) (p : Nat) (P : Pl) (r : Int) (z : Value) (s s' : Sp) (v : Int) (hop : FnE PP w0 [] 57 [spP p, .int .i64 r] [SpaceA p s] (.int .i64 v) [SpaceA p s']) :
   FnE PP w0 sh 213 [onV p P r, z] [SpaceA p s] (encI2 ((v, 0))) [SpaceA p s'] := by
 refine zep en213 fn213 rfl rfl rfl ?_
 refine zyr ?_
 repeat' first|(refine zap rfl ?_;refine zaq (cs := [_, _, _, _, _]) rfl (fun tb => ?_))|refine zp ?_|refine zyn ?_
 refine zeb [1] rfl ?_
 repeat' first|refine zyq ?_|(refine zap rfl ?_;first|refine zah [0] hop rfl rfl rfl zdj rfl ?_|refine zah [] (plain_spec w0 _) rfl rfl rfl zdj rfl ?_)|refine zp ?_|refine zyl 0 rfl ?_|refine zyf rfl ?_|refine zch ?_
 exact zei rfl ⟨rfl, rfl⟩
theorem clo_aPush (sh : Shared) (p : Nat) (P : Pl) (r : Int) (x0 : Int) (l : List Int) (a : Option Addr) (c : Nat) (hl : RdSl w0 sh encI 1 (.slice a l.length c) l) (hx0 : l[0]? = some x0) (s s' : Sp) (q : Int × Int) (hop : FnE PP w0 [] 79 [strV P r, spP p, .int .i64 x0] [SpaceA p s] (encI2 q) [SpaceA p s']) :
   FnE PP w0 sh 214 [onV p P r, .slice a l.length c] [SpaceA p s] (encI2 (q)) [SpaceA p s'] := by
 obtain ⟨b0, off0, c0, T0, fr0, rfl, e20, _, e40⟩ := hl.cells hx0
 have hlen : 0 < l.length := (List.getElem?_eq_some_iff.1 hx0).1
 refine zep en214 fn214 rfl rfl rfl ?_
 refine zyr ?_
 repeat' first|(refine zap rfl ?_;refine zaq (cs := [_, _, _, _, _]) rfl (fun tb => ?_))|refine zp ?_|refine zyn ?_
 refine zeb [1] rfl ?_
 repeat' first|refine zyq ?_|(refine zap rfl ?_;first|refine zad rfl (zyt e20) (e40 0 _ rfl _ (by omega)) ?_|refine zah [0] hop rfl rfl rfl zdj rfl ?_|refine zah [] (on_array w0 p P r) rfl rfl rfl zdj rfl ?_|refine zas rfl rfl (by omega) ?_)|refine zp ?_|refine zyl 0 rfl ?_|refine zyf rfl ?_|refine zch ?_
 exact zei rfl ⟨rfl, rfl⟩
theorem clo_aPop (sh : Shared) (p : Nat) (P : Pl) (r : Int) (z : Value) (s s' : Sp) (q : Int × Int) (hop : FnE PP w0 [] 80 [strV P r, spP p] [SpaceA p s] (encI2 q) [SpaceA p s']) :
   FnE PP w0 sh 216 [onV p P r, z] [SpaceA p s] (encI2 (q)) [SpaceA p s'] := by
 refine zep en216 fn216 rfl rfl rfl ?_
 refine zyr ?_
 repeat' first|(refine zap rfl ?_;refine zaq (cs := [_, _, _, _, _]) rfl (fun tb => ?_))|refine zp ?_|refine zyn ?_
 refine zeb [1] rfl ?_
 repeat' first|refine zyq ?_|(refine zap rfl ?_;first|refine zah [0] hop rfl rfl rfl zdj rfl ?_|refine zah [] (on_array w0 p P r) rfl rfl rfl zdj rfl ?_)|refine zp ?_|refine zyl 0 rfl ?_|refine zyf rfl ?_|refine zch ?_
 exact zei rfl ⟨rfl, rfl⟩
theorem clo_aGet (sh : Shared) (p : Nat) (P : Pl) (r : Int) (x0 : Int) (l : List Int) (a : Option Addr) (c : Nat) (hl : RdSl w0 sh encI 1 (.slice a l.length c) l) (hx0 : l[0]? = some x0) (s s' : Sp) (q : Int × Int) (hop : FnE PP w0 [] 81 [strV P r, spP p, .int .i64 x0] [SpaceA p s] (encI2 q) [SpaceA p s']) :
   FnE PP w0 sh 217 [onV p P r, .slice a l.length c] [SpaceA p s] (encI2 (q)) [SpaceA p s'] := by
 obtain ⟨b0, off0, c0, T0, fr0, rfl, e20, _, e40⟩ := hl.cells hx0
 have hlen : 0 < l.length := (List.getElem?_eq_some_iff.1 hx0).1
 refine zep en217 fn217 rfl rfl rfl ?_
 refine zyr ?_
 repeat' first|(refine zap rfl ?_;refine zaq (cs := [_, _, _, _, _]) rfl (fun tb => ?_))|refine zp ?_|refine zyn ?_
 refine zeb [1] rfl ?_
 repeat' first|refine zyq ?_|(refine zap rfl ?_;first|refine zad rfl (zyt e20) (e40 0 _ rfl _ (by omega)) ?_|refine zah [0] hop rfl rfl rfl zdj rfl ?_|refine zah [] (on_array w0 p P r) rfl rfl rfl zdj rfl ?_|refine zas rfl rfl (by omega) ?_)|refine zp ?_|refine zyl 0 rfl ?_|refine zyf rfl ?_|refine zch ?_
 exact zei rfl ⟨rfl, rfl⟩
theorem clo_aSet (sh : Shared) (p : Nat) (P : Pl) (r : Int) (x0 : Int) (x1 : Int) (l : List Int) (a : Option Addr) (c : Nat) (hl : RdSl w0 sh encI 1 (.slice a l.length c) l) (hx0 : l[0]? = some x0) (hx1 : l[1]? = some x1) (s s' : Sp) (q : Int × Int) (hop : FnE PP w0 [] 82 [strV P r, spP p, .int .i64 x0, .int .i64 x1] [SpaceA p s] (encI2 q) [SpaceA p s']) :
   FnE PP w0 sh 218 [onV p P r, .slice a l.length c] [SpaceA p s] (encI2 (q)) [SpaceA p s'] := by
 obtain ⟨b0, off0, c0, T0, fr0, rfl, e20, _, e40⟩ := hl.cells hx0
 obtain ⟨b1, off1, c1, T1, fr1, hb1, e21, _, e41⟩ := hl.cells hx1
 cases hb1
 have hlen : 1 < l.length := (List.getElem?_eq_some_iff.1 hx1).1
 refine zep en218 fn218 rfl rfl rfl ?_
 refine zyr ?_
 repeat' first|(refine zap rfl ?_;refine zaq (cs := [_, _, _, _, _]) rfl (fun tb => ?_))|refine zp ?_|refine zyn ?_
 refine zeb [1] rfl ?_
 repeat' first|refine zyq ?_|(refine zap rfl ?_;first|refine zad rfl (zyt e20) (e40 0 _ rfl _ (by omega)) ?_|refine zad rfl (zyt e21) (e41 0 _ rfl _ (by omega)) ?_|refine zah [0] hop rfl rfl rfl zdj rfl ?_|refine zah [] (on_array w0 p P r) rfl rfl rfl zdj rfl ?_|refine zas rfl rfl (by omega) ?_)|refine zp ?_|refine zyl 0 rfl ?_|refine zyf rfl ?_|refine zch ?_
 exact zei rfl ⟨rfl, rfl⟩
theorem clo_aSwap (sh : Shared) (p : Nat) (P : Pl) (r : Int) (x0 : Int) (x1 : Int) (l : List Int) (a : Option Addr) (c : Nat) (hl : RdSl w0 sh encI 1 (.slice a l.length c) l) (hx0 : l[0]? = some x0) (hx1 : l[1]? = some x1) (s s' : Sp) (e : Int) (hop : FnE PP w0 [] 83 [strV P r, spP p, .int .i64 x0, .int .i64 x1] [SpaceA p s] (.int .i64 e) [SpaceA p s']) :
   FnE PP w0 sh 219 [onV p P r, .slice a l.length c] [SpaceA p s] (encI2 ((0, e))) [SpaceA p s'] := by
 obtain ⟨b0, off0, c0, T0, fr0, rfl, e20, _, e40⟩ := hl.cells hx0
 obtain ⟨b1, off1, c1, T1, fr1, hb1, e21, _, e41⟩ := hl.cells hx1
 cases hb1
 have hlen : 1 < l.length := (List.getElem?_eq_some_iff.1 hx1).1
 refine zep en219 fn219 rfl rfl rfl ?_
 refine zyr ?_
 repeat' first|(refine zap rfl ?_;refine zaq (cs := [_, _, _, _, _]) rfl (fun tb => ?_))|refine zp ?_|refine zyn ?_
 refine zeb [1] rfl ?_
 repeat' first|refine zyq ?_|(refine zap rfl ?_;first|refine zad rfl (zyt e20) (e40 0 _ rfl _ (by omega)) ?_|refine zad rfl (zyt e21) (e41 0 _ rfl _ (by omega)) ?_|refine zah [0] hop rfl rfl rfl zdj rfl ?_|refine zah [] (on_array w0 p P r) rfl rfl rfl zdj rfl ?_|refine zah [] (nothing_spec w0 _) rfl rfl rfl zdj rfl ?_|refine zas rfl rfl (by omega) ?_)|refine zp ?_|refine zyl 0 rfl ?_|refine zyf rfl ?_|refine zch ?_
 exact zei rfl ⟨rfl, rfl⟩
theorem clo_aLen (sh : Shared) (p : Nat) (P : Pl) (r : Int) (z : Value) (s s' : Sp) (v : Int) (hop : FnE PP w0 [] 84 [strV P r, spP p] [SpaceA p s] (.int .i64 v) [SpaceA p s']) :
   FnE PP w0 sh 220 [onV p P r, z] [SpaceA p s] (encI2 ((v, 0))) [SpaceA p s'] := by
 refine zep en220 fn220 rfl rfl rfl ?_
 refine zyr ?_
 repeat' first|(refine zap rfl ?_;refine zaq (cs := [_, _, _, _, _]) rfl (fun tb => ?_))|refine zp ?_|refine zyn ?_
 refine zeb [1] rfl ?_
 repeat' first|refine zyq ?_|(refine zap rfl ?_;first|refine zah [0] hop rfl rfl rfl zdj rfl ?_|refine zah [] (on_array w0 p P r) rfl rfl rfl zdj rfl ?_|refine zah [] (plain_spec w0 _) rfl rfl rfl zdj rfl ?_)|refine zp ?_|refine zyl 0 rfl ?_|refine zyf rfl ?_|refine zch ?_
 exact zei rfl ⟨rfl, rfl⟩
theorem clo_mPut (sh : Shared) (p : Nat) (P : Pl) (r : Int) (x0 : Int) (x1 : Int) (l : List Int) (a : Option Addr) (c : Nat) (hl : RdSl w0 sh encI 1 (.slice a l.length c) l) (hx0 : l[0]? = some x0) (hx1 : l[1]? = some x1) (s s' : Sp) (v : Int) (b : Bool) (e : Int) (hop : FnE PP w0 [] 58 [trV ⟨P, r, hsI, fun _ => true⟩, spP p, .int .i64 x0, .int .i64 x1] [SpaceA p s] (.tuple #[.int .i64 v, .bool b, .int .i64 e]) [SpaceA p s']) :
   FnE PP w0 sh 221 [onV p P r, .slice a l.length c] [SpaceA p s] (encI2 ((v, e))) [SpaceA p s'] := by
 obtain ⟨b0, off0, c0, T0, fr0, rfl, e20, _, e40⟩ := hl.cells hx0
 obtain ⟨b1, off1, c1, T1, fr1, hb1, e21, _, e41⟩ := hl.cells hx1
 cases hb1
 have hlen : 1 < l.length := (List.getElem?_eq_some_iff.1 hx1).1
 refine zep en221 fn221 rfl rfl rfl ?_
 refine zyr ?_
 repeat' first|(refine zap rfl ?_;refine zaq (cs := [_, _, _, _, _]) rfl (fun tb => ?_))|refine zp ?_|refine zyn ?_
 refine zeb [1] rfl ?_
 repeat' first|refine zck ?_|refine zyq ?_|(refine zap rfl ?_;first|refine zad rfl (zyt e20) (e40 0 _ rfl _ (by omega)) ?_|refine zad rfl (zyt e21) (e41 0 _ rfl _ (by omega)) ?_|refine zah [0] hop rfl rfl rfl zdj rfl ?_|refine zah [] (onTrie_spec w0 p P r) rfl rfl rfl zdj rfl ?_|refine zas rfl rfl (by omega) ?_)|refine zp ?_|refine zyl 0 rfl ?_|refine zyf rfl ?_|refine zch ?_
 exact zei rfl ⟨rfl, rfl⟩
theorem clo_mGet (sh : Shared) (p : Nat) (P : Pl) (r : Int) (x0 : Int) (l : List Int) (a : Option Addr) (c : Nat) (hl : RdSl w0 sh encI 1 (.slice a l.length c) l) (hx0 : l[0]? = some x0) (s s' : Sp) (v : Int) (b : Bool) (hop : FnE PP w0 [] 60 [trV ⟨P, r, hsI, fun _ => true⟩, spP p, .int .i64 x0] [SpaceA p s] (.tuple #[.int .i64 v, .bool b]) [SpaceA p s']) :
   FnE PP w0 sh 223 [onV p P r, .slice a l.length c] [SpaceA p s] (encI2 (if b = true then (v, 0) else (0, 10))) [SpaceA p s'] := by
 obtain ⟨b0, off0, c0, T0, fr0, rfl, e20, _, e40⟩ := hl.cells hx0
 have hlen : 0 < l.length := (List.getElem?_eq_some_iff.1 hx0).1
 refine zep en223 fn223 rfl rfl rfl ?_
 refine zyr ?_
 repeat' first|(refine zap rfl ?_;refine zaq (cs := [_, _, _, _, _]) rfl (fun tb => ?_))|refine zp ?_|refine zyn ?_
 refine zeb [1] rfl ?_
 repeat' first|refine zyq ?_|(refine zap rfl ?_;first|refine zad rfl (zyt e20) (e40 0 _ rfl _ (by omega)) ?_|refine zah [0] hop rfl rfl rfl zdj rfl ?_|refine zah [] (onTrie_spec w0 p P r) rfl rfl rfl zdj rfl ?_|refine zah [] (found_spec w0 _ _) rfl rfl rfl zdj rfl ?_|refine zas rfl rfl (by omega) ?_)|refine zp ?_|refine zyl 0 rfl ?_|refine zyf rfl ?_|refine zch ?_
 cases b <;> exact zei rfl ⟨rfl, rfl⟩
theorem clo_mHas (sh : Shared) (p : Nat) (P : Pl) (r : Int) (x0 : Int) (l : List Int) (a : Option Addr) (c : Nat) (hl : RdSl w0 sh encI 1 (.slice a l.length c) l) (hx0 : l[0]? = some x0) (s s' : Sp) (v : Int) (b : Bool) (hop : FnE PP w0 [] 60 [trV ⟨P, r, hsI, fun _ => true⟩, spP p, .int .i64 x0] [SpaceA p s] (.tuple #[.int .i64 v, .bool b]) [SpaceA p s']) :
   FnE PP w0 sh 225 [onV p P r, .slice a l.length c] [SpaceA p s] (encI2 (if b = true then (1, 0) else (0, 0))) [SpaceA p s'] := by
 obtain ⟨b0, off0, c0, T0, fr0, rfl, e20, _, e40⟩ := hl.cells hx0
 have hlen : 0 < l.length := (List.getElem?_eq_some_iff.1 hx0).1
 refine zep en225 fn225 rfl rfl rfl ?_
 refine zyr ?_
 repeat' first|(refine zap rfl ?_;refine zaq (cs := [_, _, _, _, _]) rfl (fun tb => ?_))|refine zp ?_|refine zyn ?_
 refine zeb [1] rfl ?_
 repeat' first|refine zck ?_|refine zyq ?_|(refine zap rfl ?_;first|refine zad rfl (zyt e20) (e40 0 _ rfl _ (by omega)) ?_|refine zah [0] hop rfl rfl rfl zdj rfl ?_|refine zah [] (onTrie_spec w0 p P r) rfl rfl rfl zdj rfl ?_|refine zah [] (truth_spec w0 _) rfl rfl rfl zdj rfl ?_|refine zas rfl rfl (by omega) ?_)|refine zp ?_|refine zyl 0 rfl ?_|refine zyf rfl ?_|refine zch ?_
 cases b <;> exact zei rfl ⟨rfl, rfl⟩
theorem clo_mDrop (sh : Shared) (p : Nat) (P : Pl) (r : Int) (x0 : Int) (l : List Int) (a : Option Addr) (c : Nat) (hl : RdSl w0 sh encI 1 (.slice a l.length c) l) (hx0 : l[0]? = some x0) (s s' : Sp) (v : Int) (b : Bool) (e : Int) (hop : FnE PP w0 [] 63 [trV ⟨P, r, hsI, fun _ => true⟩, spP p, .int .i64 x0] [SpaceA p s] (.tuple #[.int .i64 v, .bool b, .int .i64 e]) [SpaceA p s']) :
   FnE PP w0 sh 227 [onV p P r, .slice a l.length c] [SpaceA p s] (encI2 (if e ≠ 0 then (0, e) else if b = true then (v, 0) else (0, 10))) [SpaceA p s'] := by
 obtain ⟨b0, off0, c0, T0, fr0, rfl, e20, _, e40⟩ := hl.cells hx0
 have hlen : 0 < l.length := (List.getElem?_eq_some_iff.1 hx0).1
 refine zep en227 fn227 rfl rfl rfl ?_
 refine zyr ?_
 repeat' first|(refine zap rfl ?_;refine zaq (cs := [_, _, _, _, _]) rfl (fun tb => ?_))|refine zp ?_|refine zyn ?_
 refine zeb [1] rfl ?_
 repeat' first|refine zyq ?_|(refine zap rfl ?_;first|refine zad rfl (zyt e20) (e40 0 _ rfl _ (by omega)) ?_|refine zah [0] hop rfl rfl rfl zdj rfl ?_|refine zah [] (onTrie_spec w0 p P r) rfl rfl rfl zdj rfl ?_|refine zah [] (gone_spec w0 _ _ _) rfl rfl rfl zdj rfl ?_|refine zas rfl rfl (by omega) ?_)|refine zp ?_|refine zyl 0 rfl ?_|refine zyf rfl ?_|refine zch ?_
 exact zei rfl ⟨rfl, rfl⟩
theorem clo_tPut (sh : Shared) (p : Nat) (P : Pl) (r : Int) (x0 : Int) (x1 : Int) (l : List Int) (a : Option Addr) (c : Nat) (hl : RdSl w0 sh encI 1 (.slice a l.length c) l) (hx0 : l[0]? = some x0) (hx1 : l[1]? = some x1) (s s' : Sp) (v : Int) (b : Bool) (e : Int) (hop : FnE PP w0 [] 65 [strV P r, spP p, .int .i64 x0, .int .i64 x1] [SpaceA p s] (.tuple #[.int .i64 v, .bool b, .int .i64 e]) [SpaceA p s']) :
   FnE PP w0 sh 230 [onV p P r, .slice a l.length c] [SpaceA p s] (encI2 ((v, e))) [SpaceA p s'] := by
 obtain ⟨b0, off0, c0, T0, fr0, rfl, e20, _, e40⟩ := hl.cells hx0
 obtain ⟨b1, off1, c1, T1, fr1, hb1, e21, _, e41⟩ := hl.cells hx1
 cases hb1
 have hlen : 1 < l.length := (List.getElem?_eq_some_iff.1 hx1).1
 refine zep en230 fn230 rfl rfl rfl ?_
 refine zyr ?_
 repeat' first|(refine zap rfl ?_;refine zaq (cs := [_, _, _, _, _]) rfl (fun tb => ?_))|refine zp ?_|refine zyn ?_
 refine zeb [1] rfl ?_
 repeat' first|refine zck ?_|refine zyq ?_|(refine zap rfl ?_;first|refine zad rfl (zyt e20) (e40 0 _ rfl _ (by omega)) ?_|refine zad rfl (zyt e21) (e41 0 _ rfl _ (by omega)) ?_|refine zah [0] hop rfl rfl rfl zdj rfl ?_|refine zah [] (on_tree w0 p P r) rfl rfl rfl zdj rfl ?_|refine zas rfl rfl (by omega) ?_)|refine zp ?_|refine zyl 0 rfl ?_|refine zyf rfl ?_|refine zch ?_
 exact zei rfl ⟨rfl, rfl⟩
theorem clo_tGet (sh : Shared) (p : Nat) (P : Pl) (r : Int) (x0 : Int) (l : List Int) (a : Option Addr) (c : Nat) (hl : RdSl w0 sh encI 1 (.slice a l.length c) l) (hx0 : l[0]? = some x0) (s s' : Sp) (v : Int) (b : Bool) (hop : FnE PP w0 [] 66 [strV P r, spP p, .int .i64 x0] [SpaceA p s] (.tuple #[.int .i64 v, .bool b]) [SpaceA p s']) :
   FnE PP w0 sh 232 [onV p P r, .slice a l.length c] [SpaceA p s] (encI2 (if b = true then (v, 0) else (0, 10))) [SpaceA p s'] := by
 obtain ⟨b0, off0, c0, T0, fr0, rfl, e20, _, e40⟩ := hl.cells hx0
 have hlen : 0 < l.length := (List.getElem?_eq_some_iff.1 hx0).1
 refine zep en232 fn232 rfl rfl rfl ?_
 refine zyr ?_
 repeat' first|(refine zap rfl ?_;refine zaq (cs := [_, _, _, _, _]) rfl (fun tb => ?_))|refine zp ?_|refine zyn ?_
 refine zeb [1] rfl ?_
 repeat' first|refine zyq ?_|(refine zap rfl ?_;first|refine zad rfl (zyt e20) (e40 0 _ rfl _ (by omega)) ?_|refine zah [0] hop rfl rfl rfl zdj rfl ?_|refine zah [] (on_tree w0 p P r) rfl rfl rfl zdj rfl ?_|refine zah [] (found_spec w0 _ _) rfl rfl rfl zdj rfl ?_|refine zas rfl rfl (by omega) ?_)|refine zp ?_|refine zyl 0 rfl ?_|refine zyf rfl ?_|refine zch ?_
 cases b <;> exact zei rfl ⟨rfl, rfl⟩
theorem clo_tHas (sh : Shared) (p : Nat) (P : Pl) (r : Int) (x0 : Int) (l : List Int) (a : Option Addr) (c : Nat) (hl : RdSl w0 sh encI 1 (.slice a l.length c) l) (hx0 : l[0]? = some x0) (s s' : Sp) (v : Int) (b : Bool) (hop : FnE PP w0 [] 66 [strV P r, spP p, .int .i64 x0] [SpaceA p s] (.tuple #[.int .i64 v, .bool b]) [SpaceA p s']) :
   FnE PP w0 sh 233 [onV p P r, .slice a l.length c] [SpaceA p s] (encI2 (if b = true then (1, 0) else (0, 0))) [SpaceA p s'] := by
 obtain ⟨b0, off0, c0, T0, fr0, rfl, e20, _, e40⟩ := hl.cells hx0
 have hlen : 0 < l.length := (List.getElem?_eq_some_iff.1 hx0).1
 refine zep en233 fn233 rfl rfl rfl ?_
 refine zyr ?_
 repeat' first|(refine zap rfl ?_;refine zaq (cs := [_, _, _, _, _]) rfl (fun tb => ?_))|refine zp ?_|refine zyn ?_
 refine zeb [1] rfl ?_
 repeat' first|refine zck ?_|refine zyq ?_|(refine zap rfl ?_;first|refine zad rfl (zyt e20) (e40 0 _ rfl _ (by omega)) ?_|refine zah [0] hop rfl rfl rfl zdj rfl ?_|refine zah [] (on_tree w0 p P r) rfl rfl rfl zdj rfl ?_|refine zah [] (truth_spec w0 _) rfl rfl rfl zdj rfl ?_|refine zas rfl rfl (by omega) ?_)|refine zp ?_|refine zyl 0 rfl ?_|refine zyf rfl ?_|refine zch ?_
 cases b <;> exact zei rfl ⟨rfl, rfl⟩
theorem clo_tDrop (sh : Shared) (p : Nat) (P : Pl) (r : Int) (x0 : Int) (l : List Int) (a : Option Addr) (c : Nat) (hl : RdSl w0 sh encI 1 (.slice a l.length c) l) (hx0 : l[0]? = some x0) (s s' : Sp) (v : Int) (b : Bool) (e : Int) (hop : FnE PP w0 [] 67 [strV P r, spP p, .int .i64 x0] [SpaceA p s] (.tuple #[.int .i64 v, .bool b, .int .i64 e]) [SpaceA p s']) :
   FnE PP w0 sh 234 [onV p P r, .slice a l.length c] [SpaceA p s] (encI2 (if e ≠ 0 then (0, e) else if b = true then (v, 0) else (0, 10))) [SpaceA p s'] := by
 obtain ⟨b0, off0, c0, T0, fr0, rfl, e20, _, e40⟩ := hl.cells hx0
 have hlen : 0 < l.length := (List.getElem?_eq_some_iff.1 hx0).1
 refine zep en234 fn234 rfl rfl rfl ?_
 refine zyr ?_
 repeat' first|(refine zap rfl ?_;refine zaq (cs := [_, _, _, _, _]) rfl (fun tb => ?_))|refine zp ?_|refine zyn ?_
 refine zeb [1] rfl ?_
 repeat' first|refine zyq ?_|(refine zap rfl ?_;first|refine zad rfl (zyt e20) (e40 0 _ rfl _ (by omega)) ?_|refine zah [0] hop rfl rfl rfl zdj rfl ?_|refine zah [] (on_tree w0 p P r) rfl rfl rfl zdj rfl ?_|refine zah [] (gone_spec w0 _ _ _) rfl rfl rfl zdj rfl ?_|refine zas rfl rfl (by omega) ?_)|refine zp ?_|refine zyl 0 rfl ?_|refine zyf rfl ?_|refine zch ?_
 exact zei rfl ⟨rfl, rfl⟩
theorem clo_mLen (sh : Shared) (p : Nat) (P : Pl) (r : Int) (z : Value) (s s' : Sp) (v : Int) (hop : FnE PP w0 [] 64 [trV ⟨P, r, hsI, fun _ => true⟩, spP p] [SpaceA p s] (.int .i64 v) [SpaceA p s']) :
   FnE PP w0 sh 229 [onV p P r, z] [SpaceA p s] (encI2 ((v, 0))) [SpaceA p s'] := by
 refine zep en229 fn229 rfl rfl rfl ?_
 refine zyr ?_
 repeat' first|(refine zap rfl ?_;refine zaq (cs := [_, _, _, _, _]) rfl (fun tb => ?_))|refine zp ?_|refine zyn ?_
 refine zeb [1] rfl ?_
 repeat' first|refine zyq ?_|(refine zap rfl ?_;first|refine zah [0] hop rfl rfl rfl zdj rfl ?_|refine zah [] (onTrie_spec w0 p P r) rfl rfl rfl zdj rfl ?_|refine zah [] (plain_spec w0 _) rfl rfl rfl zdj rfl ?_)|refine zp ?_|refine zyl 0 rfl ?_|refine zyf rfl ?_|refine zch ?_
 exact zei rfl ⟨rfl, rfl⟩
theorem clo_tSum (sh : Shared) (p : Nat) (P : Pl) (r : Int) (x0 : Int) (x1 : Int) (l : List Int) (a : Option Addr) (c : Nat) (hl : RdSl w0 sh encI 1 (.slice a l.length c) l) (hx0 : l[0]? = some x0) (hx1 : l[1]? = some x1) (s s' : Sp) (v : Int) (hop : FnE PP w0 [] 68 [strV P r, spP p, .int .i64 x0, .int .i64 x1] [SpaceA p s] (.int .i64 v) [SpaceA p s']) :
   FnE PP w0 sh 235 [onV p P r, .slice a l.length c] [SpaceA p s] (encI2 ((v, 0))) [SpaceA p s'] := by
 obtain ⟨b0, off0, c0, T0, fr0, rfl, e20, _, e40⟩ := hl.cells hx0
 obtain ⟨b1, off1, c1, T1, fr1, hb1, e21, _, e41⟩ := hl.cells hx1
 cases hb1
 have hlen : 1 < l.length := (List.getElem?_eq_some_iff.1 hx1).1
 refine zep en235 fn235 rfl rfl rfl ?_
 refine zyr ?_
 repeat' first|(refine zap rfl ?_;refine zaq (cs := [_, _, _, _, _]) rfl (fun tb => ?_))|refine zp ?_|refine zyn ?_
 refine zeb [1] rfl ?_
 repeat' first|refine zyq ?_|(refine zap rfl ?_;first|refine zad rfl (zyt e20) (e40 0 _ rfl _ (by omega)) ?_|refine zad rfl (zyt e21) (e41 0 _ rfl _ (by omega)) ?_|refine zah [0] hop rfl rfl rfl zdj rfl ?_|refine zah [] (on_tree w0 p P r) rfl rfl rfl zdj rfl ?_|refine zah [] (plain_spec w0 _) rfl rfl rfl zdj rfl ?_|refine zas rfl rfl (by omega) ?_)|refine zp ?_|refine zyl 0 rfl ?_|refine zyf rfl ?_|refine zch ?_
 exact zei rfl ⟨rfl, rfl⟩
theorem clo_tCount (sh : Shared) (p : Nat) (P : Pl) (r : Int) (x0 : Int) (x1 : Int) (l : List Int) (a : Option Addr) (c : Nat) (hl : RdSl w0 sh encI 1 (.slice a l.length c) l) (hx0 : l[0]? = some x0) (hx1 : l[1]? = some x1) (s s' : Sp) (v : Int) (hop : FnE PP w0 [] 69 [strV P r, spP p, .int .i64 x0, .int .i64 x1] [SpaceA p s] (.int .i64 v) [SpaceA p s']) :
   FnE PP w0 sh 236 [onV p P r, .slice a l.length c] [SpaceA p s] (encI2 ((v, 0))) [SpaceA p s'] := by
 obtain ⟨b0, off0, c0, T0, fr0, rfl, e20, _, e40⟩ := hl.cells hx0
 obtain ⟨b1, off1, c1, T1, fr1, hb1, e21, _, e41⟩ := hl.cells hx1
 cases hb1
 have hlen : 1 < l.length := (List.getElem?_eq_some_iff.1 hx1).1
 refine zep en236 fn236 rfl rfl rfl ?_
 refine zyr ?_
 repeat' first|(refine zap rfl ?_;refine zaq (cs := [_, _, _, _, _]) rfl (fun tb => ?_))|refine zp ?_|refine zyn ?_
 refine zeb [1] rfl ?_
 repeat' first|refine zyq ?_|(refine zap rfl ?_;first|refine zad rfl (zyt e20) (e40 0 _ rfl _ (by omega)) ?_|refine zad rfl (zyt e21) (e41 0 _ rfl _ (by omega)) ?_|refine zah [0] hop rfl rfl rfl zdj rfl ?_|refine zah [] (on_tree w0 p P r) rfl rfl rfl zdj rfl ?_|refine zah [] (plain_spec w0 _) rfl rfl rfl zdj rfl ?_|refine zas rfl rfl (by omega) ?_)|refine zp ?_|refine zyl 0 rfl ?_|refine zyf rfl ?_|refine zch ?_
 exact zei rfl ⟨rfl, rfl⟩
theorem clo_tNext (sh : Shared) (p : Nat) (P : Pl) (r : Int) (x0 : Int) (l : List Int) (a : Option Addr) (c : Nat) (hl : RdSl w0 sh encI 1 (.slice a l.length c) l) (hx0 : l[0]? = some x0) (s s' : Sp) (v : Int) (b : Bool) (hop : FnE PP w0 [] 70 [strV P r, spP p, .int .i64 x0] [SpaceA p s] (.tuple #[.int .i64 v, .bool b]) [SpaceA p s']) :
   FnE PP w0 sh 237 [onV p P r, .slice a l.length c] [SpaceA p s] (encI2 (if b = true then (v, 0) else (0, 10))) [SpaceA p s'] := by
 obtain ⟨b0, off0, c0, T0, fr0, rfl, e20, _, e40⟩ := hl.cells hx0
 have hlen : 0 < l.length := (List.getElem?_eq_some_iff.1 hx0).1
 refine zep en237 fn237 rfl rfl rfl ?_
 refine zyr ?_
 repeat' first|(refine zap rfl ?_;refine zaq (cs := [_, _, _, _, _]) rfl (fun tb => ?_))|refine zp ?_|refine zyn ?_
 refine zeb [1] rfl ?_
 repeat' first|refine zyq ?_|(refine zap rfl ?_;first|refine zad rfl (zyt e20) (e40 0 _ rfl _ (by omega)) ?_|refine zah [0] hop rfl rfl rfl zdj rfl ?_|refine zah [] (on_tree w0 p P r) rfl rfl rfl zdj rfl ?_|refine zah [] (found_spec w0 _ _) rfl rfl rfl zdj rfl ?_|refine zas rfl rfl (by omega) ?_)|refine zp ?_|refine zyl 0 rfl ?_|refine zyf rfl ?_|refine zch ?_
 cases b <;> exact zei rfl ⟨rfl, rfl⟩
theorem clo_tNth (sh : Shared) (p : Nat) (P : Pl) (r : Int) (x0 : Int) (l : List Int) (a : Option Addr) (c : Nat) (hl : RdSl w0 sh encI 1 (.slice a l.length c) l) (hx0 : l[0]? = some x0) (s s' : Sp) (v : Int) (b : Bool) (hop : FnE PP w0 [] 71 [strV P r, spP p, .int .i64 x0] [SpaceA p s] (.tuple #[.int .i64 v, .bool b]) [SpaceA p s']) :
   FnE PP w0 sh 238 [onV p P r, .slice a l.length c] [SpaceA p s] (encI2 (if b = true then (v, 0) else (0, 10))) [SpaceA p s'] := by
 obtain ⟨b0, off0, c0, T0, fr0, rfl, e20, _, e40⟩ := hl.cells hx0
 have hlen : 0 < l.length := (List.getElem?_eq_some_iff.1 hx0).1
 refine zep en238 fn238 rfl rfl rfl ?_
 refine zyr ?_
 repeat' first|(refine zap rfl ?_;refine zaq (cs := [_, _, _, _, _]) rfl (fun tb => ?_))|refine zp ?_|refine zyn ?_
 refine zeb [1] rfl ?_
 repeat' first|refine zyq ?_|(refine zap rfl ?_;first|refine zad rfl (zyt e20) (e40 0 _ rfl _ (by omega)) ?_|refine zah [0] hop rfl rfl rfl zdj rfl ?_|refine zah [] (on_tree w0 p P r) rfl rfl rfl zdj rfl ?_|refine zah [] (found_spec w0 _ _) rfl rfl rfl zdj rfl ?_|refine zas rfl rfl (by omega) ?_)|refine zp ?_|refine zyl 0 rfl ?_|refine zyf rfl ?_|refine zch ?_
 cases b <;> exact zei rfl ⟨rfl, rfl⟩
theorem clo_tLen (sh : Shared) (p : Nat) (P : Pl) (r : Int) (z : Value) (s s' : Sp) (v : Int) (hop : FnE PP w0 [] 72 [strV P r, spP p] [SpaceA p s] (.int .i64 v) [SpaceA p s']) :
   FnE PP w0 sh 239 [onV p P r, z] [SpaceA p s] (encI2 ((v, 0))) [SpaceA p s'] := by
 refine zep en239 fn239 rfl rfl rfl ?_
 refine zyr ?_
 repeat' first|(refine zap rfl ?_;refine zaq (cs := [_, _, _, _, _]) rfl (fun tb => ?_))|refine zp ?_|refine zyn ?_
 refine zeb [1] rfl ?_
 repeat' first|refine zyq ?_|(refine zap rfl ?_;first|refine zah [0] hop rfl rfl rfl zdj rfl ?_|refine zah [] (on_tree w0 p P r) rfl rfl rfl zdj rfl ?_|refine zah [] (plain_spec w0 _) rfl rfl rfl zdj rfl ?_)|refine zp ?_|refine zyl 0 rfl ?_|refine zyf rfl ?_|refine zch ?_
 exact zei rfl ⟨rfl, rfl⟩
theorem clo_hPush (sh : Shared) (p : Nat) (P : Pl) (r : Int) (x0 : Int) (x1 : Int) (l : List Int) (a : Option Addr) (c : Nat) (hl : RdSl w0 sh encI 1 (.slice a l.length c) l) (hx0 : l[0]? = some x0) (hx1 : l[1]? = some x1) (s s' : Sp) (q : Int × Int) (hop : FnE PP w0 [] 73 [strV P r, spP p, .int .i64 x0, .int .i64 x1] [SpaceA p s] (encI2 q) [SpaceA p s']) :
   FnE PP w0 sh 240 [onV p P r, .slice a l.length c] [SpaceA p s] (encI2 (q)) [SpaceA p s'] := by
 obtain ⟨b0, off0, c0, T0, fr0, rfl, e20, _, e40⟩ := hl.cells hx0
 obtain ⟨b1, off1, c1, T1, fr1, hb1, e21, _, e41⟩ := hl.cells hx1
 cases hb1
 have hlen : 1 < l.length := (List.getElem?_eq_some_iff.1 hx1).1
 refine zep en240 fn240 rfl rfl rfl ?_
 refine zyr ?_
 repeat' first|(refine zap rfl ?_;refine zaq (cs := [_, _, _, _, _]) rfl (fun tb => ?_))|refine zp ?_|refine zyn ?_
 refine zeb [1] rfl ?_
 repeat' first|refine zyq ?_|(refine zap rfl ?_;first|refine zad rfl (zyt e20) (e40 0 _ rfl _ (by omega)) ?_|refine zad rfl (zyt e21) (e41 0 _ rfl _ (by omega)) ?_|refine zah [0] hop rfl rfl rfl zdj rfl ?_|refine zah [] (on_heap w0 p P r) rfl rfl rfl zdj rfl ?_|refine zas rfl rfl (by omega) ?_)|refine zp ?_|refine zyl 0 rfl ?_|refine zyf rfl ?_|refine zch ?_
 exact zei rfl ⟨rfl, rfl⟩
theorem clo_hPop (sh : Shared) (p : Nat) (P : Pl) (r : Int) (z : Value) (s s' : Sp) (u v e : Int) (hop : FnE PP w0 [] 74 [strV P r, spP p] [SpaceA p s] (.tuple #[.int .i64 u, .int .i64 v, .int .i64 e]) [SpaceA p s']) :
   FnE PP w0 sh 242 [onV p P r, z] [SpaceA p s] (encI2 ((v, e))) [SpaceA p s'] := by
 refine zep en242 fn242 rfl rfl rfl ?_
 refine zyr ?_
 repeat' first|(refine zap rfl ?_;refine zaq (cs := [_, _, _, _, _]) rfl (fun tb => ?_))|refine zp ?_|refine zyn ?_
 refine zeb [1] rfl ?_
 repeat' first|refine zck ?_|refine zyq ?_|(refine zap rfl ?_;first|refine zah [0] hop rfl rfl rfl zdj rfl ?_|refine zah [] (on_heap w0 p P r) rfl rfl rfl zdj rfl ?_)|refine zp ?_|refine zyl 0 rfl ?_|refine zyf rfl ?_|refine zch ?_
 exact zei rfl ⟨rfl, rfl⟩
theorem clo_hMin (sh : Shared) (p : Nat) (P : Pl) (r : Int) (z : Value) (s s' : Sp) (u v e : Int) (hop : FnE PP w0 [] 75 [strV P r, spP p] [SpaceA p s] (.tuple #[.int .i64 u, .int .i64 v, .int .i64 e]) [SpaceA p s']) :
   FnE PP w0 sh 243 [onV p P r, z] [SpaceA p s] (encI2 ((v, e))) [SpaceA p s'] := by
 refine zep en243 fn243 rfl rfl rfl ?_
 refine zyr ?_
 repeat' first|(refine zap rfl ?_;refine zaq (cs := [_, _, _, _, _]) rfl (fun tb => ?_))|refine zp ?_|refine zyn ?_
 refine zeb [1] rfl ?_
 repeat' first|refine zck ?_|refine zyq ?_|(refine zap rfl ?_;first|refine zah [0] hop rfl rfl rfl zdj rfl ?_|refine zah [] (on_heap w0 p P r) rfl rfl rfl zdj rfl ?_)|refine zp ?_|refine zyl 0 rfl ?_|refine zyf rfl ?_|refine zch ?_
 exact zei rfl ⟨rfl, rfl⟩
theorem clo_hLeast (sh : Shared) (p : Nat) (P : Pl) (r : Int) (z : Value) (s s' : Sp) (u v e : Int) (hop : FnE PP w0 [] 75 [strV P r, spP p] [SpaceA p s] (.tuple #[.int .i64 u, .int .i64 v, .int .i64 e]) [SpaceA p s']) :
   FnE PP w0 sh 244 [onV p P r, z] [SpaceA p s] (encI2 ((u, e))) [SpaceA p s'] := by
 refine zep en244 fn244 rfl rfl rfl ?_
 refine zyr ?_
 repeat' first|(refine zap rfl ?_;refine zaq (cs := [_, _, _, _, _]) rfl (fun tb => ?_))|refine zp ?_|refine zyn ?_
 refine zeb [1] rfl ?_
 repeat' first|refine zck ?_|refine zyq ?_|(refine zap rfl ?_;first|refine zah [0] hop rfl rfl rfl zdj rfl ?_|refine zah [] (on_heap w0 p P r) rfl rfl rfl zdj rfl ?_)|refine zp ?_|refine zyl 0 rfl ?_|refine zyf rfl ?_|refine zch ?_
 exact zei rfl ⟨rfl, rfl⟩
theorem clo_hLower (sh : Shared) (p : Nat) (P : Pl) (r : Int) (x0 : Int) (x1 : Int) (l : List Int) (a : Option Addr) (c : Nat) (hl : RdSl w0 sh encI 1 (.slice a l.length c) l) (hx0 : l[0]? = some x0) (hx1 : l[1]? = some x1) (s s' : Sp) (e : Int) (hop : FnE PP w0 [] 76 [strV P r, spP p, .int .i64 x0, .int .i64 x1] [SpaceA p s] (.int .i64 e) [SpaceA p s']) :
   FnE PP w0 sh 245 [onV p P r, .slice a l.length c] [SpaceA p s] (encI2 ((0, e))) [SpaceA p s'] := by
 obtain ⟨b0, off0, c0, T0, fr0, rfl, e20, _, e40⟩ := hl.cells hx0
 obtain ⟨b1, off1, c1, T1, fr1, hb1, e21, _, e41⟩ := hl.cells hx1
 cases hb1
 have hlen : 1 < l.length := (List.getElem?_eq_some_iff.1 hx1).1
 refine zep en245 fn245 rfl rfl rfl ?_
 refine zyr ?_
 repeat' first|(refine zap rfl ?_;refine zaq (cs := [_, _, _, _, _]) rfl (fun tb => ?_))|refine zp ?_|refine zyn ?_
 refine zeb [1] rfl ?_
 repeat' first|refine zyq ?_|(refine zap rfl ?_;first|refine zad rfl (zyt e20) (e40 0 _ rfl _ (by omega)) ?_|refine zad rfl (zyt e21) (e41 0 _ rfl _ (by omega)) ?_|refine zah [0] hop rfl rfl rfl zdj rfl ?_|refine zah [] (on_heap w0 p P r) rfl rfl rfl zdj rfl ?_|refine zah [] (nothing_spec w0 _) rfl rfl rfl zdj rfl ?_|refine zas rfl rfl (by omega) ?_)|refine zp ?_|refine zyl 0 rfl ?_|refine zyf rfl ?_|refine zch ?_
 exact zei rfl ⟨rfl, rfl⟩
theorem clo_hDrop (sh : Shared) (p : Nat) (P : Pl) (r : Int) (x0 : Int) (l : List Int) (a : Option Addr) (c : Nat) (hl : RdSl w0 sh encI 1 (.slice a l.length c) l) (hx0 : l[0]? = some x0) (s s' : Sp) (q : Int × Int) (hop : FnE PP w0 [] 77 [strV P r, spP p, .int .i64 x0] [SpaceA p s] (encI2 q) [SpaceA p s']) :
   FnE PP w0 sh 246 [onV p P r, .slice a l.length c] [SpaceA p s] (encI2 (q)) [SpaceA p s'] := by
 obtain ⟨b0, off0, c0, T0, fr0, rfl, e20, _, e40⟩ := hl.cells hx0
 have hlen : 0 < l.length := (List.getElem?_eq_some_iff.1 hx0).1
 refine zep en246 fn246 rfl rfl rfl ?_
 refine zyr ?_
 repeat' first|(refine zap rfl ?_;refine zaq (cs := [_, _, _, _, _]) rfl (fun tb => ?_))|refine zp ?_|refine zyn ?_
 refine zeb [1] rfl ?_
 repeat' first|refine zyq ?_|(refine zap rfl ?_;first|refine zad rfl (zyt e20) (e40 0 _ rfl _ (by omega)) ?_|refine zah [0] hop rfl rfl rfl zdj rfl ?_|refine zah [] (on_heap w0 p P r) rfl rfl rfl zdj rfl ?_|refine zas rfl rfl (by omega) ?_)|refine zp ?_|refine zyl 0 rfl ?_|refine zyf rfl ?_|refine zch ?_
 exact zei rfl ⟨rfl, rfl⟩
theorem clo_hLen (sh : Shared) (p : Nat) (P : Pl) (r : Int) (z : Value) (s s' : Sp) (v : Int) (hop : FnE PP w0 [] 78 [strV P r, spP p] [SpaceA p s] (.int .i64 v) [SpaceA p s']) :
   FnE PP w0 sh 247 [onV p P r, z] [SpaceA p s] (encI2 ((v, 0))) [SpaceA p s'] := by
 refine zep en247 fn247 rfl rfl rfl ?_
 refine zyr ?_
 repeat' first|(refine zap rfl ?_;refine zaq (cs := [_, _, _, _, _]) rfl (fun tb => ?_))|refine zp ?_|refine zyn ?_
 refine zeb [1] rfl ?_
 repeat' first|refine zyq ?_|(refine zap rfl ?_;first|refine zah [0] hop rfl rfl rfl zdj rfl ?_|refine zah [] (on_heap w0 p P r) rfl rfl rfl zdj rfl ?_|refine zah [] (plain_spec w0 _) rfl rfl rfl zdj rfl ?_)|refine zp ?_|refine zyl 0 rfl ?_|refine zyf rfl ?_|refine zch ?_
 exact zei rfl ⟨rfl, rfl⟩
theorem clo_gAdd (sh : Shared) (p : Nat) (P : Pl) (r : Int) (x0 : Int) (l : List Int) (a : Option Addr) (c : Nat) (hl : RdSl w0 sh encI 1 (.slice a l.length c) l) (hx0 : l[0]? = some x0) (s s' : Sp) (q : Int × Int) (hop : FnE PP w0 [] 85 [strV P r, spP p, .int .i64 x0] [SpaceA p s] (encI2 q) [SpaceA p s']) :
   FnE PP w0 sh 248 [onV p P r, .slice a l.length c] [SpaceA p s] (encI2 (q)) [SpaceA p s'] := by
 obtain ⟨b0, off0, c0, T0, fr0, rfl, e20, _, e40⟩ := hl.cells hx0
 have hlen : 0 < l.length := (List.getElem?_eq_some_iff.1 hx0).1
 refine zep en248 fn248 rfl rfl rfl ?_
 refine zyr ?_
 repeat' first|(refine zap rfl ?_;refine zaq (cs := [_, _, _, _, _]) rfl (fun tb => ?_))|refine zp ?_|refine zyn ?_
 refine zeb [1] rfl ?_
 repeat' first|refine zyq ?_|(refine zap rfl ?_;first|refine zad rfl (zyt e20) (e40 0 _ rfl _ (by omega)) ?_|refine zah [0] hop rfl rfl rfl zdj rfl ?_|refine zah [] (on_graph w0 p P r) rfl rfl rfl zdj rfl ?_|refine zas rfl rfl (by omega) ?_)|refine zp ?_|refine zyl 0 rfl ?_|refine zyf rfl ?_|refine zch ?_
 exact zei rfl ⟨rfl, rfl⟩
theorem clo_gLink (sh : Shared) (p : Nat) (P : Pl) (r : Int) (x0 : Int) (x1 : Int) (x2 : Int) (l : List Int) (a : Option Addr) (c : Nat) (hl : RdSl w0 sh encI 1 (.slice a l.length c) l) (hx0 : l[0]? = some x0) (hx1 : l[1]? = some x1) (hx2 : l[2]? = some x2) (s s' : Sp) (q : Int × Int) (hop : FnE PP w0 [] 86 [strV P r, spP p, .int .i64 x0, .int .i64 x1, .int .i64 x2] [SpaceA p s] (encI2 q) [SpaceA p s']) :
   FnE PP w0 sh 250 [onV p P r, .slice a l.length c] [SpaceA p s] (encI2 (q)) [SpaceA p s'] := by
 obtain ⟨b0, off0, c0, T0, fr0, rfl, e20, _, e40⟩ := hl.cells hx0
 obtain ⟨b1, off1, c1, T1, fr1, hb1, e21, _, e41⟩ := hl.cells hx1
 cases hb1
 obtain ⟨b2, off2, c2, T2, fr2, hb2, e22, _, e42⟩ := hl.cells hx2
 cases hb2
 have hlen : 2 < l.length := (List.getElem?_eq_some_iff.1 hx2).1
 refine zep en250 fn250 rfl rfl rfl ?_
 refine zyr ?_
 repeat' first|(refine zap rfl ?_;refine zaq (cs := [_, _, _, _, _]) rfl (fun tb => ?_))|refine zp ?_|refine zyn ?_
 refine zeb [1] rfl ?_
 repeat' first|refine zyq ?_|(refine zap rfl ?_;first|refine zad rfl (zyt e20) (e40 0 _ rfl _ (by omega)) ?_|refine zad rfl (zyt e21) (e41 0 _ rfl _ (by omega)) ?_|refine zad rfl (zyt e22) (e42 0 _ rfl _ (by omega)) ?_|refine zah [0] hop rfl rfl rfl zdj rfl ?_|refine zah [] (on_graph w0 p P r) rfl rfl rfl zdj rfl ?_|refine zas rfl rfl (by omega) ?_)|refine zp ?_|refine zyl 0 rfl ?_|refine zyf rfl ?_|refine zch ?_
 exact zei rfl ⟨rfl, rfl⟩
theorem clo_gCut (sh : Shared) (p : Nat) (P : Pl) (r : Int) (x0 : Int) (l : List Int) (a : Option Addr) (c : Nat) (hl : RdSl w0 sh encI 1 (.slice a l.length c) l) (hx0 : l[0]? = some x0) (s s' : Sp) (e : Int) (hop : FnE PP w0 [] 87 [strV P r, spP p, .int .i64 x0] [SpaceA p s] (.int .i64 e) [SpaceA p s']) :
   FnE PP w0 sh 251 [onV p P r, .slice a l.length c] [SpaceA p s] (encI2 ((0, e))) [SpaceA p s'] := by
 obtain ⟨b0, off0, c0, T0, fr0, rfl, e20, _, e40⟩ := hl.cells hx0
 have hlen : 0 < l.length := (List.getElem?_eq_some_iff.1 hx0).1
 refine zep en251 fn251 rfl rfl rfl ?_
 refine zyr ?_
 repeat' first|(refine zap rfl ?_;refine zaq (cs := [_, _, _, _, _]) rfl (fun tb => ?_))|refine zp ?_|refine zyn ?_
 refine zeb [1] rfl ?_
 repeat' first|refine zyq ?_|(refine zap rfl ?_;first|refine zad rfl (zyt e20) (e40 0 _ rfl _ (by omega)) ?_|refine zah [0] hop rfl rfl rfl zdj rfl ?_|refine zah [] (on_graph w0 p P r) rfl rfl rfl zdj rfl ?_|refine zah [] (nothing_spec w0 _) rfl rfl rfl zdj rfl ?_|refine zas rfl rfl (by omega) ?_)|refine zp ?_|refine zyl 0 rfl ?_|refine zyf rfl ?_|refine zch ?_
 exact zei rfl ⟨rfl, rfl⟩
theorem clo_gDrop (sh : Shared) (p : Nat) (P : Pl) (r : Int) (x0 : Int) (l : List Int) (a : Option Addr) (c : Nat) (hl : RdSl w0 sh encI 1 (.slice a l.length c) l) (hx0 : l[0]? = some x0) (s s' : Sp) (q : Int × Int) (hop : FnE PP w0 [] 88 [strV P r, spP p, .int .i64 x0] [SpaceA p s] (encI2 q) [SpaceA p s']) :
   FnE PP w0 sh 252 [onV p P r, .slice a l.length c] [SpaceA p s] (encI2 (q)) [SpaceA p s'] := by
 obtain ⟨b0, off0, c0, T0, fr0, rfl, e20, _, e40⟩ := hl.cells hx0
 have hlen : 0 < l.length := (List.getElem?_eq_some_iff.1 hx0).1
 refine zep en252 fn252 rfl rfl rfl ?_
 refine zyr ?_
 repeat' first|(refine zap rfl ?_;refine zaq (cs := [_, _, _, _, _]) rfl (fun tb => ?_))|refine zp ?_|refine zyn ?_
 refine zeb [1] rfl ?_
 repeat' first|refine zyq ?_|(refine zap rfl ?_;first|refine zad rfl (zyt e20) (e40 0 _ rfl _ (by omega)) ?_|refine zah [0] hop rfl rfl rfl zdj rfl ?_|refine zah [] (on_graph w0 p P r) rfl rfl rfl zdj rfl ?_|refine zas rfl rfl (by omega) ?_)|refine zp ?_|refine zyl 0 rfl ?_|refine zyf rfl ?_|refine zch ?_
 exact zei rfl ⟨rfl, rfl⟩
theorem clo_gWeight (sh : Shared) (p : Nat) (P : Pl) (r : Int) (x0 : Int) (x1 : Int) (l : List Int) (a : Option Addr) (c : Nat) (hl : RdSl w0 sh encI 1 (.slice a l.length c) l) (hx0 : l[0]? = some x0) (hx1 : l[1]? = some x1) (s s' : Sp) (v : Int) (b : Bool) (hop : FnE PP w0 [] 89 [strV P r, spP p, .int .i64 x0, .int .i64 x1] [SpaceA p s] (.tuple #[.int .i64 v, .bool b]) [SpaceA p s']) :
   FnE PP w0 sh 253 [onV p P r, .slice a l.length c] [SpaceA p s] (encI2 (if b = true then (v, 0) else (0, 10))) [SpaceA p s'] := by
 obtain ⟨b0, off0, c0, T0, fr0, rfl, e20, _, e40⟩ := hl.cells hx0
 obtain ⟨b1, off1, c1, T1, fr1, hb1, e21, _, e41⟩ := hl.cells hx1
 cases hb1
 have hlen : 1 < l.length := (List.getElem?_eq_some_iff.1 hx1).1
 refine zep en253 fn253 rfl rfl rfl ?_
 refine zyr ?_
 repeat' first|(refine zap rfl ?_;refine zaq (cs := [_, _, _, _, _]) rfl (fun tb => ?_))|refine zp ?_|refine zyn ?_
 refine zeb [1] rfl ?_
 repeat' first|refine zyq ?_|(refine zap rfl ?_;first|refine zad rfl (zyt e20) (e40 0 _ rfl _ (by omega)) ?_|refine zad rfl (zyt e21) (e41 0 _ rfl _ (by omega)) ?_|refine zah [0] hop rfl rfl rfl zdj rfl ?_|refine zah [] (on_graph w0 p P r) rfl rfl rfl zdj rfl ?_|refine zah [] (found_spec w0 _ _) rfl rfl rfl zdj rfl ?_|refine zas rfl rfl (by omega) ?_)|refine zp ?_|refine zyl 0 rfl ?_|refine zyf rfl ?_|refine zch ?_
 cases b <;> exact zei rfl ⟨rfl, rfl⟩
theorem clo_gLabel (sh : Shared) (p : Nat) (P : Pl) (r : Int) (x0 : Int) (l : List Int) (a : Option Addr) (c : Nat) (hl : RdSl w0 sh encI 1 (.slice a l.length c) l) (hx0 : l[0]? = some x0) (s s' : Sp) (q : Int × Int) (hop : FnE PP w0 [] 90 [strV P r, spP p, .int .i64 x0] [SpaceA p s] (encI2 q) [SpaceA p s']) :
   FnE PP w0 sh 254 [onV p P r, .slice a l.length c] [SpaceA p s] (encI2 (q)) [SpaceA p s'] := by
 obtain ⟨b0, off0, c0, T0, fr0, rfl, e20, _, e40⟩ := hl.cells hx0
 have hlen : 0 < l.length := (List.getElem?_eq_some_iff.1 hx0).1
 refine zep en254 fn254 rfl rfl rfl ?_
 refine zyr ?_
 repeat' first|(refine zap rfl ?_;refine zaq (cs := [_, _, _, _, _]) rfl (fun tb => ?_))|refine zp ?_|refine zyn ?_
 refine zeb [1] rfl ?_
 repeat' first|refine zyq ?_|(refine zap rfl ?_;first|refine zad rfl (zyt e20) (e40 0 _ rfl _ (by omega)) ?_|refine zah [0] hop rfl rfl rfl zdj rfl ?_|refine zah [] (on_graph w0 p P r) rfl rfl rfl zdj rfl ?_|refine zas rfl rfl (by omega) ?_)|refine zp ?_|refine zyl 0 rfl ?_|refine zyf rfl ?_|refine zch ?_
 exact zei rfl ⟨rfl, rfl⟩
theorem clo_gOuts (sh : Shared) (p : Nat) (P : Pl) (r : Int) (x0 : Int) (l : List Int) (a : Option Addr) (c : Nat) (hl : RdSl w0 sh encI 1 (.slice a l.length c) l) (hx0 : l[0]? = some x0) (s s' : Sp) (m : Nat) (e : Int) (hop : Vc.Fn PP w0 [] 91 [strV P r, spP p, .int .i64 x0] [SpaceA p s] (fun v Γ => ∃ ad n cap, v = .tuple #[.slice ad n cap, .int .i64 e] ∧ n = m ∧ Γ = [SpaceA p s'])) :
   FnE PP w0 sh 255 [onV p P r, .slice a l.length c] [SpaceA p s] (encI2 (if e ≠ 0 then (0, e) else ((m : Int), e))) [SpaceA p s'] := by
 obtain ⟨b0, off0, c0, T0, fr0, rfl, e20, _, e40⟩ := hl.cells hx0
 have hlen : 0 < l.length := (List.getElem?_eq_some_iff.1 hx0).1
 refine zep en255 fn255 rfl rfl rfl ?_
 refine zyr ?_
 repeat' first|(refine zap rfl ?_;refine zaq (cs := [_, _, _, _, _]) rfl (fun tb => ?_))|refine zp ?_|refine zyn ?_
 refine zeb [1] rfl ?_
 repeat' first|refine zyq ?_|(refine zap rfl ?_;first|refine zad rfl (zyt e20) (e40 0 _ rfl _ (by omega)) ?_|refine zai [0] hop rfl rfl rfl zdj (fun | _, _, ⟨ad, _, cap, rfl, rfl, rfl⟩ => ?_)|refine zah [] (on_graph w0 p P r) rfl rfl rfl zdj rfl ?_|refine zah [] (count_spec w0 _ _ _ _) rfl rfl rfl zdj rfl ?_|refine zas rfl rfl (by omega) ?_)|refine zp ?_|refine zyl 0 rfl ?_|refine zyf rfl ?_|refine zch ?_
 exact zei rfl ⟨by split <;> rfl, rfl⟩
theorem clo_gIns (sh : Shared) (p : Nat) (P : Pl) (r : Int) (x0 : Int) (l : List Int) (a : Option Addr) (c : Nat) (hl : RdSl w0 sh encI 1 (.slice a l.length c) l) (hx0 : l[0]? = some x0) (s s' : Sp) (m : Nat) (e : Int) (hop : Vc.Fn PP w0 [] 93 [strV P r, spP p, .int .i64 x0] [SpaceA p s] (fun v Γ => ∃ ad n cap, v = .tuple #[.slice ad n cap, .int .i64 e] ∧ n = m ∧ Γ = [SpaceA p s'])) :
   FnE PP w0 sh 257 [onV p P r, .slice a l.length c] [SpaceA p s] (encI2 (if e ≠ 0 then (0, e) else ((m : Int), e))) [SpaceA p s'] := by
 obtain ⟨b0, off0, c0, T0, fr0, rfl, e20, _, e40⟩ := hl.cells hx0
 have hlen : 0 < l.length := (List.getElem?_eq_some_iff.1 hx0).1
 refine zep en257 fn257 rfl rfl rfl ?_
 refine zyr ?_
 repeat' first|(refine zap rfl ?_;refine zaq (cs := [_, _, _, _, _]) rfl (fun tb => ?_))|refine zp ?_|refine zyn ?_
 refine zeb [1] rfl ?_
 repeat' first|refine zyq ?_|(refine zap rfl ?_;first|refine zad rfl (zyt e20) (e40 0 _ rfl _ (by omega)) ?_|refine zai [0] hop rfl rfl rfl zdj (fun | _, _, ⟨ad, _, cap, rfl, rfl, rfl⟩ => ?_)|refine zah [] (on_graph w0 p P r) rfl rfl rfl zdj rfl ?_|refine zah [] (count_spec w0 _ _ _ _) rfl rfl rfl zdj rfl ?_|refine zas rfl rfl (by omega) ?_)|refine zp ?_|refine zyl 0 rfl ?_|refine zyf rfl ?_|refine zch ?_
 exact zei rfl ⟨by split <;> rfl, rfl⟩
theorem clo_gVerts (sh : Shared) (p : Nat) (P : Pl) (r : Int) (z : Value) (s s' : Sp) (m : Nat) (e : Int) (hop : Vc.Fn PP w0 [] 94 [strV P r, spP p] [SpaceA p s] (fun v Γ => ∃ ad n cap, v = .tuple #[.slice ad n cap, .int .i64 e] ∧ n = m ∧ Γ = [SpaceA p s'])) :
   FnE PP w0 sh 258 [onV p P r, z] [SpaceA p s] (encI2 (((m : Int), e))) [SpaceA p s'] := by
 refine zep en258 fn258 rfl rfl rfl ?_
 refine zyr ?_
 repeat' first|(refine zap rfl ?_;refine zaq (cs := [_, _, _, _, _]) rfl (fun tb => ?_))|refine zp ?_|refine zyn ?_
 refine zeb [1] rfl ?_
 repeat' first|refine zck ?_|refine zyq ?_|(refine zap rfl ?_;first|refine zai [0] hop rfl rfl rfl zdj (fun | _, _, ⟨ad, _, cap, rfl, rfl, rfl⟩ => ?_)|refine zah [] (on_graph w0 p P r) rfl rfl rfl zdj rfl ?_|refine zce rfl ?_)|refine zp ?_|refine zyl 0 rfl ?_|refine zyf rfl ?_|refine zch ?_
 exact zei rfl ⟨rfl, rfl⟩
theorem clo_gEdges (sh : Shared) (p : Nat) (P : Pl) (r : Int) (z : Value) (s s' : Sp) (v : Int) (hop : FnE PP w0 [] 95 [strV P r, spP p] [SpaceA p s] (.int .i64 v) [SpaceA p s']) :
   FnE PP w0 sh 259 [onV p P r, z] [SpaceA p s] (encI2 ((v, 0))) [SpaceA p s'] := by
 refine zep en259 fn259 rfl rfl rfl ?_
 refine zyr ?_
 repeat' first|(refine zap rfl ?_;refine zaq (cs := [_, _, _, _, _]) rfl (fun tb => ?_))|refine zp ?_|refine zyn ?_
 refine zeb [1] rfl ?_
 repeat' first|refine zyq ?_|(refine zap rfl ?_;first|refine zah [0] hop rfl rfl rfl zdj rfl ?_|refine zah [] (on_graph w0 p P r) rfl rfl rfl zdj rfl ?_|refine zah [] (plain_spec w0 _) rfl rfl rfl zdj rfl ?_)|refine zp ?_|refine zyl 0 rfl ?_|refine zyf rfl ?_|refine zch ?_
 exact zei rfl ⟨rfl, rfl⟩
theorem clo_fMake (sh : Shared) (p : Nat) (P : Pl) (r : Int) (z : Value) (s s' : Sp) (q : Int × Int) (hop : FnE PP w0 [] 96 [strV P r, spP p] [SpaceA p s] (encI2 q) [SpaceA p s']) :
   FnE PP w0 sh 260 [onV p P r, z] [SpaceA p s] (encI2 (q)) [SpaceA p s'] := by
 refine zep en260 fn260 rfl rfl rfl ?_
 refine zyr ?_
 repeat' first|(refine zap rfl ?_;refine zaq (cs := [_, _, _, _, _]) rfl (fun tb => ?_))|refine zp ?_|refine zyn ?_
 refine zeb [1] rfl ?_
 repeat' first|refine zyq ?_|(refine zap rfl ?_;first|refine zah [0] hop rfl rfl rfl zdj rfl ?_|refine zah [] (on_forest w0 p P r) rfl rfl rfl zdj rfl ?_)|refine zp ?_|refine zyl 0 rfl ?_|refine zyf rfl ?_|refine zch ?_
 exact zei rfl ⟨rfl, rfl⟩
theorem clo_fFind (sh : Shared) (p : Nat) (P : Pl) (r : Int) (x0 : Int) (l : List Int) (a : Option Addr) (c : Nat) (hl : RdSl w0 sh encI 1 (.slice a l.length c) l) (hx0 : l[0]? = some x0) (s s' : Sp) (q : Int × Int) (hop : FnE PP w0 [] 97 [strV P r, spP p, .int .i64 x0] [SpaceA p s] (encI2 q) [SpaceA p s']) :
   FnE PP w0 sh 262 [onV p P r, .slice a l.length c] [SpaceA p s] (encI2 (q)) [SpaceA p s'] := by
 obtain ⟨b0, off0, c0, T0, fr0, rfl, e20, _, e40⟩ := hl.cells hx0
 have hlen : 0 < l.length := (List.getElem?_eq_some_iff.1 hx0).1
 refine zep en262 fn262 rfl rfl rfl ?_
 refine zyr ?_
 repeat' first|(refine zap rfl ?_;refine zaq (cs := [_, _, _, _, _]) rfl (fun tb => ?_))|refine zp ?_|refine zyn ?_
 refine zeb [1] rfl ?_
 repeat' first|refine zyq ?_|(refine zap rfl ?_;first|refine zad rfl (zyt e20) (e40 0 _ rfl _ (by omega)) ?_|refine zah [0] hop rfl rfl rfl zdj rfl ?_|refine zah [] (on_forest w0 p P r) rfl rfl rfl zdj rfl ?_|refine zas rfl rfl (by omega) ?_)|refine zp ?_|refine zyl 0 rfl ?_|refine zyf rfl ?_|refine zch ?_
 exact zei rfl ⟨rfl, rfl⟩
theorem clo_fUnion (sh : Shared) (p : Nat) (P : Pl) (r : Int) (x0 : Int) (x1 : Int) (l : List Int) (a : Option Addr) (c : Nat) (hl : RdSl w0 sh encI 1 (.slice a l.length c) l) (hx0 : l[0]? = some x0) (hx1 : l[1]? = some x1) (s s' : Sp) (b : Bool) (e : Int) (hop : FnE PP w0 [] 98 [strV P r, spP p, .int .i64 x0, .int .i64 x1] [SpaceA p s] (.tuple #[.bool b, .int .i64 e]) [SpaceA p s']) :
   FnE PP w0 sh 263 [onV p P r, .slice a l.length c] [SpaceA p s] (encI2 (if e = 0 ∧ b = true then (1, e) else (0, e))) [SpaceA p s'] := by
 obtain ⟨b0, off0, c0, T0, fr0, rfl, e20, _, e40⟩ := hl.cells hx0
 obtain ⟨b1, off1, c1, T1, fr1, hb1, e21, _, e41⟩ := hl.cells hx1
 cases hb1
 have hlen : 1 < l.length := (List.getElem?_eq_some_iff.1 hx1).1
 refine zep en263 fn263 rfl rfl rfl ?_
 refine zyr ?_
 repeat' first|(refine zap rfl ?_;refine zaq (cs := [_, _, _, _, _]) rfl (fun tb => ?_))|refine zp ?_|refine zyn ?_
 refine zeb [1] rfl ?_
 repeat' first|refine zyq ?_|(refine zap rfl ?_;first|refine zad rfl (zyt e20) (e40 0 _ rfl _ (by omega)) ?_|refine zad rfl (zyt e21) (e41 0 _ rfl _ (by omega)) ?_|refine zah [0] hop rfl rfl rfl zdj rfl ?_|refine zah [] (on_forest w0 p P r) rfl rfl rfl zdj rfl ?_|refine zah [] (truthE_spec w0 _ _) rfl rfl rfl zdj rfl ?_|refine zas rfl rfl (by omega) ?_)|refine zp ?_|refine zyl 0 rfl ?_|refine zyf rfl ?_|refine zch ?_
 exact zei rfl ⟨rfl, rfl⟩
theorem clo_fUndo (sh : Shared) (p : Nat) (P : Pl) (r : Int) (z : Value) (s s' : Sp) (b : Bool) (e : Int) (hop : FnE PP w0 [] 99 [strV P r, spP p] [SpaceA p s] (.tuple #[.bool b, .int .i64 e]) [SpaceA p s']) :
   FnE PP w0 sh 264 [onV p P r, z] [SpaceA p s] (encI2 (if e = 0 ∧ b = true then (1, e) else (0, e))) [SpaceA p s'] := by
 refine zep en264 fn264 rfl rfl rfl ?_
 refine zyr ?_
 repeat' first|(refine zap rfl ?_;refine zaq (cs := [_, _, _, _, _]) rfl (fun tb => ?_))|refine zp ?_|refine zyn ?_
 refine zeb [1] rfl ?_
 repeat' first|refine zyq ?_|(refine zap rfl ?_;first|refine zah [0] hop rfl rfl rfl zdj rfl ?_|refine zah [] (on_forest w0 p P r) rfl rfl rfl zdj rfl ?_|refine zah [] (truthE_spec w0 _ _) rfl rfl rfl zdj rfl ?_)|refine zp ?_|refine zyl 0 rfl ?_|refine zyf rfl ?_|refine zch ?_
 exact zei rfl ⟨rfl, rfl⟩
theorem clo_fSame (sh : Shared) (p : Nat) (P : Pl) (r : Int) (x0 : Int) (x1 : Int) (l : List Int) (a : Option Addr) (c : Nat) (hl : RdSl w0 sh encI 1 (.slice a l.length c) l) (hx0 : l[0]? = some x0) (hx1 : l[1]? = some x1) (s s' : Sp) (b : Bool) (e : Int) (hop : FnE PP w0 [] 100 [strV P r, spP p, .int .i64 x0, .int .i64 x1] [SpaceA p s] (.tuple #[.bool b, .int .i64 e]) [SpaceA p s']) :
   FnE PP w0 sh 265 [onV p P r, .slice a l.length c] [SpaceA p s] (encI2 (if e = 0 ∧ b = true then (1, e) else (0, e))) [SpaceA p s'] := by
 obtain ⟨b0, off0, c0, T0, fr0, rfl, e20, _, e40⟩ := hl.cells hx0
 obtain ⟨b1, off1, c1, T1, fr1, hb1, e21, _, e41⟩ := hl.cells hx1
 cases hb1
 have hlen : 1 < l.length := (List.getElem?_eq_some_iff.1 hx1).1
 refine zep en265 fn265 rfl rfl rfl ?_
 refine zyr ?_
 repeat' first|(refine zap rfl ?_;refine zaq (cs := [_, _, _, _, _]) rfl (fun tb => ?_))|refine zp ?_|refine zyn ?_
 refine zeb [1] rfl ?_
 repeat' first|refine zyq ?_|(refine zap rfl ?_;first|refine zad rfl (zyt e20) (e40 0 _ rfl _ (by omega)) ?_|refine zad rfl (zyt e21) (e41 0 _ rfl _ (by omega)) ?_|refine zah [0] hop rfl rfl rfl zdj rfl ?_|refine zah [] (on_forest w0 p P r) rfl rfl rfl zdj rfl ?_|refine zah [] (truthE_spec w0 _ _) rfl rfl rfl zdj rfl ?_|refine zas rfl rfl (by omega) ?_)|refine zp ?_|refine zyl 0 rfl ?_|refine zyf rfl ?_|refine zch ?_
 exact zei rfl ⟨rfl, rfl⟩
theorem clo_fSize (sh : Shared) (p : Nat) (P : Pl) (r : Int) (x0 : Int) (l : List Int) (a : Option Addr) (c : Nat) (hl : RdSl w0 sh encI 1 (.slice a l.length c) l) (hx0 : l[0]? = some x0) (s s' : Sp) (q : Int × Int) (hop : FnE PP w0 [] 101 [strV P r, spP p, .int .i64 x0] [SpaceA p s] (encI2 q) [SpaceA p s']) :
   FnE PP w0 sh 266 [onV p P r, .slice a l.length c] [SpaceA p s] (encI2 (q)) [SpaceA p s'] := by
 obtain ⟨b0, off0, c0, T0, fr0, rfl, e20, _, e40⟩ := hl.cells hx0
 have hlen : 0 < l.length := (List.getElem?_eq_some_iff.1 hx0).1
 refine zep en266 fn266 rfl rfl rfl ?_
 refine zyr ?_
 repeat' first|(refine zap rfl ?_;refine zaq (cs := [_, _, _, _, _]) rfl (fun tb => ?_))|refine zp ?_|refine zyn ?_
 refine zeb [1] rfl ?_
 repeat' first|refine zyq ?_|(refine zap rfl ?_;first|refine zad rfl (zyt e20) (e40 0 _ rfl _ (by omega)) ?_|refine zah [0] hop rfl rfl rfl zdj rfl ?_|refine zah [] (on_forest w0 p P r) rfl rfl rfl zdj rfl ?_|refine zas rfl rfl (by omega) ?_)|refine zp ?_|refine zyl 0 rfl ?_|refine zyf rfl ?_|refine zch ?_
 exact zei rfl ⟨rfl, rfl⟩
theorem clo_fSets (sh : Shared) (p : Nat) (P : Pl) (r : Int) (z : Value) (s s' : Sp) (v : Int) (hop : FnE PP w0 [] 102 [strV P r, spP p] [SpaceA p s] (.int .i64 v) [SpaceA p s']) :
   FnE PP w0 sh 267 [onV p P r, z] [SpaceA p s] (encI2 ((v, 0))) [SpaceA p s'] := by
 refine zep en267 fn267 rfl rfl rfl ?_
 refine zyr ?_
 repeat' first|(refine zap rfl ?_;refine zaq (cs := [_, _, _, _, _]) rfl (fun tb => ?_))|refine zp ?_|refine zyn ?_
 refine zeb [1] rfl ?_
 repeat' first|refine zyq ?_|(refine zap rfl ?_;first|refine zah [0] hop rfl rfl rfl zdj rfl ?_|refine zah [] (on_forest w0 p P r) rfl rfl rfl zdj rfl ?_|refine zah [] (plain_spec w0 _) rfl rfl rfl zdj rfl ?_)|refine zp ?_|refine zyl 0 rfl ?_|refine zyf rfl ?_|refine zch ?_
 exact zei rfl ⟨rfl, rfl⟩
theorem doE (sh : Shared) (p : Nat) (P : Pl) (k r : Int) (name : ByteArray) (a : Option Addr) (len c : Nat) (m : MRow) (hm : ((msK k).find? fun m => decide (m.1.1 = name)) = some m) (hk : ctName k ≠ bs []) (ha : m.1.2.1 = (len : Int)) (s s' : Sp) (q : Int × Int)
   (hf : FnE PP w0 sh m.2 [onV p P r, .slice a len c] [SpaceA p s] (encI2 q) [SpaceA p s']) :
   FnE PP w0 sh 13 [spP p, poolV P, .agg (List.toArray [.int .i64 k, .int .i64 r]), .string name, .slice a len c] [SpaceA p s] (encI2 (if q.2 ≠ 0 then 0 else q.1, q.2)) [SpaceA p s'] := by
 obtain ⟨v, e⟩ := q
 have hfm := findM_spec w0 k name
 rw [hm] at hfm
 unfold findMV at hfm
 have hnm := name_spec w0 k
 obtain ⟨⟨mn, ma, mw⟩, mf⟩ := m
 dsimp only at ha hf hfm
 subst ha
 have hfm : FnE PP w0 [] 31 [.int .i64 k, .string name] [] (.tuple #[.agg (List.toArray [.string mn, .int .i64 (len : Int), .bool mw, .func (.func mf) #[] #[]]), .bool true]) [] := hfm
 refine zep en13 fn13 rfl rfl rfl ?_
 refine zyr ?_
 repeat' first|(refine zap rfl ?_;first|refine zaq (cs := [_, _, _]) rfl (fun t6 => ?_)|refine zaq (cs := [_, _]) rfl (fun t7 => ?_))|refine zp ?_|refine zyn ?_
 refine zeb [1] rfl ?_
 refine zeb [1] rfl ?_
 refine zyr ?_
 repeat' first|(refine zap rfl ?_;first|refine zdr rfl rfl hk ?_|refine zah [] hnm rfl rfl rfl zdj rfl ?_)|refine zyl 0 rfl ?_|refine zyf rfl ?_|refine zyn ?_
 refine zcj rfl ?_
 refine zyr ?_
 repeat' first|(refine zap rfl ?_;first|refine zar (fun t12 => ?_)|refine zah [] hfm rfl rfl rfl zdj rfl ?_|refine zae 1 rfl rfl rfl rfl rfl rfl rfl ?_)|refine zp ?_|refine zyl 0 rfl ?_|refine zyf rfl ?_|refine zyn ?_
 refine zeb [1] rfl ?_
 repeat (first|refine zck ?_|refine zcl ?_|refine zcm ?_|refine zcn ?_|refine zco ?_)
 refine zyr ?_
 repeat' first|(refine zap rfl ?_;refine zbx rfl ?_)|refine zp ?_|refine zyn ?_
 refine zcj rfl ?_
 refine zyr ?_
 repeat' first|(refine zap rfl ?_;first|refine zce rfl ?_|refine zbf rfl rfl (by omega) ?_)|refine zp ?_|refine zyl 0 rfl ?_|refine zyf rfl ?_|refine zyn ?_
 refine zcj rfl ?_
 refine zyr ?_
 repeat' first|(refine zap rfl ?_;first|refine zcb rfl ?_|refine zah [0] hf rfl rfl rfl (fun p hp => .tail _ (.tail _ (.tail _ hp))) rfl ?_)|refine zp ?_|refine zyl 0 rfl ?_|refine zyl 1 rfl ?_|refine zyl 2 rfl ?_|refine zyf rfl ?_|refine zyn ?_
 by_cases he : e = 0
 · subst he
   refine zyr ?_
   repeat' first|(refine zap rfl ?_;refine zbf rfl rfl (by omega) ?_)|refine zp ?_|refine zyn ?_
   refine zcj rfl ?_
   repeat' first|refine zck ?_|refine zcm ?_|refine zyq ?_|refine zp ?_|refine zch ?_
   exact zei rfl ⟨rfl, rfl⟩
 · repeat (first|refine zck ?_|refine zcl ?_|refine zcm ?_|refine zcn ?_)
   refine zyr ?_
   repeat' first|(refine zap rfl ?_;refine zbe rfl rfl (by omega) ?_)|refine zp ?_|refine zyn ?_
   refine zci rfl ?_
   repeat' first|refine zck ?_|refine zyq ?_|refine zp ?_|refine zch ?_
   refine zei rfl ⟨?_, rfl⟩
   show encI2 (0, e) = encI2 (if e ≠ 0 then 0 else v, e)
   rw [if_pos he]
def cnt : Nat → List Nat → Nat
 | 0, _ => 0
 | n + 1, s => cnt n s + if n ∈ s then 0 else 1
theorem cnt_more (q : Nat) (s : List Nat) (hs : q ∉ s) : ∀ n, (n ≤ q → cnt n (s ++ [q]) = cnt n s) ∧ (q < n → cnt n (s ++ [q]) + 1 = cnt n s)
 | 0 => ⟨fun _ => rfl, fun h => absurd h (by omega)⟩
 | n + 1 => by
   obtain ⟨h1, h2⟩ := cnt_more q s hs n
   simp only [cnt]
   refine ⟨fun h => ?_, fun h => ?_⟩
   · have hne : n ≠ q := by omega
     rw [h1 (by omega)]; simp [hne]
   · by_cases e : q = n
     · subst e; rw [h1 (Nat.le_refl _)]; simp [hs]
     · have := h2 (by omega)
       have e2 : (n ∈ s ++ [q]) = (n ∈ s) := by simp; intro h; omega
       simp only [e2]; omega
theorem new_spec (kb : Nat) (kn : List (Int × Wd)) (hkn : ∀ (q : Nat) a w, kn[q]? = some (a, w) → lookW kn a = some w ∧ w.ref = 0) :
   Vc.Fn PP w0 [] 29 [.map (some kb)] [pt kb (mapI (knM kn))]
     (fun v Γ => ∃ p kn', v = spP p ∧ Γ = [SpaceA p ⟨kn', [], [], 0, false⟩] ∧ ∀ a, lookW kn' a = lookW kn a) := by
 refine zep en29 fn29 rfl rfl rfl ?_
 refine zyr ?_
 repeat' refine zp ?_
 all_goals refine zyn ?_
 refine zyr ?_
 repeat' first|(refine zap rfl ?_;first|refine zaq (cs := [_, _, _, _, _]) rfl (fun nb => ?_)|refine zcc (fun nb => ?_)|refine zcb rfl ?_)|refine zp ?_|refine zyn ?_
 rename_i m1 m2
 revert nb; intro p
 refine run_share_keep [3] rfl ?_
 refine zyr ?_
 repeat' first|(refine zap rfl ?_;refine reg_range 0 rfl rfl (fun nb => ?_))|refine zp ?_|refine zyn ?_
 revert nb; intro it
 refine run_loop (S := List (Int × Wd) × List Nat) (fun _ => [(3, spP p), (11, .pointer (some ⟨it, 0, none⟩))])
   (fun st Γ => Γ = [pt kb (mapI (knM kn)), pt m1 (mapI (knM st.1)), pt m2 (mapI []), pt it (iterI kb (knM kn).length st.2 (knM kn).length)] ∧ (∀ q ∈ st.2, ∀ a w, kn[q]? = some (a, w) → lookW st.1 a = some w) ∧ (∀ a w, lookW st.1 a = some w → lookW kn a = some w))
   (fun st => cnt kn.length st.2) ([], []) ⟨rfl, rfl, trivial⟩ ⟨rfl, by simp, by simp [lookW]⟩ ?_
 rintro ⟨kn', seen⟩ Γ junk ⟨rfl, h1, h2⟩
 dsimp only at h1 h2 ⊢
 repeat (first|refine zck ?_|refine zcl ?_|refine zcm ?_|refine zcn ?_|refine zco ?_)
 refine zcp (by kernel_rfl) ?_
 refine zap rfl ?_
 refine reg_next 3 0 rfl rfl (pt_know 0 rfl) rfl (fun _ => rfl) (fun hall => ?_) (fun q e hq hns => ?_)
 · repeat' first|refine zck ?_|refine zp ?_|refine zch ?_|refine zcj rfl ?_
   refine zer rfl rfl ?_
   repeat' first|refine zck ?_|refine zyq ?_|refine zp ?_|refine zch ?_
   refine run_nilslice 247 2 ?_
   refine zeg (zek (ends_close1 (A := SpaceA p ⟨kn', [], [], 0, false⟩) [5, 1, 1, 2] rfl (fun _ h => ⟨(m1, m2, none, 0), h⟩) (zem rfl rfl ⟨rfl, p, kn', rfl, rfl, fun a => ?_⟩)))
   cases hk : lookW kn a with
   | none =>
     cases hk' : lookW kn' a with
     | none => rfl
     | some w => have := h2 a w hk'; rw [hk] at this; cases this
   | some w =>
     obtain ⟨q, hq⟩ := lookW_mem kn a w hk
     have hql := (List.getElem?_eq_some_iff.1 hq).1
     exact h1 q (hall q (by rw [knM_length]; exact hql)) a w hq
 · rw [knM_get] at hq
   obtain ⟨⟨a, w⟩, hq2, rfl⟩ : ∃ aw, kn[q]? = some aw ∧ e = (aw.1, wordV aw.2) := by
     cases h : kn[q]? with
     | none => rw [h] at hq; cases hq
     | some aw => rw [h] at hq; exact ⟨aw, rfl, (Option.some.inj hq).symm⟩
   obtain ⟨hk1, hk2⟩ := hkn q a w hq2
   have hql := (List.getElem?_eq_some_iff.1 hq2).1
   have hq3 : (knM kn)[q]? = some (a, wordV w) := by rw [knM_get, hq2]; rfl
   repeat' refine zp ?_
   refine zch ?_
   repeat (first|refine zck ?_|refine zcl ?_|refine zcm ?_|refine zcn ?_|refine zco ?_)
   refine zci rfl ?_
   repeat (first|refine zck ?_|refine zcl ?_|refine zcm ?_|refine zcn ?_|refine zco ?_)
   refine zyr ?_
   repeat' first|(refine zap rfl ?_;first|refine reg_entry 3 rfl rfl (pt_know 0 rfl) hq3 ?_|refine zae 4 rfl rfl rfl rfl rfl rfl rfl ?_|refine zar (fun nb => ?_))|refine zp ?_|refine zyn ?_
   refine zeb [4] rfl ?_
   refine zyr ?_
   repeat' first|(refine zap rfl ?_;refine zbo rfl rfl ?_)|refine zyl 0 rfl ?_|refine zyf rfl ?_|refine zyn ?_
   refine zci (bool_eq (decide_eq_true hk2)) ?_
   repeat' first|refine zcn ?_|refine zyq ?_|(refine zap rfl ?_;refine reg_mapUpdate 1 rfl rfl rfl rfl rfl ?_)|refine zp ?_|refine zyl 0 rfl ?_|refine zyl 1 rfl ?_|refine zyf rfl ?_|refine zch ?_
   refine zeq ⟨rfl, (insW kn' a w, seen ++ [q]), ⟨rfl, rfl, trivial⟩, ⟨?_, ?_, ?_⟩, ?_⟩
   · show _ = [_, pt m1 (mapI (knM (insW kn' a w))), _, _]
     rw [← ins_knM]; rfl
   · intro q' hq' a' w' h
     rw [look_insW]
     rcases List.mem_append.1 hq' with hq' | hq'
     · have := h1 q' hq' a' w' h
       by_cases e : a = a'
       · subst e; rw [if_pos rfl]
         have := (hkn q' a w' h).1
         rw [hk1] at this; exact this
       · rw [if_neg e]; exact this
     · simp at hq'; subst hq'
       rw [hq2] at h; cases h; rw [if_pos rfl]
   · intro a' w' h
     rw [look_insW] at h
     by_cases e : a = a'
     · subst e; rw [if_pos rfl] at h; cases h; exact hk1
     · rw [if_neg e] at h; exact h2 a' w' h
   · have := (cnt_more q seen hns kn.length).2 hql
     dsimp only; omega
end Go.Proofs.YtgdhcgnmffgkiaaGreatDoor
namespace Sim
open Go Go.Vc
theorem wk0_hkn (n : Nat) : ∀ (q : Nat) a w, (wk 0 (List.replicate n 0))[q]? = some (a, w) → lookW (wk 0 (List.replicate n 0)) a = some w ∧ w.ref = 0 := by
 intro q a w h
 rw [wk_get] at h
 by_cases hq : q < n
 · have e : (List.replicate n (0 : Int))[q]? = some 0 := by rw [List.getElem?_replicate, if_pos hq]
   rw [e] at h
   simp only [Option.map_some, Option.some.injEq, Prod.mk.injEq] at h
   obtain ⟨rfl, rfl⟩ := h
   rw [lookW_wk, if_pos (by rw [List.length_replicate]; omega)]
   have e2 : (((0 + q : Nat) : Int) - ((0 : Nat) : Int)).toNat = q := by omega
   rw [e2, e]
   exact ⟨rfl, rfl⟩
 · have e : (List.replicate n (0 : Int))[q]? = none := by rw [List.getElem?_replicate, if_neg hq]
   rw [e] at h
   cases h
def rootA (k : Int) : Bool → Int
 | false => 8 + 8 * k
 | true => 8 + 8 * k + 80
theorem wk_rep0 (i : Nat) : wk 0 (List.replicate (i + 1) 0) = wk 0 (List.replicate i 0) ++ [((i : Int), ⟨0, 0, 0⟩)] := by
 rw [List.replicate_succ', wk_snoc, List.length_replicate, Nat.zero_add]
def awPrev : Nat → Sp
 | 0 => awS
 | n + 1 => (awR n).2
theorem awR_eq : ∀ n, awR n = Pg.run (doP (awG n)) (awPrev n)
 | 0 => rfl
 | _ + 1 => rfl
theorem aw_at {n : Nat} (hn : n < 8) : awV[n]? = some (awR n).1 ∧ (awR n).2.puts.length ≤ 1000 := by
 have h := List.all_eq_true.1 aw_all n (List.mem_range.2 hn)
 rw [Bool.and_eq_true, decide_eq_true_eq, decide_eq_true_eq] at h
 exact h
theorem awPrev_len {n : Nat} (hn : n < 8) : (awPrev n).puts.length ≤ 1000 := by
 cases n with
 | zero => exact Nat.zero_le _
 | succ n => exact (aw_at (by omega)).2
theorem bd_awG : ∀ n, Pg.Bd 65 (awG n)
 | 0 => (bd_mPut _ _ _).mono (by decide)
 | 1 => (bd_mPut _ _ _).mono (by decide)
 | 2 => (Qu.bd_take _ _).mono (by decide)
 | 3 => (bd_mLen _).mono (by decide)
 | 4 => (Qu.bd_first _).mono (by decide)
 | 5 => bd_mtPut _ _ _
 | 6 => (bd_mtHas _ _).mono (by decide)
 | _ + 7 => (bd_mtGet _ _).mono (by decide)
end Sim
namespace Go.Proofs.YtgdhcgnmffgkiaaGreatDoor
variable (w0 : World)
open Go.Vc Sim
set_option maxHeartbeats 4000000
theorem aw_step (sh : Shared) (f : FuncId) (args : List Value) (p n : Nat) (hn : n < 8) (r : Int × Int) (hr : awV[n]? = some r) (spec : FnG w0 sh f args p (doP (awG n)) encI2) (s : Sp) (hs : Eqv s (awPrev n)) :
   Vc.Fn PP w0 sh f args [SpaceA p s] (fun v Γ => v = encI2 r ∧ ∃ s', Γ = [SpaceA p s'] ∧ Eqv s' (awPrev (n + 1))) := by
 have hl : s.puts.length ≤ 1000 := by rw [hs.puts]; exact awPrev_len hn
 have hF := Pg.fits_of (doP (awG n)) 65 s (bd_doP (bd_awG n)) (by omega)
 obtain ⟨h1, h2⟩ := Pg.run_eqv (doP (awG n)) hs
 rw [← awR_eq] at h1 h2
 have h3 := (aw_at hn).1
 rw [hr] at h3
 cases h3
 refine (spec s hF).mono ?_
 rintro v Γ ⟨rfl, rfl⟩
 exact ⟨by rw [h1], _, rfl, h2⟩
theorem empty_spec : Vc.Fn PP w0 [] 9 [] [] (fun v Γ => ∃ p s, v = spP p ∧ Γ = [SpaceA p s] ∧ Eqv s awS) := by
 have hnew := fun kb => new_spec w0 kb (wk 0 (List.replicate 440 0)) (wk0_hkn 440)
 refine zep en9 fn9 rfl rfl rfl ?_
 refine zyr ?_
 repeat' refine zp ?_
 all_goals refine zyn ?_
 refine zyr ?_
 repeat' first|(refine zap rfl ?_;refine zcc (fun nb => ?_))|refine zp ?_|refine zyn ?_
 refine zyr ?_
 repeat' refine zp ?_
 all_goals refine zyn ?_
 refine run_loop (S := Nat) (fun i => [(1, .map (some nb)), (2, .int .i64 (i : Int))])
   (fun i Γ => Γ = [pt nb (mapI (knM (wk 0 (List.replicate i 0))))] ∧ i ≤ 440) (fun i => 440 - i) 0 ⟨rfl, rfl, trivial⟩ ⟨rfl, Nat.zero_le _⟩ ?_
 rintro i Γ junk ⟨rfl, hi⟩
 by_cases hlt : i < 440
 · have hnone : lookW (wk 0 (List.replicate i 0)) (i : Int) = none := by rw [lookW_wk, if_neg]; simp
   have hins : ins (knM (wk 0 (List.replicate i 0))) (i : Int) (wordV ⟨0, 0, 0⟩) = knM (wk 0 (List.replicate (i + 1) 0)) := by
     rw [ins_knM, insW_none _ _ _ hnone, wk_rep0]
   repeat' first|refine zck ?_|refine zcm ?_|refine zcl ?_|refine zcn ?_|refine zyq ?_|(refine zap rfl ?_;first|refine zcb rfl ?_|refine reg_mapUpdate 0 rfl rfl rfl rfl rfl ?_|refine zbg rfl rfl (by omega) ?_|refine zau rfl rfl (by omega) ?_)|refine zp ?_|refine zch ?_|refine zci rfl ?_
   refine zeq ⟨rfl, i + 1, ⟨rfl, zes (by omega), trivial⟩, ⟨?_, hlt⟩, by omega⟩
   rw [← hins]; rfl
 · have e : i = 440 := by omega
   subst e
   refine zyr ?_
   repeat' first|(refine zap rfl ?_;refine zbh rfl rfl (by omega) ?_)|refine zp ?_|refine zyn ?_
   refine zcj rfl ?_
   refine zer rfl rfl ?_
   repeat' first|refine zck ?_|refine zyq ?_|(refine zap rfl ?_; (refine zai [0] (hnew _) rfl rfl rfl zdj ?_; rintro v Γ ⟨p, kn, rfl, rfl, hkn⟩))|refine zp ?_|refine zch ?_
   exact zej rfl ⟨p, _, rfl, rfl, hkn, rfl, rfl, rfl, rfl⟩
theorem zez : FnE PP w0 [] 14 [] [] (poolV awP) [] := by
 refine zep en14 fn14 rfl rfl rfl ?_
 refine zyr ?_
 repeat' (refine zap rfl ?_;refine zar (fun t0 => ?_))
 all_goals refine zyn ?_
 repeat' first|refine zyq ?_|(refine zap rfl ?_;first|refine zcb rfl ?_|refine zae 0 rfl rfl rfl rfl rfl rfl rfl ?_)|refine zch ?_
 exact zeg (zek (zel [] rfl (zem rfl (zeo 0 rfl rfl rfl) ⟨rfl, rfl, rfl⟩)))
theorem root_spec (k : Int) (b : Bool) (hk : 0 ≤ k ∧ k ≤ 9) : FnE PP w0 [] 11 [.int .i64 k, .bool b] [] (.agg (List.toArray [.int .i64 k, .int .i64 (rootA k b)])) [] := by
 cases b with
 | false =>
   refine zep en11 fn11 rfl rfl rfl ?_
   refine zyr ?_
   repeat' (refine zap rfl ?_;refine zar (fun t0 => ?_))
   all_goals refine zyn ?_
   repeat' first|refine zck ?_|refine zcm ?_|refine zyq ?_|(refine zap rfl ?_;first|refine zcb rfl ?_|refine zau rfl rfl (by omega) ?_|refine zaw rfl rfl (by omega) ?_|refine zae 0 rfl rfl rfl rfl rfl rfl rfl ?_)|refine zp ?_|refine zch ?_|refine zcj rfl ?_
   exact zeg (zek (zel [] rfl (zem rfl (zeo 0 rfl rfl rfl) ⟨rfl, rfl, rfl⟩)))
 | true =>
   refine zep en11 fn11 rfl rfl rfl ?_
   refine zyr ?_
   repeat' (refine zap rfl ?_;refine zar (fun t0 => ?_))
   all_goals refine zyn ?_
   repeat' first|refine zck ?_|refine zyq ?_|(refine zap rfl ?_;first|refine zcb rfl ?_|refine zau rfl rfl (by omega) ?_|refine zaw rfl rfl (by omega) ?_|refine zae 0 rfl rfl rfl rfl rfl rfl rfl ?_)|refine zp ?_|refine zch ?_|refine zci rfl ?_
   exact zeg (zek (zel [] rfl (zem rfl (zeo 0 rfl rfl rfl) ⟨rfl, rfl, rfl⟩)))
theorem intRd (nb : Nat) (l : List Int) : RdSl w0 [(nb, .cells (List.toArray (l.flatMap encI)) 2 (0, 0))] encI 1 (.slice (some ⟨nb, 0, none⟩) l.length l.length) l :=
 RdSl.flat (encE := encI) (q := 1) (w0 := w0) (b := nb) (l := l) (fun _ _ => rfl) (.head _)
theorem aw_own (p nb n : Nat) (k r : Int) (name : ByteArray) (l : List Int) (hn : n < 8) (q : Int × Int) (hr : awV[n]? = some q)
   (spec : FnG w0 [(nb, .cells (List.toArray (l.flatMap encI)) 2 (0, 0))] 13 [spP p, poolV awP, .agg (List.toArray [.int .i64 k, .int .i64 r]), .string name, .slice (some ⟨nb, 0, none⟩) l.length l.length] p (doP (awG n)) encI2) (s : Sp) (hs : Eqv s (awPrev n)) :
   Vc.Fn PP w0 [] 13 [spP p, poolV awP, .agg (List.toArray [.int .i64 k, .int .i64 r]), .string name, .slice (some ⟨nb, 0, none⟩) l.length l.length] [pt nb (.cells (List.toArray (l.flatMap encI)) 2 (0, 0)), SpaceA p s]
     (fun v Γ => v = encI2 q ∧ ∃ s', Γ = [SpaceA p s', pt nb (.cells (List.toArray (l.flatMap encI)) 2 (0, 0))] ∧ Eqv s' (awPrev (n + 1))) := by
 refine (aw_step w0 _ _ _ p n hn q hr spec s hs).owned.mono ?_
 rintro v Γ ⟨_, ⟨rfl, s', rfl, h⟩, rfl⟩
 exact ⟨rfl, s', rfl, h⟩
abbrev AwO (w0 : World) (p nb n : Nat) (k r : Int) (name : ByteArray) (l : List Int) (q : Int × Int) (s : Sp) : Prop :=
 Vc.Fn PP w0 [] 13 [spP p, poolV awP, .agg (List.toArray [.int .i64 k, .int .i64 r]), .string name, .slice (some ⟨nb, 0, none⟩) l.length l.length] [pt nb (.cells (List.toArray (l.flatMap encI)) 2 (0, 0)), SpaceA p s]
     (fun v Γ => v = encI2 q ∧ ∃ s', Γ = [SpaceA p s', pt nb (.cells (List.toArray (l.flatMap encI)) 2 (0, 0))] ∧ Eqv s' (awPrev (n + 1)))
abbrev AwN (w0 : World) (p n : Nat) (k r : Int) (name : ByteArray) (q : Int × Int) (s : Sp) : Prop :=
 Vc.Fn PP w0 [] 13 [spP p, poolV awP, .agg (List.toArray [.int .i64 k, .int .i64 r]), .string name, .slice none 0 0] [SpaceA p s] (fun v Γ => v = encI2 q ∧ ∃ s', Γ = [SpaceA p s'] ∧ Eqv s' (awPrev (n + 1)))
def nmPut : ByteArray := bs [112, 117, 116]
def nmTake : ByteArray := bs [116, 97, 107, 101]
def nmLen : ByteArray := bs [108, 101, 110]
def nmFirst : ByteArray := bs [102, 105, 114, 115, 116]
def nmHas : ByteArray := bs [104, 97, 115]
def nmGet : ByteArray := bs [103, 101, 116]
theorem aw0_spec (p nb : Nat) (s : Sp) (hs : Eqv s (awPrev 0)) : AwO w0 p nb 0 2 24 nmPut [5] (0, 0) s := aw_own w0 p nb 0 2 24 nmPut [5] (by decide) (0, 0) rfl
 (doG w0 _ p awP 2 24 nmPut (some ⟨nb, 0, none⟩) 1 1 ((nmPut, 1, true), 203) (by kernel_rfl) (by decide +kernel) rfl _ (qPutG w0 _ p awP awP_ok 24 5 [5] _ _ (intRd w0 nb [5]) rfl)) s hs
theorem aw1_spec (p nb : Nat) (s : Sp) (hs : Eqv s (awPrev 1)) : AwO w0 p nb 1 2 24 nmPut [6] (0, 0) s := aw_own w0 p nb 1 2 24 nmPut [6] (by decide) (0, 0) rfl
 (doG w0 _ p awP 2 24 nmPut (some ⟨nb, 0, none⟩) 1 1 ((nmPut, 1, true), 203) (by kernel_rfl) (by decide +kernel) rfl _ (qPutG w0 _ p awP awP_ok 24 6 [6] _ _ (intRd w0 nb [6]) rfl)) s hs
theorem aw2_spec (p : Nat) (s : Sp) (hs : Eqv s (awPrev 2)) : AwN w0 p 2 2 24 nmTake (5, 0) s := aw_step w0 [] _ _ p 2 (by decide) (5, 0) rfl
 (doG w0 [] p awP 2 24 nmTake none 0 0 ((nmTake, 0, true), 204) (by kernel_rfl) (by decide +kernel) rfl _ (qTakeG w0 [] p awP awP_ok 24 _)) s hs
theorem aw3_spec (p : Nat) (s : Sp) (hs : Eqv s (awPrev 3)) : AwN w0 p 3 2 24 nmLen (1, 0) s := aw_step w0 [] _ _ p 3 (by decide) (1, 0) rfl
 (doG w0 [] p awP 2 24 nmLen none 0 0 ((nmLen, 0, false), 206) (by kernel_rfl) (by decide +kernel) rfl _ (qLenG w0 [] p awP 24 _)) s hs
theorem aw4_spec (p : Nat) (s : Sp) (hs : Eqv s (awPrev 4)) : AwN w0 p 4 2 24 nmFirst (6, 0) s := aw_step w0 [] _ _ p 4 (by decide) (6, 0) rfl
 (doG w0 [] p awP 2 24 nmFirst none 0 0 ((nmFirst, 0, false), 205) (by kernel_rfl) (by decide +kernel) rfl _ (qFirstG w0 [] p awP 24 _)) s hs
theorem aw5_spec (p nb : Nat) (s : Sp) (hs : Eqv s (awPrev 5)) : AwO w0 p nb 5 4 40 nmPut [1, 7] (0, 0) s := aw_own w0 p nb 5 4 40 nmPut [1, 7] (by decide) (0, 0) rfl
 (doG w0 _ p awP 4 40 nmPut (some ⟨nb, 0, none⟩) 2 2 ((nmPut, 2, true), 221) (by kernel_rfl) (by decide +kernel) rfl _ (tPutG w0 _ p awP 40 awT_ok 1 7 [1, 7] _ _ (intRd w0 nb [1, 7]) rfl rfl)) s hs
theorem aw6_spec (p nb : Nat) (s : Sp) (hs : Eqv s (awPrev 6)) : AwO w0 p nb 6 4 40 nmHas [1] (1, 0) s := aw_own w0 p nb 6 4 40 nmHas [1] (by decide) (1, 0) rfl
 (doG w0 _ p awP 4 40 nmHas (some ⟨nb, 0, none⟩) 1 1 ((nmHas, 1, false), 225) (by kernel_rfl) (by decide +kernel) rfl _ (tHasG w0 _ p awP 40 awT_ok 1 [1] _ _ (intRd w0 nb [1]) rfl)) s hs
theorem aw7_spec (p nb : Nat) (s : Sp) (hs : Eqv s (awPrev 7)) : AwO w0 p nb 7 4 40 nmGet [2] (0, 10) s := aw_own w0 p nb 7 4 40 nmGet [2] (by decide) (0, 10) rfl
 (doG w0 _ p awP 4 40 nmGet (some ⟨nb, 0, none⟩) 1 1 ((nmGet, 1, false), 223) (by kernel_rfl) (by decide +kernel) rfl _ (tGetG w0 _ p awP 40 awT_ok 2 [2] _ _ (intRd w0 nb [2]) rfl)) s hs
end Go.Proofs.YtgdhcgnmffgkiaaGreatDoor
