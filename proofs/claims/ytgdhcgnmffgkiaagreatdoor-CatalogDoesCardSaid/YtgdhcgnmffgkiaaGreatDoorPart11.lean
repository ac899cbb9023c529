import Derived.Test.YtgdhcgnmffgkiaaGreatDoorPart8
/- Own work: lemmas of this claim. -/
namespace Go.Proofs.YtgdhcgnmffgkiaaGreatDoor
variable (w0 : World)
open Go.Vc Sim
set_option maxHeartbeats 4000000
theorem dir_cGet (p : Nat) (r : Int) (x0 : Int) (s s' : Sp) (v : Int) (hop : FnE PP w0 [] 43 [spP p, .int .i64 r] [SpaceA p s] (.int .i64 v) [SpaceA p s']) :
   FnE PP w0 [] 32 [spP p, rootV 0 r, .string (bs [103, 101, 116]), .int .i64 x0] [SpaceA p s] (encI2 ((v, 0))) [SpaceA p s'] := by
 refine zep en32 fn32 rfl rfl rfl ?_
 refine zyr ?_
 repeat' first|(refine zap rfl ?_;refine zaq (cs := [_, _]) rfl (fun tb => ?_))|refine zp ?_|refine zyn ?_
 refine zeb [1] rfl ?_
 refine zyr ?_
 repeat' (refine zap rfl ?_;first|refine zar (fun tp => ?_)|refine zah [] (zez w0) rfl rfl rfl zdj rfl ?_|refine zae 1 rfl rfl rfl rfl rfl rfl rfl ?_)
 all_goals refine zyn ?_
 refine zeb [1] rfl ?_
 repeat' first|refine zck ?_|refine zcl ?_|refine zyq ?_|(refine zap rfl ?_;first|refine zds rfl rfl (by decide +kernel) ?_|refine zdr rfl rfl (by decide +kernel) ?_|refine zah [0] hop rfl rfl rfl zdj rfl ?_|refine zbc rfl rfl (by omega) ?_)|refine zp ?_|refine zyl 1 rfl ?_|refine zyf rfl ?_|refine zch ?_|refine zci rfl ?_
 exact zei rfl ⟨rfl, rfl⟩
theorem dir_cAdd (p : Nat) (r : Int) (x0 : Int) (s s' : Sp) (q : Int × Int) (hop : FnE PP w0 [] 44 [spP p, .int .i64 r, .int .i64 x0] [SpaceA p s] (encI2 q) [SpaceA p s']) :
   FnE PP w0 [] 32 [spP p, rootV 0 r, .string (bs [97, 100, 100]), .int .i64 x0] [SpaceA p s] (encI2 (q)) [SpaceA p s'] := by
 refine zep en32 fn32 rfl rfl rfl ?_
 refine zyr ?_
 repeat' first|(refine zap rfl ?_;refine zaq (cs := [_, _]) rfl (fun tb => ?_))|refine zp ?_|refine zyn ?_
 refine zeb [1] rfl ?_
 refine zyr ?_
 repeat' (refine zap rfl ?_;first|refine zar (fun tp => ?_)|refine zah [] (zez w0) rfl rfl rfl zdj rfl ?_|refine zae 1 rfl rfl rfl rfl rfl rfl rfl ?_)
 all_goals refine zyn ?_
 refine zeb [1] rfl ?_
 repeat' first|refine zck ?_|refine zcl ?_|refine zyq ?_|(refine zap rfl ?_;first|refine zds rfl rfl (by decide +kernel) ?_|refine zdr rfl rfl (by decide +kernel) ?_|refine zah [0] hop rfl rfl rfl zdj rfl ?_|refine zbc rfl rfl (by omega) ?_)|refine zp ?_|refine zyl 1 rfl ?_|refine zyf rfl ?_|refine zch ?_|refine zci rfl ?_|refine zcj rfl ?_
 exact zei rfl ⟨rfl, rfl⟩
theorem dir_cSet (p : Nat) (r : Int) (x0 : Int) (s s' : Sp) (v : Int) (hop : FnE PP w0 [] 45 [spP p, .int .i64 r, .int .i64 x0] [SpaceA p s] (.int .i64 v) [SpaceA p s']) :
   FnE PP w0 [] 32 [spP p, rootV 0 r, .string (bs [115, 101, 116]), .int .i64 x0] [SpaceA p s] (encI2 ((v, 0))) [SpaceA p s'] := by
 refine zep en32 fn32 rfl rfl rfl ?_
 refine zyr ?_
 repeat' first|(refine zap rfl ?_;refine zaq (cs := [_, _]) rfl (fun tb => ?_))|refine zp ?_|refine zyn ?_
 refine zeb [1] rfl ?_
 refine zyr ?_
 repeat' (refine zap rfl ?_;first|refine zar (fun tp => ?_)|refine zah [] (zez w0) rfl rfl rfl zdj rfl ?_|refine zae 1 rfl rfl rfl rfl rfl rfl rfl ?_)
 all_goals refine zyn ?_
 refine zeb [1] rfl ?_
 repeat' first|refine zck ?_|refine zcm ?_|refine zcl ?_|refine zcn ?_|refine zyq ?_|(refine zap rfl ?_;first|refine zds rfl rfl (by decide +kernel) ?_|refine zdr rfl rfl (by decide +kernel) ?_|refine zah [0] hop rfl rfl rfl zdj rfl ?_|refine zbc rfl rfl (by omega) ?_)|refine zp ?_|refine zyl 1 rfl ?_|refine zyf rfl ?_|refine zch ?_|refine zci rfl ?_|refine zcj rfl ?_
 exact zei rfl ⟨rfl, rfl⟩
theorem dir_sPush (p : Nat) (r : Int) (x0 : Int) (s s' : Sp) (e : Int) (hop : FnE PP w0 [] 46 [spP p, poolV awP, .int .i64 r, .int .i64 x0] [SpaceA p s] (.int .i64 e) [SpaceA p s']) :
   FnE PP w0 [] 32 [spP p, rootV 1 r, .string (bs [112, 117, 115, 104]), .int .i64 x0] [SpaceA p s] (encI2 ((0, e))) [SpaceA p s'] := by
 refine zep en32 fn32 rfl rfl rfl ?_
 refine zyr ?_
 repeat' first|(refine zap rfl ?_;refine zaq (cs := [_, _]) rfl (fun tb => ?_))|refine zp ?_|refine zyn ?_
 refine zeb [1] rfl ?_
 refine zyr ?_
 repeat' (refine zap rfl ?_;first|refine zar (fun tp => ?_)|refine zah [] (zez w0) rfl rfl rfl zdj rfl ?_|refine zae 1 rfl rfl rfl rfl rfl rfl rfl ?_)
 all_goals refine zyn ?_
 refine zeb [1] rfl ?_
 repeat' first|refine zck ?_|refine zcl ?_|refine zyq ?_|(refine zap rfl ?_;first|refine zds rfl rfl (by decide +kernel) ?_|refine zdr rfl rfl (by decide +kernel) ?_|refine zah [0] hop rfl rfl rfl zdj rfl ?_|refine zbc rfl rfl (by omega) ?_|refine zbd rfl rfl (by omega) ?_)|refine zp ?_|refine zyl 0 rfl ?_|refine zyl 1 rfl ?_|refine zyf rfl ?_|refine zch ?_|refine zci rfl ?_|refine zcj rfl ?_
 exact zei rfl ⟨rfl, rfl⟩
theorem dir_sPop (p : Nat) (r : Int) (x0 : Int) (s s' : Sp) (q : Int × Int) (hop : FnE PP w0 [] 47 [spP p, poolV awP, .int .i64 r] [SpaceA p s] (encI2 q) [SpaceA p s']) :
   FnE PP w0 [] 32 [spP p, rootV 1 r, .string (bs [112, 111, 112]), .int .i64 x0] [SpaceA p s] (encI2 (q)) [SpaceA p s'] := by
 refine zep en32 fn32 rfl rfl rfl ?_
 refine zyr ?_
 repeat' first|(refine zap rfl ?_;refine zaq (cs := [_, _]) rfl (fun tb => ?_))|refine zp ?_|refine zyn ?_
 refine zeb [1] rfl ?_
 refine zyr ?_
 repeat' (refine zap rfl ?_;first|refine zar (fun tp => ?_)|refine zah [] (zez w0) rfl rfl rfl zdj rfl ?_|refine zae 1 rfl rfl rfl rfl rfl rfl rfl ?_)
 all_goals refine zyn ?_
 refine zeb [1] rfl ?_
 repeat' first|refine zck ?_|refine zcl ?_|refine zyq ?_|(refine zap rfl ?_;first|refine zds rfl rfl (by decide +kernel) ?_|refine zdr rfl rfl (by decide +kernel) ?_|refine zah [0] hop rfl rfl rfl zdj rfl ?_|refine zbc rfl rfl (by omega) ?_|refine zbd rfl rfl (by omega) ?_)|refine zp ?_|refine zyl 0 rfl ?_|refine zyl 1 rfl ?_|refine zyf rfl ?_|refine zch ?_|refine zci rfl ?_|refine zcj rfl ?_
 exact zei rfl ⟨rfl, rfl⟩
theorem dir_sTop (p : Nat) (r : Int) (x0 : Int) (s s' : Sp) (q : Int × Int) (hop : FnE PP w0 [] 48 [spP p, .int .i64 r] [SpaceA p s] (encI2 q) [SpaceA p s']) :
   FnE PP w0 [] 32 [spP p, rootV 1 r, .string (bs [116, 111, 112]), .int .i64 x0] [SpaceA p s] (encI2 (q)) [SpaceA p s'] := by
 refine zep en32 fn32 rfl rfl rfl ?_
 refine zyr ?_
 repeat' first|(refine zap rfl ?_;refine zaq (cs := [_, _]) rfl (fun tb => ?_))|refine zp ?_|refine zyn ?_
 refine zeb [1] rfl ?_
 refine zyr ?_
 repeat' (refine zap rfl ?_;first|refine zar (fun tp => ?_)|refine zah [] (zez w0) rfl rfl rfl zdj rfl ?_|refine zae 1 rfl rfl rfl rfl rfl rfl rfl ?_)
 all_goals refine zyn ?_
 refine zeb [1] rfl ?_
 repeat' first|refine zck ?_|refine zcl ?_|refine zyq ?_|(refine zap rfl ?_;first|refine zds rfl rfl (by decide +kernel) ?_|refine zdr rfl rfl (by decide +kernel) ?_|refine zah [0] hop rfl rfl rfl zdj rfl ?_|refine zbc rfl rfl (by omega) ?_|refine zbd rfl rfl (by omega) ?_)|refine zp ?_|refine zyl 1 rfl ?_|refine zyf rfl ?_|refine zch ?_|refine zci rfl ?_|refine zcj rfl ?_
 exact zei rfl ⟨rfl, rfl⟩
theorem dir_sLen (p : Nat) (r : Int) (x0 : Int) (s s' : Sp) (v : Int) (hop : FnE PP w0 [] 49 [spP p, .int .i64 r] [SpaceA p s] (.int .i64 v) [SpaceA p s']) :
   FnE PP w0 [] 32 [spP p, rootV 1 r, .string (bs [108, 101, 110]), .int .i64 x0] [SpaceA p s] (encI2 ((v, 0))) [SpaceA p s'] := by
 refine zep en32 fn32 rfl rfl rfl ?_
 refine zyr ?_
 repeat' first|(refine zap rfl ?_;refine zaq (cs := [_, _]) rfl (fun tb => ?_))|refine zp ?_|refine zyn ?_
 refine zeb [1] rfl ?_
 refine zyr ?_
 repeat' (refine zap rfl ?_;first|refine zar (fun tp => ?_)|refine zah [] (zez w0) rfl rfl rfl zdj rfl ?_|refine zae 1 rfl rfl rfl rfl rfl rfl rfl ?_)
 all_goals refine zyn ?_
 refine zeb [1] rfl ?_
 repeat' first|refine zck ?_|refine zcm ?_|refine zcl ?_|refine zcn ?_|refine zyq ?_|(refine zap rfl ?_;first|refine zds rfl rfl (by decide +kernel) ?_|refine zdr rfl rfl (by decide +kernel) ?_|refine zah [0] hop rfl rfl rfl zdj rfl ?_|refine zbc rfl rfl (by omega) ?_|refine zbd rfl rfl (by omega) ?_)|refine zp ?_|refine zyl 1 rfl ?_|refine zyf rfl ?_|refine zch ?_|refine zci rfl ?_|refine zcj rfl ?_
 exact zei rfl ⟨rfl, rfl⟩
theorem dir_qPut (p : Nat) (r : Int) (x0 : Int) (s s' : Sp) (e : Int) (hop : FnE PP w0 [] 50 [spP p, poolV awP, .int .i64 r, .int .i64 x0] [SpaceA p s] (.int .i64 e) [SpaceA p s']) :
   FnE PP w0 [] 32 [spP p, rootV 2 r, .string (bs [112, 117, 116]), .int .i64 x0] [SpaceA p s] (encI2 ((0, e))) [SpaceA p s'] := by
 refine zep en32 fn32 rfl rfl rfl ?_
 refine zyr ?_
 repeat' first|(refine zap rfl ?_;refine zaq (cs := [_, _]) rfl (fun tb => ?_))|refine zp ?_|refine zyn ?_
 refine zeb [1] rfl ?_
 refine zyr ?_
 repeat' (refine zap rfl ?_;first|refine zar (fun tp => ?_)|refine zah [] (zez w0) rfl rfl rfl zdj rfl ?_|refine zae 1 rfl rfl rfl rfl rfl rfl rfl ?_)
 all_goals refine zyn ?_
 refine zeb [1] rfl ?_
 repeat' first|refine zck ?_|refine zcl ?_|refine zyq ?_|(refine zap rfl ?_;first|refine zds rfl rfl (by decide +kernel) ?_|refine zdr rfl rfl (by decide +kernel) ?_|refine zah [0] hop rfl rfl rfl zdj rfl ?_|refine zbc rfl rfl (by omega) ?_|refine zbd rfl rfl (by omega) ?_)|refine zp ?_|refine zyl 0 rfl ?_|refine zyl 1 rfl ?_|refine zyf rfl ?_|refine zch ?_|refine zci rfl ?_|refine zcj rfl ?_
 exact zei rfl ⟨rfl, rfl⟩
theorem dir_qTake (p : Nat) (r : Int) (x0 : Int) (s s' : Sp) (q : Int × Int) (hop : FnE PP w0 [] 51 [spP p, poolV awP, .int .i64 r] [SpaceA p s] (encI2 q) [SpaceA p s']) :
   FnE PP w0 [] 32 [spP p, rootV 2 r, .string (bs [116, 97, 107, 101]), .int .i64 x0] [SpaceA p s] (encI2 (q)) [SpaceA p s'] := by
 refine zep en32 fn32 rfl rfl rfl ?_
 refine zyr ?_
 repeat' first|(refine zap rfl ?_;refine zaq (cs := [_, _]) rfl (fun tb => ?_))|refine zp ?_|refine zyn ?_
 refine zeb [1] rfl ?_
 refine zyr ?_
 repeat' (refine zap rfl ?_;first|refine zar (fun tp => ?_)|refine zah [] (zez w0) rfl rfl rfl zdj rfl ?_|refine zae 1 rfl rfl rfl rfl rfl rfl rfl ?_)
 all_goals refine zyn ?_
 refine zeb [1] rfl ?_
 repeat' first|refine zck ?_|refine zcl ?_|refine zyq ?_|(refine zap rfl ?_;first|refine zds rfl rfl (by decide +kernel) ?_|refine zdr rfl rfl (by decide +kernel) ?_|refine zah [0] hop rfl rfl rfl zdj rfl ?_|refine zbc rfl rfl (by omega) ?_|refine zbd rfl rfl (by omega) ?_)|refine zp ?_|refine zyl 0 rfl ?_|refine zyl 1 rfl ?_|refine zyf rfl ?_|refine zch ?_|refine zci rfl ?_|refine zcj rfl ?_
 exact zei rfl ⟨rfl, rfl⟩
theorem dir_qFirst (p : Nat) (r : Int) (x0 : Int) (s s' : Sp) (q : Int × Int) (hop : FnE PP w0 [] 52 [spP p, .int .i64 r] [SpaceA p s] (encI2 q) [SpaceA p s']) :
   FnE PP w0 [] 32 [spP p, rootV 2 r, .string (bs [102, 105, 114, 115, 116]), .int .i64 x0] [SpaceA p s] (encI2 (q)) [SpaceA p s'] := by
 refine zep en32 fn32 rfl rfl rfl ?_
 refine zyr ?_
 repeat' first|(refine zap rfl ?_;refine zaq (cs := [_, _]) rfl (fun tb => ?_))|refine zp ?_|refine zyn ?_
 refine zeb [1] rfl ?_
 refine zyr ?_
 repeat' (refine zap rfl ?_;first|refine zar (fun tp => ?_)|refine zah [] (zez w0) rfl rfl rfl zdj rfl ?_|refine zae 1 rfl rfl rfl rfl rfl rfl rfl ?_)
 all_goals refine zyn ?_
 refine zeb [1] rfl ?_
 repeat' first|refine zck ?_|refine zcl ?_|refine zyq ?_|(refine zap rfl ?_;first|refine zds rfl rfl (by decide +kernel) ?_|refine zdr rfl rfl (by decide +kernel) ?_|refine zah [0] hop rfl rfl rfl zdj rfl ?_|refine zbc rfl rfl (by omega) ?_|refine zbd rfl rfl (by omega) ?_)|refine zp ?_|refine zyl 1 rfl ?_|refine zyf rfl ?_|refine zch ?_|refine zci rfl ?_|refine zcj rfl ?_
 exact zei rfl ⟨rfl, rfl⟩
theorem dir_qLen (p : Nat) (r : Int) (x0 : Int) (s s' : Sp) (v : Int) (hop : FnE PP w0 [] 53 [spP p, .int .i64 r] [SpaceA p s] (.int .i64 v) [SpaceA p s']) :
   FnE PP w0 [] 32 [spP p, rootV 2 r, .string (bs [108, 101, 110]), .int .i64 x0] [SpaceA p s] (encI2 ((v, 0))) [SpaceA p s'] := by
 refine zep en32 fn32 rfl rfl rfl ?_
 refine zyr ?_
 repeat' first|(refine zap rfl ?_;refine zaq (cs := [_, _]) rfl (fun tb => ?_))|refine zp ?_|refine zyn ?_
 refine zeb [1] rfl ?_
 refine zyr ?_
 repeat' (refine zap rfl ?_;first|refine zar (fun tp => ?_)|refine zah [] (zez w0) rfl rfl rfl zdj rfl ?_|refine zae 1 rfl rfl rfl rfl rfl rfl rfl ?_)
 all_goals refine zyn ?_
 refine zeb [1] rfl ?_
 repeat' first|refine zck ?_|refine zcm ?_|refine zcl ?_|refine zcn ?_|refine zyq ?_|(refine zap rfl ?_;first|refine zds rfl rfl (by decide +kernel) ?_|refine zdr rfl rfl (by decide +kernel) ?_|refine zah [0] hop rfl rfl rfl zdj rfl ?_|refine zbc rfl rfl (by omega) ?_|refine zbd rfl rfl (by omega) ?_)|refine zp ?_|refine zyl 1 rfl ?_|refine zyf rfl ?_|refine zch ?_|refine zci rfl ?_|refine zcj rfl ?_
 exact zei rfl ⟨rfl, rfl⟩
theorem dir_dPushL (p : Nat) (r : Int) (x0 : Int) (s s' : Sp) (e : Int) (hop : FnE PP w0 [] 54 [spP p, poolV awP, .int .i64 r, .bool false, .int .i64 x0] [SpaceA p s] (.int .i64 e) [SpaceA p s']) :
   FnE PP w0 [] 32 [spP p, rootV 3 r, .string (bs [112, 117, 115, 104, 95, 108, 101, 102, 116]), .int .i64 x0] [SpaceA p s] (encI2 ((0, e))) [SpaceA p s'] := by
 refine zep en32 fn32 rfl rfl rfl ?_
 refine zyr ?_
 repeat' first|(refine zap rfl ?_;refine zaq (cs := [_, _]) rfl (fun tb => ?_))|refine zp ?_|refine zyn ?_
 refine zeb [1] rfl ?_
 refine zyr ?_
 repeat' (refine zap rfl ?_;first|refine zar (fun tp => ?_)|refine zah [] (zez w0) rfl rfl rfl zdj rfl ?_|refine zae 1 rfl rfl rfl rfl rfl rfl rfl ?_)
 all_goals refine zyn ?_
 refine zeb [1] rfl ?_
 repeat' first|refine zck ?_|refine zcm ?_|refine zcl ?_|refine zcn ?_|refine zyq ?_|(refine zap rfl ?_;first|refine zds rfl rfl (by decide +kernel) ?_|refine zdr rfl rfl (by decide +kernel) ?_|refine zah [0] hop rfl rfl rfl zdj rfl ?_|refine zbd rfl rfl (by omega) ?_)|refine zp ?_|refine zyl 0 rfl ?_|refine zyl 1 rfl ?_|refine zyf rfl ?_|refine zch ?_|refine zci rfl ?_|refine zcj rfl ?_
 exact zei rfl ⟨rfl, rfl⟩
theorem dir_dPushR (p : Nat) (r : Int) (x0 : Int) (s s' : Sp) (e : Int) (hop : FnE PP w0 [] 54 [spP p, poolV awP, .int .i64 r, .bool true, .int .i64 x0] [SpaceA p s] (.int .i64 e) [SpaceA p s']) :
   FnE PP w0 [] 32 [spP p, rootV 3 r, .string (bs [112, 117, 115, 104, 95, 114, 105, 103, 104, 116]), .int .i64 x0] [SpaceA p s] (encI2 ((0, e))) [SpaceA p s'] := by
 refine zep en32 fn32 rfl rfl rfl ?_
 refine zyr ?_
 repeat' first|(refine zap rfl ?_;refine zaq (cs := [_, _]) rfl (fun tb => ?_))|refine zp ?_|refine zyn ?_
 refine zeb [1] rfl ?_
 refine zyr ?_
 repeat' (refine zap rfl ?_;first|refine zar (fun tp => ?_)|refine zah [] (zez w0) rfl rfl rfl zdj rfl ?_|refine zae 1 rfl rfl rfl rfl rfl rfl rfl ?_)
 all_goals refine zyn ?_
 refine zeb [1] rfl ?_
 repeat' first|refine zck ?_|refine zcm ?_|refine zcl ?_|refine zcn ?_|refine zyq ?_|(refine zap rfl ?_;first|refine zds rfl rfl (by decide +kernel) ?_|refine zdr rfl rfl (by decide +kernel) ?_|refine zah [0] hop rfl rfl rfl zdj rfl ?_|refine zbd rfl rfl (by omega) ?_)|refine zp ?_|refine zyl 0 rfl ?_|refine zyl 1 rfl ?_|refine zyf rfl ?_|refine zch ?_|refine zci rfl ?_|refine zcj rfl ?_
 exact zei rfl ⟨rfl, rfl⟩
theorem dir_dPopL (p : Nat) (r : Int) (x0 : Int) (s s' : Sp) (q : Int × Int) (hop : FnE PP w0 [] 55 [spP p, poolV awP, .int .i64 r, .bool false] [SpaceA p s] (encI2 q) [SpaceA p s']) :
   FnE PP w0 [] 32 [spP p, rootV 3 r, .string (bs [112, 111, 112, 95, 108, 101, 102, 116]), .int .i64 x0] [SpaceA p s] (encI2 (q)) [SpaceA p s'] := by
 refine zep en32 fn32 rfl rfl rfl ?_
 refine zyr ?_
 repeat' first|(refine zap rfl ?_;refine zaq (cs := [_, _]) rfl (fun tb => ?_))|refine zp ?_|refine zyn ?_
 refine zeb [1] rfl ?_
 refine zyr ?_
 repeat' (refine zap rfl ?_;first|refine zar (fun tp => ?_)|refine zah [] (zez w0) rfl rfl rfl zdj rfl ?_|refine zae 1 rfl rfl rfl rfl rfl rfl rfl ?_)
 all_goals refine zyn ?_
 refine zeb [1] rfl ?_
 repeat' first|refine zck ?_|refine zcm ?_|refine zcl ?_|refine zcn ?_|refine zyq ?_|(refine zap rfl ?_;first|refine zds rfl rfl (by decide +kernel) ?_|refine zdr rfl rfl (by decide +kernel) ?_|refine zah [0] hop rfl rfl rfl zdj rfl ?_|refine zbd rfl rfl (by omega) ?_)|refine zp ?_|refine zyl 0 rfl ?_|refine zyl 1 rfl ?_|refine zyf rfl ?_|refine zch ?_|refine zci rfl ?_|refine zcj rfl ?_
 exact zei rfl ⟨rfl, rfl⟩
theorem dir_dPopR (p : Nat) (r : Int) (x0 : Int) (s s' : Sp) (q : Int × Int) (hop : FnE PP w0 [] 55 [spP p, poolV awP, .int .i64 r, .bool true] [SpaceA p s] (encI2 q) [SpaceA p s']) :
   FnE PP w0 [] 32 [spP p, rootV 3 r, .string (bs [112, 111, 112, 95, 114, 105, 103, 104, 116]), .int .i64 x0] [SpaceA p s] (encI2 (q)) [SpaceA p s'] := by
 refine zep en32 fn32 rfl rfl rfl ?_
 refine zyr ?_
 repeat' first|(refine zap rfl ?_;refine zaq (cs := [_, _]) rfl (fun tb => ?_))|refine zp ?_|refine zyn ?_
 refine zeb [1] rfl ?_
 refine zyr ?_
 repeat' (refine zap rfl ?_;first|refine zar (fun tp => ?_)|refine zah [] (zez w0) rfl rfl rfl zdj rfl ?_|refine zae 1 rfl rfl rfl rfl rfl rfl rfl ?_)
 all_goals refine zyn ?_
 refine zeb [1] rfl ?_
 repeat' first|refine zck ?_|refine zcm ?_|refine zcl ?_|refine zcn ?_|refine zyq ?_|(refine zap rfl ?_;first|refine zds rfl rfl (by decide +kernel) ?_|refine zdr rfl rfl (by decide +kernel) ?_|refine zah [0] hop rfl rfl rfl zdj rfl ?_|refine zbd rfl rfl (by omega) ?_)|refine zp ?_|refine zyl 0 rfl ?_|refine zyl 1 rfl ?_|refine zyf rfl ?_|refine zch ?_|refine zci rfl ?_|refine zcj rfl ?_
 exact zei rfl ⟨rfl, rfl⟩
theorem dir_dLeft (p : Nat) (r : Int) (x0 : Int) (s s' : Sp) (q : Int × Int) (hop : FnE PP w0 [] 56 [spP p, .int .i64 r, .bool false] [SpaceA p s] (encI2 q) [SpaceA p s']) :
   FnE PP w0 [] 32 [spP p, rootV 3 r, .string (bs [108, 101, 102, 116]), .int .i64 x0] [SpaceA p s] (encI2 (q)) [SpaceA p s'] := by
 refine zep en32 fn32 rfl rfl rfl ?_
 refine zyr ?_
 repeat' first|(refine zap rfl ?_;refine zaq (cs := [_, _]) rfl (fun tb => ?_))|refine zp ?_|refine zyn ?_
 refine zeb [1] rfl ?_
 refine zyr ?_
 repeat' (refine zap rfl ?_;first|refine zar (fun tp => ?_)|refine zah [] (zez w0) rfl rfl rfl zdj rfl ?_|refine zae 1 rfl rfl rfl rfl rfl rfl rfl ?_)
 all_goals refine zyn ?_
 refine zeb [1] rfl ?_
 repeat' first|refine zck ?_|refine zcm ?_|refine zcl ?_|refine zcn ?_|refine zyq ?_|(refine zap rfl ?_;first|refine zds rfl rfl (by decide +kernel) ?_|refine zdr rfl rfl (by decide +kernel) ?_|refine zah [0] hop rfl rfl rfl zdj rfl ?_|refine zbd rfl rfl (by omega) ?_)|refine zp ?_|refine zyl 1 rfl ?_|refine zyf rfl ?_|refine zch ?_|refine zci rfl ?_|refine zcj rfl ?_
 exact zei rfl ⟨rfl, rfl⟩
theorem dir_dRight (p : Nat) (r : Int) (x0 : Int) (s s' : Sp) (q : Int × Int) (hop : FnE PP w0 [] 56 [spP p, .int .i64 r, .bool true] [SpaceA p s] (encI2 q) [SpaceA p s']) :
   FnE PP w0 [] 32 [spP p, rootV 3 r, .string (bs [114, 105, 103, 104, 116]), .int .i64 x0] [SpaceA p s] (encI2 (q)) [SpaceA p s'] := by
 refine zep en32 fn32 rfl rfl rfl ?_
 refine zyr ?_
 repeat' first|(refine zap rfl ?_;refine zaq (cs := [_, _]) rfl (fun tb => ?_))|refine zp ?_|refine zyn ?_
 refine zeb [1] rfl ?_
 refine zyr ?_
 repeat' (refine zap rfl ?_;first|refine zar (fun tp => ?_)|refine zah [] (zez w0) rfl rfl rfl zdj rfl ?_|refine zae 1 rfl rfl rfl rfl rfl rfl rfl ?_)
 all_goals refine zyn ?_
 refine zeb [1] rfl ?_
 repeat' first|refine zck ?_|refine zcm ?_|refine zcl ?_|refine zcn ?_|refine zyq ?_|(refine zap rfl ?_;first|refine zds rfl rfl (by decide +kernel) ?_|refine zdr rfl rfl (by decide +kernel) ?_|refine zah [0] hop rfl rfl rfl zdj rfl ?_|refine zbd rfl rfl (by omega) ?_)|refine zp ?_|refine zyl 1 rfl ?_|refine zyf rfl ?_|refine zch ?_|refine zci rfl ?_|refine zcj rfl ?_
 exact zei rfl ⟨rfl, rfl⟩
theorem dir_dLen (p : Nat) (r : Int) (x0 : Int) (s s' : Sp) (v : Int) (hop : FnE PP w0 [] 57 [spP p, .int .i64 r] [SpaceA p s] (.int .i64 v) [SpaceA p s']) :
   FnE PP w0 [] 32 [spP p, rootV 3 r, .string (bs [108, 101, 110]), .int .i64 x0] [SpaceA p s] (encI2 ((v, 0))) [SpaceA p s'] := by
 refine zep en32 fn32 rfl rfl rfl ?_
 refine zyr ?_
 repeat' first|(refine zap rfl ?_;refine zaq (cs := [_, _]) rfl (fun tb => ?_))|refine zp ?_|refine zyn ?_
 refine zeb [1] rfl ?_
 refine zyr ?_
 repeat' (refine zap rfl ?_;first|refine zar (fun tp => ?_)|refine zah [] (zez w0) rfl rfl rfl zdj rfl ?_|refine zae 1 rfl rfl rfl rfl rfl rfl rfl ?_)
 all_goals refine zyn ?_
 refine zeb [1] rfl ?_
 repeat' first|refine zck ?_|refine zcm ?_|refine zcl ?_|refine zcn ?_|refine zyq ?_|(refine zap rfl ?_;first|refine zds rfl rfl (by decide +kernel) ?_|refine zdr rfl rfl (by decide +kernel) ?_|refine zah [0] hop rfl rfl rfl zdj rfl ?_|refine zbd rfl rfl (by omega) ?_)|refine zp ?_|refine zyl 1 rfl ?_|refine zyf rfl ?_|refine zch ?_|refine zcj rfl ?_
 exact zei rfl ⟨rfl, rfl⟩
theorem dir_mPut (p : Nat) (r : Int) (x0 x1 : Int) (s s' : Sp) (v : Int) (b : Bool) (e : Int) (hop : FnE PP w0 [] 58 [trV ⟨awP, r, hsI, fun _ => true⟩, spP p, .int .i64 x0, .int .i64 x1] [SpaceA p s] (.tuple #[.int .i64 v, .bool b, .int .i64 e]) [SpaceA p s']) :
   FnE PP w0 [] 33 [spP p, rootV 4 r, .string (bs [112, 117, 116]), .int .i64 x0, .int .i64 x1] [SpaceA p s] (encI2 ((v, e))) [SpaceA p s'] := by
 have hMk : ∀ w, (Instr.makeInterface 105 (.agg #[])).run PP w = .ok (.iface 105 (.agg #[])) w := fun w => by kernel_rfl
 refine zep en33 fn33 rfl rfl rfl ?_
 refine zyr ?_
 repeat' first|(refine zap rfl ?_;refine zaq (cs := [_, _]) rfl (fun tb => ?_))|refine zp ?_|refine zyn ?_
 refine zeb [1] rfl ?_
 refine zyr ?_
 repeat' first|(refine zap rfl ?_;refine zbc rfl rfl (by omega) ?_)|refine zyl 0 rfl ?_|refine zyf rfl ?_|refine zyn ?_
 refine zci rfl ?_
 refine zyx ?_
 first|refine zcp (by kernel_rfl) ?_|refine zcr [(.quiet, 0), (.quiet, 1), (.loud, 2), (.quiet, 3), (.quiet, 4), (.quiet, 5), (.loud, 6), (.loud, 7)] PP_mixed (by kernel_rfl) (by kernel_rfl) ?_|refine zeh PP_mixed (by kernel_rfl) (by kernel_rfl) ?_
 repeat' first|(refine zap rfl ?_;first|refine zcb rfl ?_|refine zar (fun tp => ?_)|refine reg_mkI hMk rfl ?_|refine zah [] (zez w0) rfl rfl rfl zdj rfl ?_|refine zae 1 rfl rfl rfl rfl rfl rfl rfl ?_)|refine zyl 0 rfl ?_|refine zyf rfl ?_|refine zyn ?_
 refine zeb [1] rfl ?_
 repeat' first|refine zck ?_|refine zcl ?_|refine zyq ?_|(refine zap rfl ?_;first|refine zds rfl rfl (by decide +kernel) ?_|refine zdr rfl rfl (by decide +kernel) ?_|refine zah [0] hop rfl rfl rfl zdj rfl ?_)|refine zp ?_|refine zyl 0 rfl ?_|refine zch ?_|refine zci rfl ?_
 exact zei rfl ⟨rfl, rfl⟩
theorem dir_mGet (p : Nat) (r : Int) (x0 x1 : Int) (s s' : Sp) (v : Int) (b : Bool) (hop : FnE PP w0 [] 60 [trV ⟨awP, r, hsI, fun _ => true⟩, spP p, .int .i64 x0] [SpaceA p s] (.tuple #[.int .i64 v, .bool b]) [SpaceA p s']) :
   FnE PP w0 [] 33 [spP p, rootV 4 r, .string (bs [103, 101, 116]), .int .i64 x0, .int .i64 x1] [SpaceA p s] (encI2 (if b = true then (v, 0) else (0, 10))) [SpaceA p s'] := by
 have hMk : ∀ w, (Instr.makeInterface 105 (.agg #[])).run PP w = .ok (.iface 105 (.agg #[])) w := fun w => by kernel_rfl
 refine zep en33 fn33 rfl rfl rfl ?_
 refine zyr ?_
 repeat' first|(refine zap rfl ?_;refine zaq (cs := [_, _]) rfl (fun tb => ?_))|refine zp ?_|refine zyn ?_
 refine zeb [1] rfl ?_
 refine zyr ?_
 repeat' first|(refine zap rfl ?_;refine zbc rfl rfl (by omega) ?_)|refine zyl 0 rfl ?_|refine zyf rfl ?_|refine zyn ?_
 refine zci rfl ?_
 refine zyx ?_
 first|refine zcp (by kernel_rfl) ?_|refine zcr [(.quiet, 0), (.quiet, 1), (.loud, 2), (.quiet, 3), (.quiet, 4), (.quiet, 5), (.loud, 6), (.loud, 7)] PP_mixed (by kernel_rfl) (by kernel_rfl) ?_|refine zeh PP_mixed (by kernel_rfl) (by kernel_rfl) ?_
 repeat' first|(refine zap rfl ?_;first|refine zcb rfl ?_|refine zar (fun tp => ?_)|refine reg_mkI hMk rfl ?_|refine zah [] (zez w0) rfl rfl rfl zdj rfl ?_|refine zae 1 rfl rfl rfl rfl rfl rfl rfl ?_)|refine zyl 0 rfl ?_|refine zyf rfl ?_|refine zyn ?_
 refine zeb [1] rfl ?_
 repeat' first|refine zck ?_|refine zcl ?_|refine zyq ?_|(refine zap rfl ?_;first|refine zds rfl rfl (by decide +kernel) ?_|refine zdr rfl rfl (by decide +kernel) ?_|refine zah [0] hop rfl rfl rfl zdj rfl ?_|refine zah [] (lfound_spec w0 _ _) rfl rfl rfl zdj rfl ?_)|refine zp ?_|refine zyl 0 rfl ?_|refine zch ?_|refine zci rfl ?_|refine zcj rfl ?_
 cases b <;> exact zei rfl ⟨rfl, rfl⟩
theorem dir_mHas (p : Nat) (r : Int) (x0 x1 : Int) (s s' : Sp) (v : Int) (b : Bool) (hop : FnE PP w0 [] 60 [trV ⟨awP, r, hsI, fun _ => true⟩, spP p, .int .i64 x0] [SpaceA p s] (.tuple #[.int .i64 v, .bool b]) [SpaceA p s']) :
   FnE PP w0 [] 33 [spP p, rootV 4 r, .string (bs [104, 97, 115]), .int .i64 x0, .int .i64 x1] [SpaceA p s] (encI2 (if b = true then (1, 0) else (0, 0))) [SpaceA p s'] := by
 have hMk : ∀ w, (Instr.makeInterface 105 (.agg #[])).run PP w = .ok (.iface 105 (.agg #[])) w := fun w => by kernel_rfl
 refine zep en33 fn33 rfl rfl rfl ?_
 refine zyr ?_
 repeat' first|(refine zap rfl ?_;refine zaq (cs := [_, _]) rfl (fun tb => ?_))|refine zp ?_|refine zyn ?_
 refine zeb [1] rfl ?_
 refine zyr ?_
 repeat' first|(refine zap rfl ?_;refine zbc rfl rfl (by omega) ?_)|refine zyl 0 rfl ?_|refine zyf rfl ?_|refine zyn ?_
 refine zci rfl ?_
 refine zyx ?_
 first|refine zcp (by kernel_rfl) ?_|refine zcr [(.quiet, 0), (.quiet, 1), (.loud, 2), (.quiet, 3), (.quiet, 4), (.quiet, 5), (.loud, 6), (.loud, 7)] PP_mixed (by kernel_rfl) (by kernel_rfl) ?_|refine zeh PP_mixed (by kernel_rfl) (by kernel_rfl) ?_
 repeat' first|(refine zap rfl ?_;first|refine zcb rfl ?_|refine zar (fun tp => ?_)|refine reg_mkI hMk rfl ?_|refine zah [] (zez w0) rfl rfl rfl zdj rfl ?_|refine zae 1 rfl rfl rfl rfl rfl rfl rfl ?_)|refine zyl 0 rfl ?_|refine zyf rfl ?_|refine zyn ?_
 refine zeb [1] rfl ?_
 repeat' first|refine zck ?_|refine zcl ?_|refine zyq ?_|(refine zap rfl ?_;first|refine zds rfl rfl (by decide +kernel) ?_|refine zdr rfl rfl (by decide +kernel) ?_|refine zah [0] hop rfl rfl rfl zdj rfl ?_|refine zah [] (one_spec w0 _) rfl rfl rfl zdj rfl ?_)|refine zp ?_|refine zyl 0 rfl ?_|refine zch ?_|refine zci rfl ?_|refine zcj rfl ?_
 cases b <;> exact zei rfl ⟨rfl, rfl⟩
theorem dir_mDrop (p : Nat) (r : Int) (x0 x1 : Int) (s s' : Sp) (v : Int) (b : Bool) (e : Int) (hop : FnE PP w0 [] 63 [trV ⟨awP, r, hsI, fun _ => true⟩, spP p, .int .i64 x0] [SpaceA p s] (.tuple #[.int .i64 v, .bool b, .int .i64 e]) [SpaceA p s']) :
   FnE PP w0 [] 33 [spP p, rootV 4 r, .string (bs [100, 114, 111, 112]), .int .i64 x0, .int .i64 x1] [SpaceA p s] (encI2 (if e ≠ 0 then (0, e) else if b = true then (v, 0) else (0, 10))) [SpaceA p s'] := by
 have hMk : ∀ w, (Instr.makeInterface 105 (.agg #[])).run PP w = .ok (.iface 105 (.agg #[])) w := fun w => by kernel_rfl
 refine zep en33 fn33 rfl rfl rfl ?_
 refine zyr ?_
 repeat' first|(refine zap rfl ?_;refine zaq (cs := [_, _]) rfl (fun tb => ?_))|refine zp ?_|refine zyn ?_
 refine zeb [1] rfl ?_
 refine zyr ?_
 repeat' first|(refine zap rfl ?_;refine zbc rfl rfl (by omega) ?_)|refine zyl 0 rfl ?_|refine zyf rfl ?_|refine zyn ?_
 refine zci rfl ?_
 refine zyx ?_
 first|refine zcp (by kernel_rfl) ?_|refine zcr [(.quiet, 0), (.quiet, 1), (.loud, 2), (.quiet, 3), (.quiet, 4), (.quiet, 5), (.loud, 6), (.loud, 7)] PP_mixed (by kernel_rfl) (by kernel_rfl) ?_|refine zeh PP_mixed (by kernel_rfl) (by kernel_rfl) ?_
 repeat' first|(refine zap rfl ?_;first|refine zcb rfl ?_|refine zar (fun tp => ?_)|refine reg_mkI hMk rfl ?_|refine zah [] (zez w0) rfl rfl rfl zdj rfl ?_|refine zae 1 rfl rfl rfl rfl rfl rfl rfl ?_)|refine zyl 0 rfl ?_|refine zyf rfl ?_|refine zyn ?_
 refine zeb [1] rfl ?_
 repeat' first|refine zck ?_|refine zcl ?_|refine zyq ?_|(refine zap rfl ?_;first|refine zds rfl rfl (by decide +kernel) ?_|refine zdr rfl rfl (by decide +kernel) ?_|refine zah [0] hop rfl rfl rfl zdj rfl ?_|refine zah [] (had_spec w0 _ _ _) rfl rfl rfl zdj rfl ?_)|refine zp ?_|refine zyl 0 rfl ?_|refine zch ?_|refine zci rfl ?_|refine zcj rfl ?_
 exact zei rfl ⟨rfl, rfl⟩
theorem dir_tPut (p : Nat) (r : Int) (x0 x1 : Int) (s s' : Sp) (v : Int) (b : Bool) (e : Int) (hop : FnE PP w0 [] 65 [sctV awP r, spP p, .int .i64 x0, .int .i64 x1] [SpaceA p s] (.tuple #[.int .i64 v, .bool b, .int .i64 e]) [SpaceA p s']) :
   FnE PP w0 [] 33 [spP p, rootV 5 r, .string (bs [112, 117, 116]), .int .i64 x0, .int .i64 x1] [SpaceA p s] (encI2 ((v, e))) [SpaceA p s'] := by
 refine zep en33 fn33 rfl rfl rfl ?_
 refine zyr ?_
 repeat' first|(refine zap rfl ?_;refine zaq (cs := [_, _]) rfl (fun tb => ?_))|refine zp ?_|refine zyn ?_
 refine zeb [1] rfl ?_
 refine zyr ?_
 repeat' first|(refine zap rfl ?_;refine zbd rfl rfl (by omega) ?_)|refine zyl 0 rfl ?_|refine zyf rfl ?_|refine zyn ?_
 refine zcj rfl ?_
 refine zyx ?_
 first|refine zcp (by kernel_rfl) ?_|refine zcr [(.loud, 0), (.quiet, 1), (.quiet, 2), (.quiet, 3), (.loud, 4), (.loud, 5)] PP_mixed (by kernel_rfl) (by kernel_rfl) ?_|refine zeh PP_mixed (by kernel_rfl) (by kernel_rfl) ?_
 repeat' first|(refine zap rfl ?_;first|refine zcb rfl ?_|refine zar (fun tp => ?_)|refine zah [] (zez w0) rfl rfl rfl zdj rfl ?_|refine zae 1 rfl rfl rfl rfl rfl rfl rfl ?_)|refine zyl 0 rfl ?_|refine zyf rfl ?_|refine zyn ?_
 refine zeb [1] rfl ?_
 repeat' first|refine zck ?_|refine zcl ?_|refine zyq ?_|(refine zap rfl ?_;first|refine zds rfl rfl (by decide +kernel) ?_|refine zdr rfl rfl (by decide +kernel) ?_|refine zah [0] hop rfl rfl rfl zdj rfl ?_)|refine zp ?_|refine zyl 0 rfl ?_|refine zch ?_|refine zci rfl ?_
 exact zei rfl ⟨rfl, rfl⟩
theorem dir_tGet (p : Nat) (r : Int) (x0 x1 : Int) (s s' : Sp) (v : Int) (b : Bool) (hop : FnE PP w0 [] 66 [sctV awP r, spP p, .int .i64 x0] [SpaceA p s] (.tuple #[.int .i64 v, .bool b]) [SpaceA p s']) :
   FnE PP w0 [] 33 [spP p, rootV 5 r, .string (bs [103, 101, 116]), .int .i64 x0, .int .i64 x1] [SpaceA p s] (encI2 (if b = true then (v, 0) else (0, 10))) [SpaceA p s'] := by
 refine zep en33 fn33 rfl rfl rfl ?_
 refine zyr ?_
 repeat' first|(refine zap rfl ?_;refine zaq (cs := [_, _]) rfl (fun tb => ?_))|refine zp ?_|refine zyn ?_
 refine zeb [1] rfl ?_
 refine zyr ?_
 repeat' first|(refine zap rfl ?_;refine zbd rfl rfl (by omega) ?_)|refine zyl 0 rfl ?_|refine zyf rfl ?_|refine zyn ?_
 refine zcj rfl ?_
 refine zyx ?_
 first|refine zcp (by kernel_rfl) ?_|refine zcr [(.loud, 0), (.quiet, 1), (.quiet, 2), (.quiet, 3), (.loud, 4), (.loud, 5)] PP_mixed (by kernel_rfl) (by kernel_rfl) ?_|refine zeh PP_mixed (by kernel_rfl) (by kernel_rfl) ?_
 repeat' first|(refine zap rfl ?_;first|refine zcb rfl ?_|refine zar (fun tp => ?_)|refine zah [] (zez w0) rfl rfl rfl zdj rfl ?_|refine zae 1 rfl rfl rfl rfl rfl rfl rfl ?_)|refine zyl 0 rfl ?_|refine zyf rfl ?_|refine zyn ?_
 refine zeb [1] rfl ?_
 repeat' first|refine zck ?_|refine zcl ?_|refine zyq ?_|(refine zap rfl ?_;first|refine zds rfl rfl (by decide +kernel) ?_|refine zdr rfl rfl (by decide +kernel) ?_|refine zah [0] hop rfl rfl rfl zdj rfl ?_|refine zah [] (lfound_spec w0 _ _) rfl rfl rfl zdj rfl ?_)|refine zp ?_|refine zyl 0 rfl ?_|refine zch ?_|refine zci rfl ?_|refine zcj rfl ?_
 cases b <;> exact zei rfl ⟨rfl, rfl⟩
theorem dir_tHas (p : Nat) (r : Int) (x0 x1 : Int) (s s' : Sp) (v : Int) (b : Bool) (hop : FnE PP w0 [] 66 [sctV awP r, spP p, .int .i64 x0] [SpaceA p s] (.tuple #[.int .i64 v, .bool b]) [SpaceA p s']) :
   FnE PP w0 [] 33 [spP p, rootV 5 r, .string (bs [104, 97, 115]), .int .i64 x0, .int .i64 x1] [SpaceA p s] (encI2 (if b = true then (1, 0) else (0, 0))) [SpaceA p s'] := by
 refine zep en33 fn33 rfl rfl rfl ?_
 refine zyr ?_
 repeat' first|(refine zap rfl ?_;refine zaq (cs := [_, _]) rfl (fun tb => ?_))|refine zp ?_|refine zyn ?_
 refine zeb [1] rfl ?_
 refine zyr ?_
 repeat' first|(refine zap rfl ?_;refine zbd rfl rfl (by omega) ?_)|refine zyl 0 rfl ?_|refine zyf rfl ?_|refine zyn ?_
 refine zcj rfl ?_
 refine zyx ?_
 first|refine zcp (by kernel_rfl) ?_|refine zcr [(.loud, 0), (.quiet, 1), (.quiet, 2), (.quiet, 3), (.loud, 4), (.loud, 5)] PP_mixed (by kernel_rfl) (by kernel_rfl) ?_|refine zeh PP_mixed (by kernel_rfl) (by kernel_rfl) ?_
 repeat' first|(refine zap rfl ?_;first|refine zcb rfl ?_|refine zar (fun tp => ?_)|refine zah [] (zez w0) rfl rfl rfl zdj rfl ?_|refine zae 1 rfl rfl rfl rfl rfl rfl rfl ?_)|refine zyl 0 rfl ?_|refine zyf rfl ?_|refine zyn ?_
 refine zeb [1] rfl ?_
 repeat' first|refine zck ?_|refine zcl ?_|refine zyq ?_|(refine zap rfl ?_;first|refine zds rfl rfl (by decide +kernel) ?_|refine zdr rfl rfl (by decide +kernel) ?_|refine zah [0] hop rfl rfl rfl zdj rfl ?_|refine zah [] (one_spec w0 _) rfl rfl rfl zdj rfl ?_)|refine zp ?_|refine zyl 0 rfl ?_|refine zch ?_|refine zci rfl ?_|refine zcj rfl ?_
 cases b <;> exact zei rfl ⟨rfl, rfl⟩
theorem dir_tDrop (p : Nat) (r : Int) (x0 x1 : Int) (s s' : Sp) (v : Int) (b : Bool) (e : Int) (hop : FnE PP w0 [] 67 [sctV awP r, spP p, .int .i64 x0] [SpaceA p s] (.tuple #[.int .i64 v, .bool b, .int .i64 e]) [SpaceA p s']) :
   FnE PP w0 [] 33 [spP p, rootV 5 r, .string (bs [100, 114, 111, 112]), .int .i64 x0, .int .i64 x1] [SpaceA p s] (encI2 (if e ≠ 0 then (0, e) else if b = true then (v, 0) else (0, 10))) [SpaceA p s'] := by
 refine zep en33 fn33 rfl rfl rfl ?_
 refine zyr ?_
 repeat' first|(refine zap rfl ?_;refine zaq (cs := [_, _]) rfl (fun tb => ?_))|refine zp ?_|refine zyn ?_
 refine zeb [1] rfl ?_
 refine zyr ?_
 repeat' first|(refine zap rfl ?_;refine zbd rfl rfl (by omega) ?_)|refine zyl 0 rfl ?_|refine zyf rfl ?_|refine zyn ?_
 refine zcj rfl ?_
 refine zyx ?_
 first|refine zcp (by kernel_rfl) ?_|refine zcr [(.loud, 0), (.quiet, 1), (.quiet, 2), (.quiet, 3), (.loud, 4), (.loud, 5)] PP_mixed (by kernel_rfl) (by kernel_rfl) ?_|refine zeh PP_mixed (by kernel_rfl) (by kernel_rfl) ?_
 repeat' first|(refine zap rfl ?_;first|refine zcb rfl ?_|refine zar (fun tp => ?_)|refine zah [] (zez w0) rfl rfl rfl zdj rfl ?_|refine zae 1 rfl rfl rfl rfl rfl rfl rfl ?_)|refine zyl 0 rfl ?_|refine zyf rfl ?_|refine zyn ?_
 refine zeb [1] rfl ?_
 repeat' first|refine zck ?_|refine zcl ?_|refine zyq ?_|(refine zap rfl ?_;first|refine zds rfl rfl (by decide +kernel) ?_|refine zdr rfl rfl (by decide +kernel) ?_|refine zah [0] hop rfl rfl rfl zdj rfl ?_|refine zah [] (had_spec w0 _ _ _) rfl rfl rfl zdj rfl ?_)|refine zp ?_|refine zyl 0 rfl ?_|refine zch ?_|refine zci rfl ?_|refine zcj rfl ?_
 exact zei rfl ⟨rfl, rfl⟩
theorem dir_mLen (p : Nat) (r : Int) (x0 x1 : Int) (s s' : Sp) (v : Int) (hop : FnE PP w0 [] 64 [trV ⟨awP, r, hsI, fun _ => true⟩, spP p] [SpaceA p s] (.int .i64 v) [SpaceA p s']) :
   FnE PP w0 [] 33 [spP p, rootV 4 r, .string (bs [108, 101, 110]), .int .i64 x0, .int .i64 x1] [SpaceA p s] (encI2 ((v, 0))) [SpaceA p s'] := by
 have hMk : ∀ w, (Instr.makeInterface 105 (.agg #[])).run PP w = .ok (.iface 105 (.agg #[])) w := fun w => by kernel_rfl
 refine zep en33 fn33 rfl rfl rfl ?_
 refine zyr ?_
 repeat' first|(refine zap rfl ?_;refine zaq (cs := [_, _]) rfl (fun tb => ?_))|refine zp ?_|refine zyn ?_
 refine zeb [1] rfl ?_
 refine zyr ?_
 repeat' first|(refine zap rfl ?_;refine zbc rfl rfl (by omega) ?_)|refine zyl 0 rfl ?_|refine zyf rfl ?_|refine zyn ?_
 refine zci rfl ?_
 refine zyx ?_
 first|refine zcp (by kernel_rfl) ?_|refine zcr [(.quiet, 0), (.quiet, 1), (.loud, 2), (.quiet, 3), (.quiet, 4), (.quiet, 5), (.loud, 6), (.loud, 7)] PP_mixed (by kernel_rfl) (by kernel_rfl) ?_|refine zeh PP_mixed (by kernel_rfl) (by kernel_rfl) ?_
 repeat' first|(refine zap rfl ?_;first|refine zcb rfl ?_|refine zar (fun tp => ?_)|refine reg_mkI hMk rfl ?_|refine zah [] (zez w0) rfl rfl rfl zdj rfl ?_|refine zae 1 rfl rfl rfl rfl rfl rfl rfl ?_)|refine zyl 0 rfl ?_|refine zyf rfl ?_|refine zyn ?_
 refine zeb [1] rfl ?_
 repeat' first|refine zck ?_|refine zcm ?_|refine zcl ?_|refine zcn ?_|refine zyq ?_|(refine zap rfl ?_;first|refine zds rfl rfl (by decide +kernel) ?_|refine zdr rfl rfl (by decide +kernel) ?_|refine zah [0] hop rfl rfl rfl zdj rfl ?_)|refine zp ?_|refine zyl 0 rfl ?_|refine zch ?_|refine zcj rfl ?_
 exact zei rfl ⟨rfl, rfl⟩
theorem dir_tSum (p : Nat) (r : Int) (x0 x1 : Int) (s s' : Sp) (v : Int) (hop : FnE PP w0 [] 68 [sctV awP r, spP p, .int .i64 x0, .int .i64 x1] [SpaceA p s] (.int .i64 v) [SpaceA p s']) :
   FnE PP w0 [] 33 [spP p, rootV 5 r, .string (bs [115, 117, 109]), .int .i64 x0, .int .i64 x1] [SpaceA p s] (encI2 ((v, 0))) [SpaceA p s'] := by
 refine zep en33 fn33 rfl rfl rfl ?_
 refine zyr ?_
 repeat' first|(refine zap rfl ?_;refine zaq (cs := [_, _]) rfl (fun tb => ?_))|refine zp ?_|refine zyn ?_
 refine zeb [1] rfl ?_
 refine zyr ?_
 repeat' first|(refine zap rfl ?_;refine zbd rfl rfl (by omega) ?_)|refine zyl 0 rfl ?_|refine zyf rfl ?_|refine zyn ?_
 refine zcj rfl ?_
 refine zyx ?_
 first|refine zcp (by kernel_rfl) ?_|refine zcr [(.loud, 0), (.quiet, 1), (.quiet, 2), (.quiet, 3), (.loud, 4), (.loud, 5)] PP_mixed (by kernel_rfl) (by kernel_rfl) ?_|refine zeh PP_mixed (by kernel_rfl) (by kernel_rfl) ?_
 repeat' first|(refine zap rfl ?_;first|refine zcb rfl ?_|refine zar (fun tp => ?_)|refine zah [] (zez w0) rfl rfl rfl zdj rfl ?_|refine zae 1 rfl rfl rfl rfl rfl rfl rfl ?_)|refine zyl 0 rfl ?_|refine zyf rfl ?_|refine zyn ?_
 refine zeb [1] rfl ?_
 repeat' first|refine zck ?_|refine zcl ?_|refine zyq ?_|(refine zap rfl ?_;first|refine zds rfl rfl (by decide +kernel) ?_|refine zdr rfl rfl (by decide +kernel) ?_|refine zah [0] hop rfl rfl rfl zdj rfl ?_)|refine zp ?_|refine zyl 0 rfl ?_|refine zch ?_|refine zci rfl ?_|refine zcj rfl ?_
 exact zei rfl ⟨rfl, rfl⟩
theorem dir_tCount (p : Nat) (r : Int) (x0 x1 : Int) (s s' : Sp) (v : Int) (hop : FnE PP w0 [] 69 [sctV awP r, spP p, .int .i64 x0, .int .i64 x1] [SpaceA p s] (.int .i64 v) [SpaceA p s']) :
   FnE PP w0 [] 33 [spP p, rootV 5 r, .string (bs [99, 111, 117, 110, 116]), .int .i64 x0, .int .i64 x1] [SpaceA p s] (encI2 ((v, 0))) [SpaceA p s'] := by
 refine zep en33 fn33 rfl rfl rfl ?_
 refine zyr ?_
 repeat' first|(refine zap rfl ?_;refine zaq (cs := [_, _]) rfl (fun tb => ?_))|refine zp ?_|refine zyn ?_
 refine zeb [1] rfl ?_
 refine zyr ?_
 repeat' first|(refine zap rfl ?_;refine zbd rfl rfl (by omega) ?_)|refine zyl 0 rfl ?_|refine zyf rfl ?_|refine zyn ?_
 refine zcj rfl ?_
 refine zyx ?_
 first|refine zcp (by kernel_rfl) ?_|refine zcr [(.loud, 0), (.quiet, 1), (.quiet, 2), (.quiet, 3), (.loud, 4), (.loud, 5)] PP_mixed (by kernel_rfl) (by kernel_rfl) ?_|refine zeh PP_mixed (by kernel_rfl) (by kernel_rfl) ?_
 repeat' first|(refine zap rfl ?_;first|refine zcb rfl ?_|refine zar (fun tp => ?_)|refine zah [] (zez w0) rfl rfl rfl zdj rfl ?_|refine zae 1 rfl rfl rfl rfl rfl rfl rfl ?_)|refine zyl 0 rfl ?_|refine zyf rfl ?_|refine zyn ?_
 refine zeb [1] rfl ?_
 repeat' first|refine zck ?_|refine zcl ?_|refine zyq ?_|(refine zap rfl ?_;first|refine zds rfl rfl (by decide +kernel) ?_|refine zdr rfl rfl (by decide +kernel) ?_|refine zah [0] hop rfl rfl rfl zdj rfl ?_)|refine zp ?_|refine zyl 0 rfl ?_|refine zch ?_|refine zci rfl ?_|refine zcj rfl ?_
 exact zei rfl ⟨rfl, rfl⟩
theorem dir_tNext (p : Nat) (r : Int) (x0 x1 : Int) (s s' : Sp) (v : Int) (b : Bool) (hop : FnE PP w0 [] 70 [sctV awP r, spP p, .int .i64 x0] [SpaceA p s] (.tuple #[.int .i64 v, .bool b]) [SpaceA p s']) :
   FnE PP w0 [] 33 [spP p, rootV 5 r, .string (bs [110, 101, 120, 116]), .int .i64 x0, .int .i64 x1] [SpaceA p s] (encI2 (if b = true then (v, 0) else (0, 10))) [SpaceA p s'] := by
 refine zep en33 fn33 rfl rfl rfl ?_
 refine zyr ?_
 repeat' first|(refine zap rfl ?_;refine zaq (cs := [_, _]) rfl (fun tb => ?_))|refine zp ?_|refine zyn ?_
 refine zeb [1] rfl ?_
 refine zyr ?_
 repeat' first|(refine zap rfl ?_;refine zbd rfl rfl (by omega) ?_)|refine zyl 0 rfl ?_|refine zyf rfl ?_|refine zyn ?_
 refine zcj rfl ?_
 refine zyx ?_
 first|refine zcp (by kernel_rfl) ?_|refine zcr [(.loud, 0), (.quiet, 1), (.quiet, 2), (.quiet, 3), (.loud, 4), (.loud, 5)] PP_mixed (by kernel_rfl) (by kernel_rfl) ?_|refine zeh PP_mixed (by kernel_rfl) (by kernel_rfl) ?_
 repeat' first|(refine zap rfl ?_;first|refine zcb rfl ?_|refine zar (fun tp => ?_)|refine zah [] (zez w0) rfl rfl rfl zdj rfl ?_|refine zae 1 rfl rfl rfl rfl rfl rfl rfl ?_)|refine zyl 0 rfl ?_|refine zyf rfl ?_|refine zyn ?_
 refine zeb [1] rfl ?_
 repeat' first|refine zck ?_|refine zcl ?_|refine zyq ?_|(refine zap rfl ?_;first|refine zds rfl rfl (by decide +kernel) ?_|refine zdr rfl rfl (by decide +kernel) ?_|refine zah [0] hop rfl rfl rfl zdj rfl ?_|refine zah [] (lfound_spec w0 _ _) rfl rfl rfl zdj rfl ?_)|refine zp ?_|refine zyl 0 rfl ?_|refine zch ?_|refine zci rfl ?_|refine zcj rfl ?_
 cases b <;> exact zei rfl ⟨rfl, rfl⟩
theorem dir_tNth (p : Nat) (r : Int) (x0 x1 : Int) (s s' : Sp) (v : Int) (b : Bool) (hop : FnE PP w0 [] 71 [sctV awP r, spP p, .int .i64 x0] [SpaceA p s] (.tuple #[.int .i64 v, .bool b]) [SpaceA p s']) :
   FnE PP w0 [] 33 [spP p, rootV 5 r, .string (bs [110, 116, 104]), .int .i64 x0, .int .i64 x1] [SpaceA p s] (encI2 (if b = true then (v, 0) else (0, 10))) [SpaceA p s'] := by
 refine zep en33 fn33 rfl rfl rfl ?_
 refine zyr ?_
 repeat' first|(refine zap rfl ?_;refine zaq (cs := [_, _]) rfl (fun tb => ?_))|refine zp ?_|refine zyn ?_
 refine zeb [1] rfl ?_
 refine zyr ?_
 repeat' first|(refine zap rfl ?_;refine zbd rfl rfl (by omega) ?_)|refine zyl 0 rfl ?_|refine zyf rfl ?_|refine zyn ?_
 refine zcj rfl ?_
 refine zyx ?_
 first|refine zcp (by kernel_rfl) ?_|refine zcr [(.loud, 0), (.quiet, 1), (.quiet, 2), (.quiet, 3), (.loud, 4), (.loud, 5)] PP_mixed (by kernel_rfl) (by kernel_rfl) ?_|refine zeh PP_mixed (by kernel_rfl) (by kernel_rfl) ?_
 repeat' first|(refine zap rfl ?_;first|refine zcb rfl ?_|refine zar (fun tp => ?_)|refine zah [] (zez w0) rfl rfl rfl zdj rfl ?_|refine zae 1 rfl rfl rfl rfl rfl rfl rfl ?_)|refine zyl 0 rfl ?_|refine zyf rfl ?_|refine zyn ?_
 refine zeb [1] rfl ?_
 repeat' first|refine zck ?_|refine zcl ?_|refine zyq ?_|(refine zap rfl ?_;first|refine zds rfl rfl (by decide +kernel) ?_|refine zdr rfl rfl (by decide +kernel) ?_|refine zah [0] hop rfl rfl rfl zdj rfl ?_|refine zah [] (lfound_spec w0 _ _) rfl rfl rfl zdj rfl ?_)|refine zp ?_|refine zyl 0 rfl ?_|refine zch ?_|refine zci rfl ?_|refine zcj rfl ?_
 cases b <;> exact zei rfl ⟨rfl, rfl⟩
theorem dir_tLen (p : Nat) (r : Int) (x0 x1 : Int) (s s' : Sp) (v : Int) (hop : FnE PP w0 [] 72 [sctV awP r, spP p] [SpaceA p s] (.int .i64 v) [SpaceA p s']) :
   FnE PP w0 [] 33 [spP p, rootV 5 r, .string (bs [108, 101, 110]), .int .i64 x0, .int .i64 x1] [SpaceA p s] (encI2 ((v, 0))) [SpaceA p s'] := by
 refine zep en33 fn33 rfl rfl rfl ?_
 refine zyr ?_
 repeat' first|(refine zap rfl ?_;refine zaq (cs := [_, _]) rfl (fun tb => ?_))|refine zp ?_|refine zyn ?_
 refine zeb [1] rfl ?_
 refine zyr ?_
 repeat' first|(refine zap rfl ?_;refine zbd rfl rfl (by omega) ?_)|refine zyl 0 rfl ?_|refine zyf rfl ?_|refine zyn ?_
 refine zcj rfl ?_
 refine zyx ?_
 first|refine zcp (by kernel_rfl) ?_|refine zcr [(.loud, 0), (.quiet, 1), (.quiet, 2), (.quiet, 3), (.loud, 4), (.loud, 5)] PP_mixed (by kernel_rfl) (by kernel_rfl) ?_|refine zeh PP_mixed (by kernel_rfl) (by kernel_rfl) ?_
 repeat' first|(refine zap rfl ?_;first|refine zcb rfl ?_|refine zar (fun tp => ?_)|refine zah [] (zez w0) rfl rfl rfl zdj rfl ?_|refine zae 1 rfl rfl rfl rfl rfl rfl rfl ?_)|refine zyl 0 rfl ?_|refine zyf rfl ?_|refine zyn ?_
 refine zeb [1] rfl ?_
 repeat' first|refine zck ?_|refine zcm ?_|refine zcl ?_|refine zcn ?_|refine zyq ?_|(refine zap rfl ?_;first|refine zds rfl rfl (by decide +kernel) ?_|refine zdr rfl rfl (by decide +kernel) ?_|refine zah [0] hop rfl rfl rfl zdj rfl ?_)|refine zp ?_|refine zyl 0 rfl ?_|refine zch ?_|refine zcj rfl ?_
 exact zei rfl ⟨rfl, rfl⟩
theorem dir_aPush (p : Nat) (r : Int) (x0 x1 : Int) (s s' : Sp) (q : Int × Int) (hop : FnE PP w0 [] 79 [sctV awP r, spP p, .int .i64 x0] [SpaceA p s] (encI2 q) [SpaceA p s']) :
   FnE PP w0 [] 34 [spP p, rootV 7 r, .string (bs [112, 117, 115, 104]), .int .i64 x0, .int .i64 x1] [SpaceA p s] (encI2 (q)) [SpaceA p s'] := by
 refine zep en34 fn34 rfl rfl rfl ?_
 refine zyr ?_
 repeat' first|(refine zap rfl ?_;refine zaq (cs := [_, _]) rfl (fun tb => ?_))|refine zp ?_|refine zyn ?_
 refine zeb [1] rfl ?_
 refine zyr ?_
 repeat' first|(refine zap rfl ?_;refine zbd rfl rfl (by omega) ?_)|refine zyl 0 rfl ?_|refine zyf rfl ?_|refine zyn ?_
 refine zcj rfl ?_
 refine zyx ?_
 first|refine zcp (by kernel_rfl) ?_|refine zcr [(.loud, 0), (.quiet, 1), (.quiet, 2), (.quiet, 3), (.loud, 4), (.loud, 5)] PP_mixed (by kernel_rfl) (by kernel_rfl) ?_|refine zeh PP_mixed (by kernel_rfl) (by kernel_rfl) ?_
 repeat' first|(refine zap rfl ?_;first|refine zcb rfl ?_|refine zar (fun tp => ?_)|refine zah [] (zez w0) rfl rfl rfl zdj rfl ?_|refine zae 1 rfl rfl rfl rfl rfl rfl rfl ?_)|refine zyl 0 rfl ?_|refine zyf rfl ?_|refine zyn ?_
 refine zeb [1] rfl ?_
 repeat' first|refine zck ?_|refine zcl ?_|refine zyq ?_|(refine zap rfl ?_;first|refine zds rfl rfl (by decide +kernel) ?_|refine zdr rfl rfl (by decide +kernel) ?_|refine zah [0] hop rfl rfl rfl zdj rfl ?_)|refine zp ?_|refine zyl 0 rfl ?_|refine zch ?_|refine zci rfl ?_
 exact zei rfl ⟨rfl, rfl⟩
theorem dir_aPop (p : Nat) (r : Int) (x0 x1 : Int) (s s' : Sp) (q : Int × Int) (hop : FnE PP w0 [] 80 [sctV awP r, spP p] [SpaceA p s] (encI2 q) [SpaceA p s']) :
   FnE PP w0 [] 34 [spP p, rootV 7 r, .string (bs [112, 111, 112]), .int .i64 x0, .int .i64 x1] [SpaceA p s] (encI2 (q)) [SpaceA p s'] := by
 refine zep en34 fn34 rfl rfl rfl ?_
 refine zyr ?_
 repeat' first|(refine zap rfl ?_;refine zaq (cs := [_, _]) rfl (fun tb => ?_))|refine zp ?_|refine zyn ?_
 refine zeb [1] rfl ?_
 refine zyr ?_
 repeat' first|(refine zap rfl ?_;refine zbd rfl rfl (by omega) ?_)|refine zyl 0 rfl ?_|refine zyf rfl ?_|refine zyn ?_
 refine zcj rfl ?_
 refine zyx ?_
 first|refine zcp (by kernel_rfl) ?_|refine zcr [(.loud, 0), (.quiet, 1), (.quiet, 2), (.quiet, 3), (.loud, 4), (.loud, 5)] PP_mixed (by kernel_rfl) (by kernel_rfl) ?_|refine zeh PP_mixed (by kernel_rfl) (by kernel_rfl) ?_
 repeat' first|(refine zap rfl ?_;first|refine zcb rfl ?_|refine zar (fun tp => ?_)|refine zah [] (zez w0) rfl rfl rfl zdj rfl ?_|refine zae 1 rfl rfl rfl rfl rfl rfl rfl ?_)|refine zyl 0 rfl ?_|refine zyf rfl ?_|refine zyn ?_
 refine zeb [1] rfl ?_
 repeat' first|refine zck ?_|refine zcl ?_|refine zyq ?_|(refine zap rfl ?_;first|refine zds rfl rfl (by decide +kernel) ?_|refine zdr rfl rfl (by decide +kernel) ?_|refine zah [0] hop rfl rfl rfl zdj rfl ?_)|refine zp ?_|refine zyl 0 rfl ?_|refine zch ?_|refine zci rfl ?_|refine zcj rfl ?_
 exact zei rfl ⟨rfl, rfl⟩
theorem dir_aGet (p : Nat) (r : Int) (x0 x1 : Int) (s s' : Sp) (q : Int × Int) (hop : FnE PP w0 [] 81 [sctV awP r, spP p, .int .i64 x0] [SpaceA p s] (encI2 q) [SpaceA p s']) :
   FnE PP w0 [] 34 [spP p, rootV 7 r, .string (bs [103, 101, 116]), .int .i64 x0, .int .i64 x1] [SpaceA p s] (encI2 (q)) [SpaceA p s'] := by
 refine zep en34 fn34 rfl rfl rfl ?_
 refine zyr ?_
 repeat' first|(refine zap rfl ?_;refine zaq (cs := [_, _]) rfl (fun tb => ?_))|refine zp ?_|refine zyn ?_
 refine zeb [1] rfl ?_
 refine zyr ?_
 repeat' first|(refine zap rfl ?_;refine zbd rfl rfl (by omega) ?_)|refine zyl 0 rfl ?_|refine zyf rfl ?_|refine zyn ?_
 refine zcj rfl ?_
 refine zyx ?_
 first|refine zcp (by kernel_rfl) ?_|refine zcr [(.loud, 0), (.quiet, 1), (.quiet, 2), (.quiet, 3), (.loud, 4), (.loud, 5)] PP_mixed (by kernel_rfl) (by kernel_rfl) ?_|refine zeh PP_mixed (by kernel_rfl) (by kernel_rfl) ?_
 repeat' first|(refine zap rfl ?_;first|refine zcb rfl ?_|refine zar (fun tp => ?_)|refine zah [] (zez w0) rfl rfl rfl zdj rfl ?_|refine zae 1 rfl rfl rfl rfl rfl rfl rfl ?_)|refine zyl 0 rfl ?_|refine zyf rfl ?_|refine zyn ?_
 refine zeb [1] rfl ?_
 repeat' first|refine zck ?_|refine zcl ?_|refine zyq ?_|(refine zap rfl ?_;first|refine zds rfl rfl (by decide +kernel) ?_|refine zdr rfl rfl (by decide +kernel) ?_|refine zah [0] hop rfl rfl rfl zdj rfl ?_)|refine zp ?_|refine zyl 0 rfl ?_|refine zch ?_|refine zci rfl ?_|refine zcj rfl ?_
 exact zei rfl ⟨rfl, rfl⟩
theorem dir_aSet (p : Nat) (r : Int) (x0 x1 : Int) (s s' : Sp) (q : Int × Int) (hop : FnE PP w0 [] 82 [sctV awP r, spP p, .int .i64 x0, .int .i64 x1] [SpaceA p s] (encI2 q) [SpaceA p s']) :
   FnE PP w0 [] 34 [spP p, rootV 7 r, .string (bs [115, 101, 116]), .int .i64 x0, .int .i64 x1] [SpaceA p s] (encI2 (q)) [SpaceA p s'] := by
 refine zep en34 fn34 rfl rfl rfl ?_
 refine zyr ?_
 repeat' first|(refine zap rfl ?_;refine zaq (cs := [_, _]) rfl (fun tb => ?_))|refine zp ?_|refine zyn ?_
 refine zeb [1] rfl ?_
 refine zyr ?_
 repeat' first|(refine zap rfl ?_;refine zbd rfl rfl (by omega) ?_)|refine zyl 0 rfl ?_|refine zyf rfl ?_|refine zyn ?_
 refine zcj rfl ?_
 refine zyx ?_
 first|refine zcp (by kernel_rfl) ?_|refine zcr [(.loud, 0), (.quiet, 1), (.quiet, 2), (.quiet, 3), (.loud, 4), (.loud, 5)] PP_mixed (by kernel_rfl) (by kernel_rfl) ?_|refine zeh PP_mixed (by kernel_rfl) (by kernel_rfl) ?_
 repeat' first|(refine zap rfl ?_;first|refine zcb rfl ?_|refine zar (fun tp => ?_)|refine zah [] (zez w0) rfl rfl rfl zdj rfl ?_|refine zae 1 rfl rfl rfl rfl rfl rfl rfl ?_)|refine zyl 0 rfl ?_|refine zyf rfl ?_|refine zyn ?_
 refine zeb [1] rfl ?_
 repeat' first|refine zck ?_|refine zcl ?_|refine zyq ?_|(refine zap rfl ?_;first|refine zds rfl rfl (by decide +kernel) ?_|refine zdr rfl rfl (by decide +kernel) ?_|refine zah [0] hop rfl rfl rfl zdj rfl ?_)|refine zp ?_|refine zyl 0 rfl ?_|refine zch ?_|refine zci rfl ?_|refine zcj rfl ?_
 exact zei rfl ⟨rfl, rfl⟩
theorem dir_aSwap (p : Nat) (r : Int) (x0 x1 : Int) (s s' : Sp) (e : Int) (hop : FnE PP w0 [] 83 [sctV awP r, spP p, .int .i64 x0, .int .i64 x1] [SpaceA p s] (.int .i64 e) [SpaceA p s']) :
   FnE PP w0 [] 34 [spP p, rootV 7 r, .string (bs [115, 119, 97, 112]), .int .i64 x0, .int .i64 x1] [SpaceA p s] (encI2 ((0, e))) [SpaceA p s'] := by
 refine zep en34 fn34 rfl rfl rfl ?_
 refine zyr ?_
 repeat' first|(refine zap rfl ?_;refine zaq (cs := [_, _]) rfl (fun tb => ?_))|refine zp ?_|refine zyn ?_
 refine zeb [1] rfl ?_
 refine zyr ?_
 repeat' first|(refine zap rfl ?_;refine zbd rfl rfl (by omega) ?_)|refine zyl 0 rfl ?_|refine zyf rfl ?_|refine zyn ?_
 refine zcj rfl ?_
 refine zyx ?_
 first|refine zcp (by kernel_rfl) ?_|refine zcr [(.loud, 0), (.quiet, 1), (.quiet, 2), (.quiet, 3), (.loud, 4), (.loud, 5)] PP_mixed (by kernel_rfl) (by kernel_rfl) ?_|refine zeh PP_mixed (by kernel_rfl) (by kernel_rfl) ?_
 repeat' first|(refine zap rfl ?_;first|refine zcb rfl ?_|refine zar (fun tp => ?_)|refine zah [] (zez w0) rfl rfl rfl zdj rfl ?_|refine zae 1 rfl rfl rfl rfl rfl rfl rfl ?_)|refine zyl 0 rfl ?_|refine zyf rfl ?_|refine zyn ?_
 refine zeb [1] rfl ?_
 repeat' first|refine zck ?_|refine zcl ?_|refine zyq ?_|(refine zap rfl ?_;first|refine zds rfl rfl (by decide +kernel) ?_|refine zdr rfl rfl (by decide +kernel) ?_|refine zah [0] hop rfl rfl rfl zdj rfl ?_)|refine zp ?_|refine zyl 0 rfl ?_|refine zch ?_|refine zci rfl ?_|refine zcj rfl ?_
 exact zei rfl ⟨rfl, rfl⟩
theorem dir_aLen (p : Nat) (r : Int) (x0 x1 : Int) (s s' : Sp) (v : Int) (hop : FnE PP w0 [] 84 [sctV awP r, spP p] [SpaceA p s] (.int .i64 v) [SpaceA p s']) :
   FnE PP w0 [] 34 [spP p, rootV 7 r, .string (bs [108, 101, 110]), .int .i64 x0, .int .i64 x1] [SpaceA p s] (encI2 ((v, 0))) [SpaceA p s'] := by
 refine zep en34 fn34 rfl rfl rfl ?_
 refine zyr ?_
 repeat' first|(refine zap rfl ?_;refine zaq (cs := [_, _]) rfl (fun tb => ?_))|refine zp ?_|refine zyn ?_
 refine zeb [1] rfl ?_
 refine zyr ?_
 repeat' first|(refine zap rfl ?_;refine zbd rfl rfl (by omega) ?_)|refine zyl 0 rfl ?_|refine zyf rfl ?_|refine zyn ?_
 refine zcj rfl ?_
 refine zyx ?_
 first|refine zcp (by kernel_rfl) ?_|refine zcr [(.loud, 0), (.quiet, 1), (.quiet, 2), (.quiet, 3), (.loud, 4), (.loud, 5)] PP_mixed (by kernel_rfl) (by kernel_rfl) ?_|refine zeh PP_mixed (by kernel_rfl) (by kernel_rfl) ?_
 repeat' first|(refine zap rfl ?_;first|refine zcb rfl ?_|refine zar (fun tp => ?_)|refine zah [] (zez w0) rfl rfl rfl zdj rfl ?_|refine zae 1 rfl rfl rfl rfl rfl rfl rfl ?_)|refine zyl 0 rfl ?_|refine zyf rfl ?_|refine zyn ?_
 refine zeb [1] rfl ?_
 repeat' first|refine zck ?_|refine zcm ?_|refine zcl ?_|refine zcn ?_|refine zyq ?_|(refine zap rfl ?_;first|refine zds rfl rfl (by decide +kernel) ?_|refine zdr rfl rfl (by decide +kernel) ?_|refine zah [0] hop rfl rfl rfl zdj rfl ?_)|refine zp ?_|refine zyl 0 rfl ?_|refine zch ?_|refine zcj rfl ?_
 exact zei rfl ⟨rfl, rfl⟩
theorem dir_hPush (p : Nat) (r : Int) (x0 x1 : Int) (s s' : Sp) (q : Int × Int) (hop : FnE PP w0 [] 73 [sctV awP r, spP p, .int .i64 x0, .int .i64 x1] [SpaceA p s] (encI2 q) [SpaceA p s']) :
   FnE PP w0 [] 34 [spP p, rootV 6 r, .string (bs [112, 117, 115, 104]), .int .i64 x0, .int .i64 x1] [SpaceA p s] (encI2 (q)) [SpaceA p s'] := by
 refine zep en34 fn34 rfl rfl rfl ?_
 refine zyr ?_
 repeat' first|(refine zap rfl ?_;refine zaq (cs := [_, _]) rfl (fun tb => ?_))|refine zp ?_|refine zyn ?_
 refine zeb [1] rfl ?_
 refine zyr ?_
 repeat' first|(refine zap rfl ?_;refine zbc rfl rfl (by omega) ?_)|refine zyl 0 rfl ?_|refine zyf rfl ?_|refine zyn ?_
 refine zci rfl ?_
 refine zyx ?_
 first|refine zcp (by kernel_rfl) ?_|refine zcr [(.loud, 0), (.quiet, 1), (.quiet, 2), (.quiet, 3), (.loud, 4), (.loud, 5)] PP_mixed (by kernel_rfl) (by kernel_rfl) ?_|refine zeh PP_mixed (by kernel_rfl) (by kernel_rfl) ?_
 repeat' first|(refine zap rfl ?_;first|refine zcb rfl ?_|refine zar (fun tp => ?_)|refine zah [] (zez w0) rfl rfl rfl zdj rfl ?_|refine zae 1 rfl rfl rfl rfl rfl rfl rfl ?_)|refine zyl 0 rfl ?_|refine zyf rfl ?_|refine zyn ?_
 refine zeb [1] rfl ?_
 repeat' first|refine zck ?_|refine zcl ?_|refine zyq ?_|(refine zap rfl ?_;first|refine zds rfl rfl (by decide +kernel) ?_|refine zdr rfl rfl (by decide +kernel) ?_|refine zah [0] hop rfl rfl rfl zdj rfl ?_)|refine zp ?_|refine zyl 0 rfl ?_|refine zch ?_|refine zci rfl ?_
 exact zei rfl ⟨rfl, rfl⟩
theorem dir_hPop (p : Nat) (r : Int) (x0 x1 : Int) (s s' : Sp) (u v e : Int) (hop : FnE PP w0 [] 74 [sctV awP r, spP p] [SpaceA p s] (.tuple #[.int .i64 u, .int .i64 v, .int .i64 e]) [SpaceA p s']) :
   FnE PP w0 [] 34 [spP p, rootV 6 r, .string (bs [112, 111, 112]), .int .i64 x0, .int .i64 x1] [SpaceA p s] (encI2 ((v, e))) [SpaceA p s'] := by
 refine zep en34 fn34 rfl rfl rfl ?_
 refine zyr ?_
 repeat' first|(refine zap rfl ?_;refine zaq (cs := [_, _]) rfl (fun tb => ?_))|refine zp ?_|refine zyn ?_
 refine zeb [1] rfl ?_
 refine zyr ?_
 repeat' first|(refine zap rfl ?_;refine zbc rfl rfl (by omega) ?_)|refine zyl 0 rfl ?_|refine zyf rfl ?_|refine zyn ?_
 refine zci rfl ?_
 refine zyx ?_
 first|refine zcp (by kernel_rfl) ?_|refine zcr [(.loud, 0), (.quiet, 1), (.quiet, 2), (.quiet, 3), (.loud, 4), (.loud, 5)] PP_mixed (by kernel_rfl) (by kernel_rfl) ?_|refine zeh PP_mixed (by kernel_rfl) (by kernel_rfl) ?_
 repeat' first|(refine zap rfl ?_;first|refine zcb rfl ?_|refine zar (fun tp => ?_)|refine zah [] (zez w0) rfl rfl rfl zdj rfl ?_|refine zae 1 rfl rfl rfl rfl rfl rfl rfl ?_)|refine zyl 0 rfl ?_|refine zyf rfl ?_|refine zyn ?_
 refine zeb [1] rfl ?_
 repeat' first|refine zck ?_|refine zcl ?_|refine zyq ?_|(refine zap rfl ?_;first|refine zds rfl rfl (by decide +kernel) ?_|refine zdr rfl rfl (by decide +kernel) ?_|refine zah [0] hop rfl rfl rfl zdj rfl ?_)|refine zp ?_|refine zyl 0 rfl ?_|refine zch ?_|refine zci rfl ?_|refine zcj rfl ?_
 exact zei rfl ⟨rfl, rfl⟩
theorem dir_hMin (p : Nat) (r : Int) (x0 x1 : Int) (s s' : Sp) (u v e : Int) (hop : FnE PP w0 [] 75 [sctV awP r, spP p] [SpaceA p s] (.tuple #[.int .i64 u, .int .i64 v, .int .i64 e]) [SpaceA p s']) :
   FnE PP w0 [] 34 [spP p, rootV 6 r, .string (bs [109, 105, 110]), .int .i64 x0, .int .i64 x1] [SpaceA p s] (encI2 ((v, e))) [SpaceA p s'] := by
 refine zep en34 fn34 rfl rfl rfl ?_
 refine zyr ?_
 repeat' first|(refine zap rfl ?_;refine zaq (cs := [_, _]) rfl (fun tb => ?_))|refine zp ?_|refine zyn ?_
 refine zeb [1] rfl ?_
 refine zyr ?_
 repeat' first|(refine zap rfl ?_;refine zbc rfl rfl (by omega) ?_)|refine zyl 0 rfl ?_|refine zyf rfl ?_|refine zyn ?_
 refine zci rfl ?_
 refine zyx ?_
 first|refine zcp (by kernel_rfl) ?_|refine zcr [(.loud, 0), (.quiet, 1), (.quiet, 2), (.quiet, 3), (.loud, 4), (.loud, 5)] PP_mixed (by kernel_rfl) (by kernel_rfl) ?_|refine zeh PP_mixed (by kernel_rfl) (by kernel_rfl) ?_
 repeat' first|(refine zap rfl ?_;first|refine zcb rfl ?_|refine zar (fun tp => ?_)|refine zah [] (zez w0) rfl rfl rfl zdj rfl ?_|refine zae 1 rfl rfl rfl rfl rfl rfl rfl ?_)|refine zyl 0 rfl ?_|refine zyf rfl ?_|refine zyn ?_
 refine zeb [1] rfl ?_
 repeat' first|refine zck ?_|refine zcl ?_|refine zyq ?_|(refine zap rfl ?_;first|refine zds rfl rfl (by decide +kernel) ?_|refine zdr rfl rfl (by decide +kernel) ?_|refine zah [0] hop rfl rfl rfl zdj rfl ?_)|refine zp ?_|refine zyl 0 rfl ?_|refine zch ?_|refine zci rfl ?_|refine zcj rfl ?_
 exact zei rfl ⟨rfl, rfl⟩
theorem dir_hLeast (p : Nat) (r : Int) (x0 x1 : Int) (s s' : Sp) (u v e : Int) (hop : FnE PP w0 [] 75 [sctV awP r, spP p] [SpaceA p s] (.tuple #[.int .i64 u, .int .i64 v, .int .i64 e]) [SpaceA p s']) :
   FnE PP w0 [] 34 [spP p, rootV 6 r, .string (bs [108, 101, 97, 115, 116]), .int .i64 x0, .int .i64 x1] [SpaceA p s] (encI2 ((u, e))) [SpaceA p s'] := by
 refine zep en34 fn34 rfl rfl rfl ?_
 refine zyr ?_
 repeat' first|(refine zap rfl ?_;refine zaq (cs := [_, _]) rfl (fun tb => ?_))|refine zp ?_|refine zyn ?_
 refine zeb [1] rfl ?_
 refine zyr ?_
 repeat' first|(refine zap rfl ?_;refine zbc rfl rfl (by omega) ?_)|refine zyl 0 rfl ?_|refine zyf rfl ?_|refine zyn ?_
 refine zci rfl ?_
 refine zyx ?_
 first|refine zcp (by kernel_rfl) ?_|refine zcr [(.loud, 0), (.quiet, 1), (.quiet, 2), (.quiet, 3), (.loud, 4), (.loud, 5)] PP_mixed (by kernel_rfl) (by kernel_rfl) ?_|refine zeh PP_mixed (by kernel_rfl) (by kernel_rfl) ?_
 repeat' first|(refine zap rfl ?_;first|refine zcb rfl ?_|refine zar (fun tp => ?_)|refine zah [] (zez w0) rfl rfl rfl zdj rfl ?_|refine zae 1 rfl rfl rfl rfl rfl rfl rfl ?_)|refine zyl 0 rfl ?_|refine zyf rfl ?_|refine zyn ?_
 refine zeb [1] rfl ?_
 repeat' first|refine zck ?_|refine zcl ?_|refine zyq ?_|(refine zap rfl ?_;first|refine zds rfl rfl (by decide +kernel) ?_|refine zdr rfl rfl (by decide +kernel) ?_|refine zah [0] hop rfl rfl rfl zdj rfl ?_)|refine zp ?_|refine zyl 0 rfl ?_|refine zch ?_|refine zci rfl ?_|refine zcj rfl ?_
 exact zei rfl ⟨rfl, rfl⟩
theorem dir_hLower (p : Nat) (r : Int) (x0 x1 : Int) (s s' : Sp) (e : Int) (hop : FnE PP w0 [] 76 [sctV awP r, spP p, .int .i64 x0, .int .i64 x1] [SpaceA p s] (.int .i64 e) [SpaceA p s']) :
   FnE PP w0 [] 34 [spP p, rootV 6 r, .string (bs [108, 111, 119, 101, 114]), .int .i64 x0, .int .i64 x1] [SpaceA p s] (encI2 ((0, e))) [SpaceA p s'] := by
 refine zep en34 fn34 rfl rfl rfl ?_
 refine zyr ?_
 repeat' first|(refine zap rfl ?_;refine zaq (cs := [_, _]) rfl (fun tb => ?_))|refine zp ?_|refine zyn ?_
 refine zeb [1] rfl ?_
 refine zyr ?_
 repeat' first|(refine zap rfl ?_;refine zbc rfl rfl (by omega) ?_)|refine zyl 0 rfl ?_|refine zyf rfl ?_|refine zyn ?_
 refine zci rfl ?_
 refine zyx ?_
 first|refine zcp (by kernel_rfl) ?_|refine zcr [(.loud, 0), (.quiet, 1), (.quiet, 2), (.quiet, 3), (.loud, 4), (.loud, 5)] PP_mixed (by kernel_rfl) (by kernel_rfl) ?_|refine zeh PP_mixed (by kernel_rfl) (by kernel_rfl) ?_
 repeat' first|(refine zap rfl ?_;first|refine zcb rfl ?_|refine zar (fun tp => ?_)|refine zah [] (zez w0) rfl rfl rfl zdj rfl ?_|refine zae 1 rfl rfl rfl rfl rfl rfl rfl ?_)|refine zyl 0 rfl ?_|refine zyf rfl ?_|refine zyn ?_
 refine zeb [1] rfl ?_
 repeat' first|refine zck ?_|refine zcl ?_|refine zyq ?_|(refine zap rfl ?_;first|refine zds rfl rfl (by decide +kernel) ?_|refine zdr rfl rfl (by decide +kernel) ?_|refine zah [0] hop rfl rfl rfl zdj rfl ?_)|refine zp ?_|refine zyl 0 rfl ?_|refine zch ?_|refine zci rfl ?_|refine zcj rfl ?_
 exact zei rfl ⟨rfl, rfl⟩
theorem dir_hDrop (p : Nat) (r : Int) (x0 x1 : Int) (s s' : Sp) (q : Int × Int) (hop : FnE PP w0 [] 77 [sctV awP r, spP p, .int .i64 x0] [SpaceA p s] (encI2 q) [SpaceA p s']) :
   FnE PP w0 [] 34 [spP p, rootV 6 r, .string (bs [100, 114, 111, 112]), .int .i64 x0, .int .i64 x1] [SpaceA p s] (encI2 (q)) [SpaceA p s'] := by
 refine zep en34 fn34 rfl rfl rfl ?_
 refine zyr ?_
 repeat' first|(refine zap rfl ?_;refine zaq (cs := [_, _]) rfl (fun tb => ?_))|refine zp ?_|refine zyn ?_
 refine zeb [1] rfl ?_
 refine zyr ?_
 repeat' first|(refine zap rfl ?_;refine zbc rfl rfl (by omega) ?_)|refine zyl 0 rfl ?_|refine zyf rfl ?_|refine zyn ?_
 refine zci rfl ?_
 refine zyx ?_
 first|refine zcp (by kernel_rfl) ?_|refine zcr [(.loud, 0), (.quiet, 1), (.quiet, 2), (.quiet, 3), (.loud, 4), (.loud, 5)] PP_mixed (by kernel_rfl) (by kernel_rfl) ?_|refine zeh PP_mixed (by kernel_rfl) (by kernel_rfl) ?_
 repeat' first|(refine zap rfl ?_;first|refine zcb rfl ?_|refine zar (fun tp => ?_)|refine zah [] (zez w0) rfl rfl rfl zdj rfl ?_|refine zae 1 rfl rfl rfl rfl rfl rfl rfl ?_)|refine zyl 0 rfl ?_|refine zyf rfl ?_|refine zyn ?_
 refine zeb [1] rfl ?_
 repeat' first|refine zck ?_|refine zcl ?_|refine zyq ?_|(refine zap rfl ?_;first|refine zds rfl rfl (by decide +kernel) ?_|refine zdr rfl rfl (by decide +kernel) ?_|refine zah [0] hop rfl rfl rfl zdj rfl ?_)|refine zp ?_|refine zyl 0 rfl ?_|refine zch ?_|refine zci rfl ?_|refine zcj rfl ?_
 exact zei rfl ⟨rfl, rfl⟩
theorem dir_hLen (p : Nat) (r : Int) (x0 x1 : Int) (s s' : Sp) (v : Int) (hop : FnE PP w0 [] 78 [sctV awP r, spP p] [SpaceA p s] (.int .i64 v) [SpaceA p s']) :
   FnE PP w0 [] 34 [spP p, rootV 6 r, .string (bs [108, 101, 110]), .int .i64 x0, .int .i64 x1] [SpaceA p s] (encI2 ((v, 0))) [SpaceA p s'] := by
 refine zep en34 fn34 rfl rfl rfl ?_
 refine zyr ?_
 repeat' first|(refine zap rfl ?_;refine zaq (cs := [_, _]) rfl (fun tb => ?_))|refine zp ?_|refine zyn ?_
 refine zeb [1] rfl ?_
 refine zyr ?_
 repeat' first|(refine zap rfl ?_;refine zbc rfl rfl (by omega) ?_)|refine zyl 0 rfl ?_|refine zyf rfl ?_|refine zyn ?_
 refine zci rfl ?_
 refine zyx ?_
 first|refine zcp (by kernel_rfl) ?_|refine zcr [(.loud, 0), (.quiet, 1), (.quiet, 2), (.quiet, 3), (.loud, 4), (.loud, 5)] PP_mixed (by kernel_rfl) (by kernel_rfl) ?_|refine zeh PP_mixed (by kernel_rfl) (by kernel_rfl) ?_
 repeat' first|(refine zap rfl ?_;first|refine zcb rfl ?_|refine zar (fun tp => ?_)|refine zah [] (zez w0) rfl rfl rfl zdj rfl ?_|refine zae 1 rfl rfl rfl rfl rfl rfl rfl ?_)|refine zyl 0 rfl ?_|refine zyf rfl ?_|refine zyn ?_
 refine zeb [1] rfl ?_
 repeat' first|refine zck ?_|refine zcm ?_|refine zcl ?_|refine zcn ?_|refine zyq ?_|(refine zap rfl ?_;first|refine zds rfl rfl (by decide +kernel) ?_|refine zdr rfl rfl (by decide +kernel) ?_|refine zah [0] hop rfl rfl rfl zdj rfl ?_)|refine zp ?_|refine zyl 0 rfl ?_|refine zch ?_|refine zcj rfl ?_
 exact zei rfl ⟨rfl, rfl⟩
end Go.Proofs.YtgdhcgnmffgkiaaGreatDoor
