import Derived.Test.YtgdhcgnmffgkiaaGreatDoorPart14
import Derived.Test.YtgdhcgnmffgkiaaGreatDoorPart3
import Derived.Test.YtgdhcgnmffgkiaaGreatDoorKit
import Derived.Test.YtgdhcgnmffgkiaaGreatDoorPart10
import Derived.Test.YtgdhcgnmffgkiaaGreatDoorPart1
import Derived.Test.YtgdhcgnmffgkiaaGreatDoorPart8
/- Own work: lemmas of this claim. -/
namespace Go.Proofs.YtgdhcgnmffgkiaaGreatDoor
variable (w0 : World)
open Go.Vc Sim
set_option maxHeartbeats 4000000
theorem fix_verts {w0 : World} {f : FuncId} {args : List Value} {p : Nat} {s s' : Sp} {n e : Int} (h : FnE PP w0 [] f args [SpaceA p s] (encI2 (fixE (if e ≠ 0 then (0, e) else (n, e)))) [SpaceA p s']) : FnE PP w0 [] f args [SpaceA p s] (encI2 (fixE (n, e))) [SpaceA p s'] := by
 have e1 : fixE (if e ≠ 0 then (0, e) else (n, e)) = fixE (n, e) := by
   unfold fixE
   by_cases he : e ≠ 0
   · rw [if_pos he]; dsimp only; rw [if_pos he, if_pos he]
   · rw [if_neg he]
 rw [e1] at h
 exact h
theorem mt_cGet (r : Int) : MtOk w0 0 r (bs [103, 101, 116], 0, false) :=
 mt_pg (m := (_, 194)) (fun _ _ _ => Ctr.get r) (fun v => (v, 0)) (fun _ _ _ => len_bd (Pg.bd_gt0 _) (by decide))
   (fun p x y z s hs => direct_small w0 p 0 r (by decide) _ x y z s _ _ (dir_cGet w0 p r x s _ _ (fnL (ctrGet w0 p r) (Pg.bd_gt0 _) (by decide) s hs)))
   (fun sh p s l a c hs _ _ => clo_cGet w0 sh p awP r _ s _ _ (fnL (ctrGet w0 p r) (Pg.bd_gt0 _) (by decide) s hs))
theorem mt_cAdd (r : Int) : MtOk w0 0 r (bs [97, 100, 100], 1, true) :=
 mt_pg (m := (_, 196)) (fun x _ _ => Ctr.add r x) (fun q => q) (fun _ _ _ => len_bd (Ctr.bd_add _ _) (by decide))
   (fun p x y z s hs => direct_small w0 p 0 r (by decide) _ x y z s _ _ (dir_cAdd w0 p r x s _ _ (fnL (ctrAdd w0 p r x) (Ctr.bd_add _ _) (by decide) s hs)))
   (fun sh p s l a c hs hl hR => by
     have hl : (l.length : Int) = 1 := hl
     exact clo_cAdd w0 sh p awP r (l.getD 0 0) l a c hR (getD_some (by omega)) s _ _ (fnL (ctrAdd w0 p r (l.getD 0 0)) (Ctr.bd_add _ _) (by decide) s hs))
theorem mt_cSet (r : Int) : MtOk w0 0 r (bs [115, 101, 116], 1, true) :=
 mt_pg (m := (_, 197)) (fun x _ _ => Ctr.set r x) (fun v => (v, 0)) (fun _ _ _ => len_bd (Ctr.bd_set _ _) (by decide))
   (fun p x y z s hs => direct_small w0 p 0 r (by decide) _ x y z s _ _ (dir_cSet w0 p r x s _ _ (fnL (ctrSet w0 p r x) (Ctr.bd_set _ _) (by decide) s hs)))
   (fun sh p s l a c hs hl hR => by
     have hl : (l.length : Int) = 1 := hl
     exact clo_cSet w0 sh p awP r (l.getD 0 0) l a c hR (getD_some (by omega)) s _ _ (fnL (ctrSet w0 p r (l.getD 0 0)) (Ctr.bd_set _ _) (by decide) s hs))
theorem mt_sPush (r : Int) : MtOk w0 1 r (bs [112, 117, 115, 104], 1, true) :=
 mt_pg (m := (_, 198)) (fun x _ _ => Stk.push awP r x) (fun e => (0, e)) (fun _ _ _ => len_bd (Stk.bd_push _ _ _) (by decide))
   (fun p x y z s hs => direct_small w0 p 1 r (by decide) _ x y z s _ _ (dir_sPush w0 p r x s _ _ (fnL (stPush w0 p awP awP_ok r x) (Stk.bd_push _ _ _) (by decide) s hs)))
   (fun sh p s l a c hs hl hR => by
     have hl : (l.length : Int) = 1 := hl
     exact clo_sPush w0 sh p awP r (l.getD 0 0) l a c hR (getD_some (by omega)) s _ _ (fnL (stPush w0 p awP awP_ok r (l.getD 0 0)) (Stk.bd_push _ _ _) (by decide) s hs))
theorem mt_sPop (r : Int) : MtOk w0 1 r (bs [112, 111, 112], 0, true) :=
 mt_pg (m := (_, 200)) (fun _ _ _ => Stk.pop awP r) (fun q => q) (fun _ _ _ => len_bd (Stk.bd_pop _ _) (by decide))
   (fun p x y z s hs => direct_small w0 p 1 r (by decide) _ x y z s _ _ (dir_sPop w0 p r x s _ _ (fnL (stPop w0 p awP awP_ok r) (Stk.bd_pop _ _) (by decide) s hs)))
   (fun sh p s l a c hs _ _ => clo_sPop w0 sh p awP r _ s _ _ (fnL (stPop w0 p awP awP_ok r) (Stk.bd_pop _ _) (by decide) s hs))
theorem mt_sTop (r : Int) : MtOk w0 1 r (bs [116, 111, 112], 0, false) :=
 mt_pg (m := (_, 201)) (fun _ _ _ => Stk.top r) (fun q => q) (fun _ _ _ => len_bd (Stk.bd_top _) (by decide))
   (fun p x y z s hs => direct_small w0 p 1 r (by decide) _ x y z s _ _ (dir_sTop w0 p r x s _ _ (fnL (stTop w0 p r) (Stk.bd_top _) (by decide) s hs)))
   (fun sh p s l a c hs _ _ => clo_sTop w0 sh p awP r _ s _ _ (fnL (stTop w0 p r) (Stk.bd_top _) (by decide) s hs))
theorem mt_sLen (r : Int) : MtOk w0 1 r (bs [108, 101, 110], 0, false) :=
 mt_pg (m := (_, 202)) (fun _ _ _ => Stk.len r) (fun v => (v, 0)) (fun _ _ _ => len_bd (Pg.bd_gt0 _) (by decide))
   (fun p x y z s hs => direct_small w0 p 1 r (by decide) _ x y z s _ _ (dir_sLen w0 p r x s _ _ (fnL (stLen w0 p r) (Pg.bd_gt0 _) (by decide) s hs)))
   (fun sh p s l a c hs _ _ => clo_sLen w0 sh p awP r _ s _ _ (fnL (stLen w0 p r) (Pg.bd_gt0 _) (by decide) s hs))
theorem mt_qPut (r : Int) : MtOk w0 2 r (bs [112, 117, 116], 1, true) :=
 mt_pg (m := (_, 203)) (fun x _ _ => Qu.put awP r x) (fun e => (0, e)) (fun _ _ _ => len_bd (Qu.bd_put _ _ _) (by decide))
   (fun p x y z s hs => direct_small w0 p 2 r (by decide) _ x y z s _ _ (dir_qPut w0 p r x s _ _ (fnL (quPut w0 p awP awP_ok r x) (Qu.bd_put _ _ _) (by decide) s hs)))
   (fun sh p s l a c hs hl hR => by
     have hl : (l.length : Int) = 1 := hl
     exact clo_qPut w0 sh p awP r (l.getD 0 0) l a c hR (getD_some (by omega)) s _ _ (fnL (quPut w0 p awP awP_ok r (l.getD 0 0)) (Qu.bd_put _ _ _) (by decide) s hs))
theorem mt_qTake (r : Int) : MtOk w0 2 r (bs [116, 97, 107, 101], 0, true) :=
 mt_pg (m := (_, 204)) (fun _ _ _ => Qu.take awP r) (fun q => q) (fun _ _ _ => len_bd (Qu.bd_take _ _) (by decide))
   (fun p x y z s hs => direct_small w0 p 2 r (by decide) _ x y z s _ _ (dir_qTake w0 p r x s _ _ (fnL (quTake w0 p awP awP_ok r) (Qu.bd_take _ _) (by decide) s hs)))
   (fun sh p s l a c hs _ _ => clo_qTake w0 sh p awP r _ s _ _ (fnL (quTake w0 p awP awP_ok r) (Qu.bd_take _ _) (by decide) s hs))
theorem mt_qFirst (r : Int) : MtOk w0 2 r (bs [102, 105, 114, 115, 116], 0, false) :=
 mt_pg (m := (_, 205)) (fun _ _ _ => Qu.first r) (fun q => q) (fun _ _ _ => len_bd (Qu.bd_first _) (by decide))
   (fun p x y z s hs => direct_small w0 p 2 r (by decide) _ x y z s _ _ (dir_qFirst w0 p r x s _ _ (fnL (quFirst w0 p r) (Qu.bd_first _) (by decide) s hs)))
   (fun sh p s l a c hs _ _ => clo_qFirst w0 sh p awP r _ s _ _ (fnL (quFirst w0 p r) (Qu.bd_first _) (by decide) s hs))
theorem mt_qLen (r : Int) : MtOk w0 2 r (bs [108, 101, 110], 0, false) :=
 mt_pg (m := (_, 206)) (fun _ _ _ => Qu.len r) (fun v => (v, 0)) (fun _ _ _ => len_bd (Qu.bd_len _) (by decide))
   (fun p x y z s hs => direct_small w0 p 2 r (by decide) _ x y z s _ _ (dir_qLen w0 p r x s _ _ (fnL (quLen w0 p r) (Qu.bd_len _) (by decide) s hs)))
   (fun sh p s l a c hs _ _ => clo_qLen w0 sh p awP r _ s _ _ (fnL (quLen w0 p r) (Qu.bd_len _) (by decide) s hs))
theorem mt_dPushL (r : Int) : MtOk w0 3 r (bs [112, 117, 115, 104, 95, 108, 101, 102, 116], 1, true) :=
 mt_pg (m := (_, 207)) (fun x _ _ => Dq.push awP r x false) (fun e => (0, e)) (fun _ _ _ => len_bd (Dq.bd_push _ _ _ _) (by decide))
   (fun p x y z s hs => direct_small w0 p 3 r (by decide) _ x y z s _ _ (dir_dPushL w0 p r x s _ _ (fnL (dqPush w0 p awP awP_ok r x false) (Dq.bd_push _ _ _ _) (by decide) s hs)))
   (fun sh p s l a c hs hl hR => by
     have hl : (l.length : Int) = 1 := hl
     exact clo_dPushL w0 sh p awP r (l.getD 0 0) l a c hR (getD_some (by omega)) s _ _ (fnL (dqPush w0 p awP awP_ok r (l.getD 0 0) false) (Dq.bd_push _ _ _ _) (by decide) s hs))
theorem mt_dPushR (r : Int) : MtOk w0 3 r (bs [112, 117, 115, 104, 95, 114, 105, 103, 104, 116], 1, true) :=
 mt_pg (m := (_, 208)) (fun x _ _ => Dq.push awP r x true) (fun e => (0, e)) (fun _ _ _ => len_bd (Dq.bd_push _ _ _ _) (by decide))
   (fun p x y z s hs => direct_small w0 p 3 r (by decide) _ x y z s _ _ (dir_dPushR w0 p r x s _ _ (fnL (dqPush w0 p awP awP_ok r x true) (Dq.bd_push _ _ _ _) (by decide) s hs)))
   (fun sh p s l a c hs hl hR => by
     have hl : (l.length : Int) = 1 := hl
     exact clo_dPushR w0 sh p awP r (l.getD 0 0) l a c hR (getD_some (by omega)) s _ _ (fnL (dqPush w0 p awP awP_ok r (l.getD 0 0) true) (Dq.bd_push _ _ _ _) (by decide) s hs))
theorem mt_dPopL (r : Int) : MtOk w0 3 r (bs [112, 111, 112, 95, 108, 101, 102, 116], 0, true) :=
 mt_pg (m := (_, 209)) (fun _ _ _ => Dq.pop awP r false) (fun q => q) (fun _ _ _ => len_bd (Dq.bd_pop _ _ _) (by decide))
   (fun p x y z s hs => direct_small w0 p 3 r (by decide) _ x y z s _ _ (dir_dPopL w0 p r x s _ _ (fnL (dqPop w0 p awP awP_ok r false) (Dq.bd_pop _ _ _) (by decide) s hs)))
   (fun sh p s l a c hs _ _ => clo_dPopL w0 sh p awP r _ s _ _ (fnL (dqPop w0 p awP awP_ok r false) (Dq.bd_pop _ _ _) (by decide) s hs))
theorem mt_dPopR (r : Int) : MtOk w0 3 r (bs [112, 111, 112, 95, 114, 105, 103, 104, 116], 0, true) :=
 mt_pg (m := (_, 210)) (fun _ _ _ => Dq.pop awP r true) (fun q => q) (fun _ _ _ => len_bd (Dq.bd_pop _ _ _) (by decide))
   (fun p x y z s hs => direct_small w0 p 3 r (by decide) _ x y z s _ _ (dir_dPopR w0 p r x s _ _ (fnL (dqPop w0 p awP awP_ok r true) (Dq.bd_pop _ _ _) (by decide) s hs)))
   (fun sh p s l a c hs _ _ => clo_dPopR w0 sh p awP r _ s _ _ (fnL (dqPop w0 p awP awP_ok r true) (Dq.bd_pop _ _ _) (by decide) s hs))
theorem mt_dLeft (r : Int) : MtOk w0 3 r (bs [108, 101, 102, 116], 0, false) :=
 mt_pg (m := (_, 211)) (fun _ _ _ => Dq.peek r false) (fun q => q) (fun _ _ _ => len_bd (Dq.bd_peek _ _) (by decide))
   (fun p x y z s hs => direct_small w0 p 3 r (by decide) _ x y z s _ _ (dir_dLeft w0 p r x s _ _ (fnL (dqPeek w0 p r false) (Dq.bd_peek _ _) (by decide) s hs)))
   (fun sh p s l a c hs _ _ => clo_dLeft w0 sh p awP r _ s _ _ (fnL (dqPeek w0 p r false) (Dq.bd_peek _ _) (by decide) s hs))
theorem mt_dRight (r : Int) : MtOk w0 3 r (bs [114, 105, 103, 104, 116], 0, false) :=
 mt_pg (m := (_, 212)) (fun _ _ _ => Dq.peek r true) (fun q => q) (fun _ _ _ => len_bd (Dq.bd_peek _ _) (by decide))
   (fun p x y z s hs => direct_small w0 p 3 r (by decide) _ x y z s _ _ (dir_dRight w0 p r x s _ _ (fnL (dqPeek w0 p r true) (Dq.bd_peek _ _) (by decide) s hs)))
   (fun sh p s l a c hs _ _ => clo_dRight w0 sh p awP r _ s _ _ (fnL (dqPeek w0 p r true) (Dq.bd_peek _ _) (by decide) s hs))
theorem mt_dLen (r : Int) : MtOk w0 3 r (bs [108, 101, 110], 0, false) :=
 mt_pg (m := (_, 213)) (fun _ _ _ => Dq.len r) (fun v => (v, 0)) (fun _ _ _ => len_bd (Pg.bd_gt0 _) (by decide))
   (fun p x y z s hs => direct_small w0 p 3 r (by decide) _ x y z s _ _ (dir_dLen w0 p r x s _ _ (fnL (dqLen w0 p r) (Pg.bd_gt0 _) (by decide) s hs)))
   (fun sh p s l a c hs _ _ => clo_dLen w0 sh p awP r _ s _ _ (fnL (dqLen w0 p r) (Pg.bd_gt0 _) (by decide) s hs))
theorem mt_aPush (hw : PowOk w0) (r : Int) (hr : 0 ≤ r ∧ r ≤ 4096) : MtOk w0 7 r (bs [112, 117, 115, 104], 1, true) :=
 mt_pg (m := (_, 214)) (fun x _ _ => Aq.push ⟨awP, r⟩ x) (fun q => q) (fun x _ _ => aqPush_len r x)
   (fun p x y z s hs => direct_rows w0 p 7 r (by decide) _ x y z s _ _ (dir_aPush w0 p r x y s _ _ (aqPush w0 hw p r hr x s hs)))
   (fun sh p s l a c hs hl hR => by
     have hl : (l.length : Int) = 1 := hl
     exact clo_aPush w0 sh p awP r (l.getD 0 0) l a c hR (getD_some (by omega)) s _ _ (aqPush w0 hw p r hr (l.getD 0 0) s hs))
theorem mt_aPop (hw : PowOk w0) (r : Int) (hr : 0 ≤ r ∧ r ≤ 4096) : MtOk w0 7 r (bs [112, 111, 112], 0, true) :=
 mt_pg (m := (_, 216)) (fun _ _ _ => Aq.pop ⟨awP, r⟩) (fun q => q) (fun _ _ _ => aqPop_len r)
   (fun p x y z s hs => direct_rows w0 p 7 r (by decide) _ x y z s _ _ (dir_aPop w0 p r x y s _ _ (aqPop w0 hw p r hr s hs)))
   (fun sh p s l a c hs _ _ => clo_aPop w0 sh p awP r _ s _ _ (aqPop w0 hw p r hr s hs))
theorem mt_aGet (hw : PowOk w0) (r : Int) (hr : 0 ≤ r ∧ r ≤ 4096) : MtOk w0 7 r (bs [103, 101, 116], 1, false) :=
 mt_pg (m := (_, 217)) (fun x _ _ => Aq.get ⟨awP, r⟩ x) (fun q => q) (fun x _ _ => aqGet_len r x)
   (fun p x y z s hs => direct_rows w0 p 7 r (by decide) _ x y z s _ _ (dir_aGet w0 p r x y s _ _ (aqGet w0 hw p r hr x s hs)))
   (fun sh p s l a c hs hl hR => by
     have hl : (l.length : Int) = 1 := hl
     exact clo_aGet w0 sh p awP r (l.getD 0 0) l a c hR (getD_some (by omega)) s _ _ (aqGet w0 hw p r hr (l.getD 0 0) s hs))
theorem mt_aSet (hw : PowOk w0) (r : Int) (hr : 0 ≤ r ∧ r ≤ 4096) : MtOk w0 7 r (bs [115, 101, 116], 2, true) :=
 mt_pg (m := (_, 218)) (fun x y _ => Aq.set ⟨awP, r⟩ x y) (fun q => q) (fun x y _ => aqSet_len r x y)
   (fun p x y z s hs => direct_rows w0 p 7 r (by decide) _ x y z s _ _ (dir_aSet w0 p r x y s _ _ (aqSet w0 hw p r hr x y s hs)))
   (fun sh p s l a c hs hl hR => by
     have hl : (l.length : Int) = 2 := hl
     exact clo_aSet w0 sh p awP r (l.getD 0 0) (l.getD 1 0) l a c hR (getD_some (by omega)) (getD_some (by omega)) s _ _ (aqSet w0 hw p r hr (l.getD 0 0) (l.getD 1 0) s hs))
theorem mt_aSwap (hw : PowOk w0) (r : Int) (hr : 0 ≤ r ∧ r ≤ 4096) : MtOk w0 7 r (bs [115, 119, 97, 112], 2, true) :=
 mt_pg (m := (_, 219)) (fun x y _ => Aq.swap ⟨awP, r⟩ x y) (fun e => (0, e)) (fun x y _ => aqSwap_len r x y)
   (fun p x y z s hs => direct_rows w0 p 7 r (by decide) _ x y z s _ _ (dir_aSwap w0 p r x y s _ _ (aqSwap w0 hw p r hr x y s hs)))
   (fun sh p s l a c hs hl hR => by
     have hl : (l.length : Int) = 2 := hl
     exact clo_aSwap w0 sh p awP r (l.getD 0 0) (l.getD 1 0) l a c hR (getD_some (by omega)) (getD_some (by omega)) s _ _ (aqSwap w0 hw p r hr (l.getD 0 0) (l.getD 1 0) s hs))
theorem mt_aLen (r : Int) (hr : 0 ≤ r ∧ r ≤ 4096) : MtOk w0 7 r (bs [108, 101, 110], 0, false) :=
 mt_pg (m := (_, 220)) (fun _ _ _ => Pg.gt ((⟨awP, r⟩ : Ar).root + 1)) (fun v => (v, 0)) (fun _ _ _ => len_bd (Pg.bd_gt0 _) (by decide))
   (fun p x y z s hs => direct_rows w0 p 7 r (by decide) _ x y z s _ _ (dir_aLen w0 p r x y s _ _ (aqLen w0 p r hr s hs)))
   (fun sh p s l a c hs _ _ => clo_aLen w0 sh p awP r _ s _ _ (aqLen w0 p r hr s hs))
theorem mt_mPut (r : Int) (hr : 0 ≤ r ∧ r ≤ 4096) : MtOk w0 4 r (bs [112, 117, 116], 2, true) :=
 mt_pg (m := (_, 221)) (fun x y _ => (⟨awP, r, hsI, fun _ => true⟩ : Tr).put x (hsI x) y) (fun q => (q.1.1, q.2)) (fun _ _ _ => len_bd (Tr.bd_put _ _ _ _) (by decide))
   (fun p x y z s hs => direct_mapped w0 p 4 r (by decide) _ x y z s _ _ (dir_mPut w0 p r x y s _ _ _ _ (fnL (trPut w0 p _ (okM r hr) (tI_of awP r) x y) (Tr.bd_put _ _ _ _) (by decide) s hs)))
   (fun sh p s l a c hs hl hR => by
     have hl : (l.length : Int) = 2 := hl
     exact clo_mPut w0 sh p awP r (l.getD 0 0) (l.getD 1 0) l a c hR (getD_some (by omega)) (getD_some (by omega)) s _ _ _ _ (fnL (trPut w0 p _ (okM r hr) (tI_of awP r) (l.getD 0 0) (l.getD 1 0)) (Tr.bd_put _ _ _ _) (by decide) s hs))
theorem mt_mGet (r : Int) (hr : 0 ≤ r ∧ r ≤ 4096) : MtOk w0 4 r (bs [103, 101, 116], 1, false) :=
 mt_pg (m := (_, 223)) (fun x _ _ => (⟨awP, r, hsI, fun _ => true⟩ : Tr).get x (hsI x)) (fun q => if q.2 = true then (q.1, 0) else (0, 10)) (fun _ _ _ => len_bd (Tr.bd_get _ _ _) (by decide))
   (fun p x y z s hs => direct_mapped w0 p 4 r (by decide) _ x y z s _ _ (dir_mGet w0 p r x y s _ _ _ (fnL (trGet w0 p _ (okM r hr) (tI_of awP r) x) (Tr.bd_get _ _ _) (by decide) s hs)))
   (fun sh p s l a c hs hl hR => by
     have hl : (l.length : Int) = 1 := hl
     exact clo_mGet w0 sh p awP r (l.getD 0 0) l a c hR (getD_some (by omega)) s _ _ _ (fnL (trGet w0 p _ (okM r hr) (tI_of awP r) (l.getD 0 0)) (Tr.bd_get _ _ _) (by decide) s hs))
theorem mt_mHas (r : Int) (hr : 0 ≤ r ∧ r ≤ 4096) : MtOk w0 4 r (bs [104, 97, 115], 1, false) :=
 mt_pg (m := (_, 225)) (fun x _ _ => (⟨awP, r, hsI, fun _ => true⟩ : Tr).get x (hsI x)) (fun q => if q.2 = true then (1, 0) else (0, 0)) (fun _ _ _ => len_bd (Tr.bd_get _ _ _) (by decide))
   (fun p x y z s hs => direct_mapped w0 p 4 r (by decide) _ x y z s _ _ (dir_mHas w0 p r x y s _ _ _ (fnL (trGet w0 p _ (okM r hr) (tI_of awP r) x) (Tr.bd_get _ _ _) (by decide) s hs)))
   (fun sh p s l a c hs hl hR => by
     have hl : (l.length : Int) = 1 := hl
     exact clo_mHas w0 sh p awP r (l.getD 0 0) l a c hR (getD_some (by omega)) s _ _ _ (fnL (trGet w0 p _ (okM r hr) (tI_of awP r) (l.getD 0 0)) (Tr.bd_get _ _ _) (by decide) s hs))
theorem mt_mDrop (r : Int) (hr : 0 ≤ r ∧ r ≤ 4096) : MtOk w0 4 r (bs [100, 114, 111, 112], 1, true) :=
 mt_pg (m := (_, 227)) (fun x _ _ => (⟨awP, r, hsI, fun _ => true⟩ : Tr).drop x (hsI x)) (fun q => if q.2 ≠ 0 then (0, q.2) else if q.1.2 = true then (q.1.1, 0) else (0, 10)) (fun _ _ _ => len_bd (Tr.bd_drop _ (okM r hr) _ _) (by decide))
   (fun p x y z s hs => direct_mapped w0 p 4 r (by decide) _ x y z s _ _ (dir_mDrop w0 p r x y s _ _ _ _ (fnL (trDrop w0 p _ (okM r hr) (tI_of awP r) x) (Tr.bd_drop _ (okM r hr) _ _) (by decide) s hs)))
   (fun sh p s l a c hs hl hR => by
     have hl : (l.length : Int) = 1 := hl
     exact clo_mDrop w0 sh p awP r (l.getD 0 0) l a c hR (getD_some (by omega)) s _ _ _ _ (fnL (trDrop w0 p _ (okM r hr) (tI_of awP r) (l.getD 0 0)) (Tr.bd_drop _ (okM r hr) _ _) (by decide) s hs))
theorem mt_tPut (r : Int) (hr : 0 ≤ r ∧ r ≤ 4096) : MtOk w0 5 r (bs [112, 117, 116], 2, true) :=
 mt_pg (m := (_, 230)) (fun x y _ => (⟨awP, r⟩ : Te).put x y) (fun q => (q.1.1, q.2)) (fun _ _ _ => len_bd (Te.bd_put _ (okT r hr) _ _) (by decide))
   (fun p x y z s hs => direct_mapped w0 p 5 r (by decide) _ x y z s _ _ (dir_tPut w0 p r x y s _ _ _ _ (fnL (tePutKey w0 p _ (okT r hr) x y) (Te.bd_put _ (okT r hr) _ _) (by decide) s hs)))
   (fun sh p s l a c hs hl hR => by
     have hl : (l.length : Int) = 2 := hl
     exact clo_tPut w0 sh p awP r (l.getD 0 0) (l.getD 1 0) l a c hR (getD_some (by omega)) (getD_some (by omega)) s _ _ _ _ (fnL (tePutKey w0 p _ (okT r hr) (l.getD 0 0) (l.getD 1 0)) (Te.bd_put _ (okT r hr) _ _) (by decide) s hs))
theorem mt_tGet (r : Int) (hr : 0 ≤ r ∧ r ≤ 4096) : MtOk w0 5 r (bs [103, 101, 116], 1, false) :=
 mt_pg (m := (_, 232)) (fun x _ _ => (⟨awP, r⟩ : Te).get x) (fun q => if q.2 = true then (q.1, 0) else (0, 10)) (fun _ _ _ => len_bd (Te.bd_get _ _) (by decide))
   (fun p x y z s hs => direct_mapped w0 p 5 r (by decide) _ x y z s _ _ (dir_tGet w0 p r x y s _ _ _ (fnL (teGetKey w0 p _ (okT r hr) x) (Te.bd_get _ _) (by decide) s hs)))
   (fun sh p s l a c hs hl hR => by
     have hl : (l.length : Int) = 1 := hl
     exact clo_tGet w0 sh p awP r (l.getD 0 0) l a c hR (getD_some (by omega)) s _ _ _ (fnL (teGetKey w0 p _ (okT r hr) (l.getD 0 0)) (Te.bd_get _ _) (by decide) s hs))
theorem mt_tHas (r : Int) (hr : 0 ≤ r ∧ r ≤ 4096) : MtOk w0 5 r (bs [104, 97, 115], 1, false) :=
 mt_pg (m := (_, 233)) (fun x _ _ => (⟨awP, r⟩ : Te).get x) (fun q => if q.2 = true then (1, 0) else (0, 0)) (fun _ _ _ => len_bd (Te.bd_get _ _) (by decide))
   (fun p x y z s hs => direct_mapped w0 p 5 r (by decide) _ x y z s _ _ (dir_tHas w0 p r x y s _ _ _ (fnL (teGetKey w0 p _ (okT r hr) x) (Te.bd_get _ _) (by decide) s hs)))
   (fun sh p s l a c hs hl hR => by
     have hl : (l.length : Int) = 1 := hl
     exact clo_tHas w0 sh p awP r (l.getD 0 0) l a c hR (getD_some (by omega)) s _ _ _ (fnL (teGetKey w0 p _ (okT r hr) (l.getD 0 0)) (Te.bd_get _ _) (by decide) s hs))
theorem mt_tDrop (r : Int) (hr : 0 ≤ r ∧ r ≤ 4096) : MtOk w0 5 r (bs [100, 114, 111, 112], 1, true) :=
 mt_pg (m := (_, 234)) (fun x _ _ => (⟨awP, r⟩ : Te).drop x) (fun q => if q.2 ≠ 0 then (0, q.2) else if q.1.2 = true then (q.1.1, 0) else (0, 10)) (fun _ _ _ => len_bd (Te.bd_drop _ (okT r hr) _) (by decide))
   (fun p x y z s hs => direct_mapped w0 p 5 r (by decide) _ x y z s _ _ (dir_tDrop w0 p r x y s _ _ _ _ (fnL (teDropKey w0 p _ (okT r hr) x) (Te.bd_drop _ (okT r hr) _) (by decide) s hs)))
   (fun sh p s l a c hs hl hR => by
     have hl : (l.length : Int) = 1 := hl
     exact clo_tDrop w0 sh p awP r (l.getD 0 0) l a c hR (getD_some (by omega)) s _ _ _ _ (fnL (teDropKey w0 p _ (okT r hr) (l.getD 0 0)) (Te.bd_drop _ (okT r hr) _) (by decide) s hs))
theorem mt_mLen (r : Int) (hr : 0 ≤ r ∧ r ≤ 4096) : MtOk w0 4 r (bs [108, 101, 110], 0, false) :=
 mt_pg (m := (_, 229)) (fun _ _ _ => (⟨awP, r, hsI, fun _ => true⟩ : Tr).len) (fun v => (v, 0)) (fun _ _ _ => len_bd (Pg.bd_gt0 _) (by decide))
   (fun p x y z s hs => direct_mapped w0 p 4 r (by decide) _ x y z s _ _ (dir_mLen w0 p r x y s _ _ (fnL (trLen w0 p _ (okM r hr)) (Pg.bd_gt0 _) (by decide) s hs)))
   (fun sh p s l a c hs _ _ => clo_mLen w0 sh p awP r _ s _ _ (fnL (trLen w0 p _ (okM r hr)) (Pg.bd_gt0 _) (by decide) s hs))
theorem mt_tSum (r : Int) (hr : 0 ≤ r ∧ r ≤ 4096) : MtOk w0 5 r (bs [115, 117, 109], 2, false) :=
 mt_pg (m := (_, 235)) (fun x y _ => (⟨awP, r⟩ : Te).between x y 5 Te.sumO) (fun v => (v, 0)) (fun _ _ _ => len_bd (Te.bd_between _ _ _ _ _ Te.bd_sumO) (by decide))
   (fun p x y z s hs => direct_mapped w0 p 5 r (by decide) _ x y z s _ _ (dir_tSum w0 p r x y s _ _ (fnL (teSum w0 p _ (okT r hr) x y) (Te.bd_between _ _ _ _ _ Te.bd_sumO) (by decide) s hs)))
   (fun sh p s l a c hs hl hR => by
     have hl : (l.length : Int) = 2 := hl
     exact clo_tSum w0 sh p awP r (l.getD 0 0) (l.getD 1 0) l a c hR (getD_some (by omega)) (getD_some (by omega)) s _ _ (fnL (teSum w0 p _ (okT r hr) (l.getD 0 0) (l.getD 1 0)) (Te.bd_between _ _ _ _ _ Te.bd_sumO) (by decide) s hs))
theorem mt_tCount (r : Int) (hr : 0 ≤ r ∧ r ≤ 4096) : MtOk w0 5 r (bs [99, 111, 117, 110, 116], 2, false) :=
 mt_pg (m := (_, 236)) (fun x y _ => (⟨awP, r⟩ : Te).between x y 4 Te.countO) (fun v => (v, 0)) (fun _ _ _ => len_bd (Te.bd_between _ _ _ _ _ Te.bd_countO) (by decide))
   (fun p x y z s hs => direct_mapped w0 p 5 r (by decide) _ x y z s _ _ (dir_tCount w0 p r x y s _ _ (fnL (teCount w0 p _ (okT r hr) x y) (Te.bd_between _ _ _ _ _ Te.bd_countO) (by decide) s hs)))
   (fun sh p s l a c hs hl hR => by
     have hl : (l.length : Int) = 2 := hl
     exact clo_tCount w0 sh p awP r (l.getD 0 0) (l.getD 1 0) l a c hR (getD_some (by omega)) (getD_some (by omega)) s _ _ (fnL (teCount w0 p _ (okT r hr) (l.getD 0 0) (l.getD 1 0)) (Te.bd_between _ _ _ _ _ Te.bd_countO) (by decide) s hs))
theorem mt_tNext (r : Int) (hr : 0 ≤ r ∧ r ≤ 4096) : MtOk w0 5 r (bs [110, 101, 120, 116], 1, false) :=
 mt_pg (m := (_, 237)) (fun x _ _ => (⟨awP, r⟩ : Te).next x) (fun q => if q.2 = true then (q.1, 0) else (0, 10)) (fun _ _ _ => len_bd (Te.bd_next _ _) (by decide))
   (fun p x y z s hs => direct_mapped w0 p 5 r (by decide) _ x y z s _ _ (dir_tNext w0 p r x y s _ _ _ (fnL (teNext w0 p _ (okT r hr) x) (Te.bd_next _ _) (by decide) s hs)))
   (fun sh p s l a c hs hl hR => by
     have hl : (l.length : Int) = 1 := hl
     exact clo_tNext w0 sh p awP r (l.getD 0 0) l a c hR (getD_some (by omega)) s _ _ _ (fnL (teNext w0 p _ (okT r hr) (l.getD 0 0)) (Te.bd_next _ _) (by decide) s hs))
theorem mt_tNth (r : Int) (hr : 0 ≤ r ∧ r ≤ 4096) : MtOk w0 5 r (bs [110, 116, 104], 1, false) :=
 mt_pg (m := (_, 238)) (fun x _ _ => (⟨awP, r⟩ : Te).nth x) (fun q => if q.2 = true then (q.1, 0) else (0, 10)) (fun _ _ _ => len_bd (Te.bd_nth _ _) (by decide))
   (fun p x y z s hs => direct_mapped w0 p 5 r (by decide) _ x y z s _ _ (dir_tNth w0 p r x y s _ _ _ (fnL (teNth w0 p _ (okT r hr) x) (Te.bd_nth _ _) (by decide) s hs)))
   (fun sh p s l a c hs hl hR => by
     have hl : (l.length : Int) = 1 := hl
     exact clo_tNth w0 sh p awP r (l.getD 0 0) l a c hR (getD_some (by omega)) s _ _ _ (fnL (teNth w0 p _ (okT r hr) (l.getD 0 0)) (Te.bd_nth _ _) (by decide) s hs))
theorem mt_tLen (r : Int) : MtOk w0 5 r (bs [108, 101, 110], 0, false) :=
 mt_pg (m := (_, 239)) (fun _ _ _ => (⟨awP, r⟩ : Te).len) (fun v => (v, 0)) (fun _ _ _ => len_bd (Pg.bd_gt0 _) (by decide))
   (fun p x y z s hs => direct_mapped w0 p 5 r (by decide) _ x y z s _ _ (dir_tLen w0 p r x y s _ _ (fnL (teLen w0 p ⟨awP, r⟩) (Pg.bd_gt0 _) (by decide) s hs)))
   (fun sh p s l a c hs _ _ => clo_tLen w0 sh p awP r _ s _ _ (fnL (teLen w0 p ⟨awP, r⟩) (Pg.bd_gt0 _) (by decide) s hs))
theorem mt_hPush (r : Int) (hr : 0 ≤ r ∧ r ≤ 4096) : MtOk w0 6 r (bs [112, 117, 115, 104], 2, true) :=
 mt_pg (m := (_, 240)) (fun x y _ => (⟨awP, r⟩ : He).push x y) (fun q => q) (fun _ _ _ => len_bd (He.bd_push _ _ _) (by decide))
   (fun p x y z s hs => direct_rows w0 p 6 r (by decide) _ x y z s _ _ (dir_hPush w0 p r x y s _ _ (fnL (hePush w0 p _ (okH r hr) x y) (He.bd_push _ _ _) (by decide) s hs)))
   (fun sh p s l a c hs hl hR => by
     have hl : (l.length : Int) = 2 := hl
     exact clo_hPush w0 sh p awP r (l.getD 0 0) (l.getD 1 0) l a c hR (getD_some (by omega)) (getD_some (by omega)) s _ _ (fnL (hePush w0 p _ (okH r hr) (l.getD 0 0) (l.getD 1 0)) (He.bd_push _ _ _) (by decide) s hs))
theorem mt_hPop (r : Int) (hr : 0 ≤ r ∧ r ≤ 4096) : MtOk w0 6 r (bs [112, 111, 112], 0, true) :=
 mt_pg (m := (_, 242)) (fun _ _ _ => (⟨awP, r⟩ : He).pop) (fun q => (q.1.2, q.2)) (fun _ _ _ => len_bd (He.bd_pop _) (by decide))
   (fun p x y z s hs => direct_rows w0 p 6 r (by decide) _ x y z s _ _ (dir_hPop w0 p r x y s _ _ _ _ (fnL (hePop w0 p _ (okH r hr)) (He.bd_pop _) (by decide) s hs)))
   (fun sh p s l a c hs _ _ => clo_hPop w0 sh p awP r _ s _ _ _ _ (fnL (hePop w0 p _ (okH r hr)) (He.bd_pop _) (by decide) s hs))
theorem mt_hMin (r : Int) (hr : 0 ≤ r ∧ r ≤ 4096) : MtOk w0 6 r (bs [109, 105, 110], 0, false) :=
 mt_pg (m := (_, 243)) (fun _ _ _ => (⟨awP, r⟩ : He).min) (fun q => (q.1.2, q.2)) (fun _ _ _ => len_bd (He.bd_min _) (by decide))
   (fun p x y z s hs => direct_rows w0 p 6 r (by decide) _ x y z s _ _ (dir_hMin w0 p r x y s _ _ _ _ (fnL (heMin w0 p _ (okH r hr)) (He.bd_min _) (by decide) s hs)))
   (fun sh p s l a c hs _ _ => clo_hMin w0 sh p awP r _ s _ _ _ _ (fnL (heMin w0 p _ (okH r hr)) (He.bd_min _) (by decide) s hs))
theorem mt_hLeast (r : Int) (hr : 0 ≤ r ∧ r ≤ 4096) : MtOk w0 6 r (bs [108, 101, 97, 115, 116], 0, false) :=
 mt_pg (m := (_, 244)) (fun _ _ _ => (⟨awP, r⟩ : He).min) (fun q => (q.1.1, q.2)) (fun _ _ _ => len_bd (He.bd_min _) (by decide))
   (fun p x y z s hs => direct_rows w0 p 6 r (by decide) _ x y z s _ _ (dir_hLeast w0 p r x y s _ _ _ _ (fnL (heMin w0 p _ (okH r hr)) (He.bd_min _) (by decide) s hs)))
   (fun sh p s l a c hs _ _ => clo_hLeast w0 sh p awP r _ s _ _ _ _ (fnL (heMin w0 p _ (okH r hr)) (He.bd_min _) (by decide) s hs))
theorem mt_hLower (r : Int) (hr : 0 ≤ r ∧ r ≤ 4096) : MtOk w0 6 r (bs [108, 111, 119, 101, 114], 2, true) :=
 mt_pg (m := (_, 245)) (fun x y _ => (⟨awP, r⟩ : He).lower x y) (fun e => (0, e)) (fun _ _ _ => len_bd (He.bd_lower _ _ _) (by decide))
   (fun p x y z s hs => direct_rows w0 p 6 r (by decide) _ x y z s _ _ (dir_hLower w0 p r x y s _ _ (fnL (heLower w0 p _ (okH r hr) x y) (He.bd_lower _ _ _) (by decide) s hs)))
   (fun sh p s l a c hs hl hR => by
     have hl : (l.length : Int) = 2 := hl
     exact clo_hLower w0 sh p awP r (l.getD 0 0) (l.getD 1 0) l a c hR (getD_some (by omega)) (getD_some (by omega)) s _ _ (fnL (heLower w0 p _ (okH r hr) (l.getD 0 0) (l.getD 1 0)) (He.bd_lower _ _ _) (by decide) s hs))
theorem mt_hDrop (r : Int) (hr : 0 ≤ r ∧ r ≤ 4096) : MtOk w0 6 r (bs [100, 114, 111, 112], 1, true) :=
 mt_pg (m := (_, 246)) (fun x _ _ => (⟨awP, r⟩ : He).drop x) (fun q => q) (fun _ _ _ => len_bd (He.bd_drop _ _) (by decide))
   (fun p x y z s hs => direct_rows w0 p 6 r (by decide) _ x y z s _ _ (dir_hDrop w0 p r x y s _ _ (fnL (heDrop w0 p _ (okH r hr) x) (He.bd_drop _ _) (by decide) s hs)))
   (fun sh p s l a c hs hl hR => by
     have hl : (l.length : Int) = 1 := hl
     exact clo_hDrop w0 sh p awP r (l.getD 0 0) l a c hR (getD_some (by omega)) s _ _ (fnL (heDrop w0 p _ (okH r hr) (l.getD 0 0)) (He.bd_drop _ _) (by decide) s hs))
theorem mt_hLen (r : Int) : MtOk w0 6 r (bs [108, 101, 110], 0, false) :=
 mt_pg (m := (_, 247)) (fun _ _ _ => (⟨awP, r⟩ : He).len) (fun v => (v, 0)) (fun _ _ _ => len_bd (Pg.bd_gt0 _) (by decide))
   (fun p x y z s hs => direct_rows w0 p 6 r (by decide) _ x y z s _ _ (dir_hLen w0 p r x y s _ _ (fnL (heLen w0 p ⟨awP, r⟩) (Pg.bd_gt0 _) (by decide) s hs)))
   (fun sh p s l a c hs _ _ => clo_hLen w0 sh p awP r _ s _ _ (fnL (heLen w0 p ⟨awP, r⟩) (Pg.bd_gt0 _) (by decide) s hs))
theorem mt_gAdd (r : Int) (hr : 0 ≤ r ∧ r ≤ 4096) : MtOk w0 8 r (bs [97, 100, 100], 1, true) :=
 mt_pg (m := (_, 248)) (fun x _ _ => (⟨awP, r⟩ : Gh).add x) (fun q => q) (fun _ _ _ => len_bd (Gh.bd_add _ _) (by decide))
   (fun p x y z s hs => direct_linked w0 p 8 r (by decide) _ x y z s _ _ (dir_gAdd w0 p r x y z s _ _ (fnL (ghAdd w0 p _ (okG r hr) x) (Gh.bd_add _ _) (by decide) s hs)))
   (fun sh p s l a c hs hl hR => by
     have hl : (l.length : Int) = 1 := hl
     exact clo_gAdd w0 sh p awP r (l.getD 0 0) l a c hR (getD_some (by omega)) s _ _ (fnL (ghAdd w0 p _ (okG r hr) (l.getD 0 0)) (Gh.bd_add _ _) (by decide) s hs))
theorem mt_gLink (r : Int) (hr : 0 ≤ r ∧ r ≤ 4096) : MtOk w0 8 r (bs [108, 105, 110, 107], 3, true) :=
 mt_pg (m := (_, 250)) (fun x y z => (⟨awP, r⟩ : Gh).lnk x y z) (fun q => q) (fun _ _ _ => len_bd (Gh.bd_lnk _ _ _ _) (by decide))
   (fun p x y z s hs => direct_linked w0 p 8 r (by decide) _ x y z s _ _ (dir_gLink w0 p r x y z s _ _ (fnL (ghLnk w0 p _ (okG r hr) x y z) (Gh.bd_lnk _ _ _ _) (by decide) s hs)))
   (fun sh p s l a c hs hl hR => by
     have hl : (l.length : Int) = 3 := hl
     exact clo_gLink w0 sh p awP r (l.getD 0 0) (l.getD 1 0) (l.getD 2 0) l a c hR (getD_some (by omega)) (getD_some (by omega)) (getD_some (by omega)) s _ _ (fnL (ghLnk w0 p _ (okG r hr) (l.getD 0 0) (l.getD 1 0) (l.getD 2 0)) (Gh.bd_lnk _ _ _ _) (by decide) s hs))
theorem mt_gCut (r : Int) (hr : 0 ≤ r ∧ r ≤ 4096) : MtOk w0 8 r (bs [99, 117, 116], 1, true) :=
 mt_pg (m := (_, 251)) (fun x _ _ => (⟨awP, r⟩ : Gh).cut x) (fun e => (0, e)) (fun _ _ _ => len_bd (Gh.bd_cut _ _) (by decide))
   (fun p x y z s hs => direct_linked w0 p 8 r (by decide) _ x y z s _ _ (dir_gCut w0 p r x y z s _ _ (fnL (ghCut w0 p _ (okG r hr) x) (Gh.bd_cut _ _) (by decide) s hs)))
   (fun sh p s l a c hs hl hR => by
     have hl : (l.length : Int) = 1 := hl
     exact clo_gCut w0 sh p awP r (l.getD 0 0) l a c hR (getD_some (by omega)) s _ _ (fnL (ghCut w0 p _ (okG r hr) (l.getD 0 0)) (Gh.bd_cut _ _) (by decide) s hs))
theorem mt_gDrop (r : Int) (hr : 0 ≤ r ∧ r ≤ 4096) : MtOk w0 8 r (bs [100, 114, 111, 112], 1, true) :=
 mt_pg (m := (_, 252)) (fun x _ _ => (⟨awP, r⟩ : Gh).drop x) (fun q => q) (fun _ _ _ => len_bd (Gh.bd_drop _ (okG r hr) _) (by decide))
   (fun p x y z s hs => direct_linked w0 p 8 r (by decide) _ x y z s _ _ (dir_gDrop w0 p r x y z s _ _ (fnL (ghDrop w0 p _ (okG r hr) x) (Gh.bd_drop _ (okG r hr) _) (by decide) s hs)))
   (fun sh p s l a c hs hl hR => by
     have hl : (l.length : Int) = 1 := hl
     exact clo_gDrop w0 sh p awP r (l.getD 0 0) l a c hR (getD_some (by omega)) s _ _ (fnL (ghDrop w0 p _ (okG r hr) (l.getD 0 0)) (Gh.bd_drop _ (okG r hr) _) (by decide) s hs))
theorem mt_gWeight (r : Int) (hr : 0 ≤ r ∧ r ≤ 4096) : MtOk w0 8 r (bs [119, 101, 105, 103, 104, 116], 2, false) :=
 mt_pg (m := (_, 253)) (fun x y _ => (⟨awP, r⟩ : Gh).weigh x y) (fun q => if q.2 = true then (q.1, 0) else (0, 10)) (fun _ _ _ => len_bd (Gh.bd_weigh _ _ _) (by decide))
   (fun p x y z s hs => direct_linked w0 p 8 r (by decide) _ x y z s _ _ (dir_gWeight w0 p r x y z s _ _ _ (fnL (ghWeight w0 p _ (okG r hr) x y) (Gh.bd_weigh _ _ _) (by decide) s hs)))
   (fun sh p s l a c hs hl hR => by
     have hl : (l.length : Int) = 2 := hl
     exact clo_gWeight w0 sh p awP r (l.getD 0 0) (l.getD 1 0) l a c hR (getD_some (by omega)) (getD_some (by omega)) s _ _ _ (fnL (ghWeight w0 p _ (okG r hr) (l.getD 0 0) (l.getD 1 0)) (Gh.bd_weigh _ _ _) (by decide) s hs))
theorem mt_gLabel (r : Int) (hr : 0 ≤ r ∧ r ≤ 4096) : MtOk w0 8 r (bs [108, 97, 98, 101, 108], 1, false) :=
 mt_pg (m := (_, 254)) (fun x _ _ => (⟨awP, r⟩ : Gh).label x) (fun q => q) (fun _ _ _ => len_bd (Gh.bd_label _ _) (by decide))
   (fun p x y z s hs => direct_linked w0 p 8 r (by decide) _ x y z s _ _ (dir_gLabel w0 p r x y z s _ _ (fnL (ghLabel w0 p _ (okG r hr) x) (Gh.bd_label _ _) (by decide) s hs)))
   (fun sh p s l a c hs hl hR => by
     have hl : (l.length : Int) = 1 := hl
     exact clo_gLabel w0 sh p awP r (l.getD 0 0) l a c hR (getD_some (by omega)) s _ _ (fnL (ghLabel w0 p _ (okG r hr) (l.getD 0 0)) (Gh.bd_label _ _) (by decide) s hs))
theorem mt_gOuts (r : Int) (hr : 0 ≤ r ∧ r ≤ 4096) : MtOk w0 8 r (bs [111, 117, 116, 115], 1, false) :=
 mt_pg (m := (_, 255)) (fun x _ _ => (⟨awP, r⟩ : Gh).ends x (Gh.out x) 2) (fun q => if q.2 ≠ 0 then (0, q.2) else ((q.1.length : Int), q.2)) (fun _ _ _ => len_bd (Gh.bd_ends _ _ _ _) (by decide))
   (fun p x y z s hs => direct_linked w0 p 8 r (by decide) _ x y z s _ _ (dir_gOuts w0 p r x y z s _ _ _ ((ghOuts w0 p _ (okG r hr) x s (hs.fits (Gh.bd_ends _ _ _ _) (by decide))).mono fun v Γ ⟨ad, cap, e1, e2⟩ => ⟨ad, _, cap, e1, rfl, e2⟩)))
   (fun sh p s l a c hs hl hR => by
     have hl : (l.length : Int) = 1 := hl
     exact clo_gOuts w0 sh p awP r (l.getD 0 0) l a c hR (getD_some (by omega)) s _ _ _ ((ghOuts w0 p _ (okG r hr) (l.getD 0 0) s (hs.fits (Gh.bd_ends _ _ _ _) (by decide))).mono fun v Γ ⟨ad, cap, e1, e2⟩ => ⟨ad, _, cap, e1, rfl, e2⟩))
theorem mt_gIns (r : Int) (hr : 0 ≤ r ∧ r ≤ 4096) : MtOk w0 8 r (bs [105, 110, 115], 1, false) :=
 mt_pg (m := (_, 257)) (fun x _ _ => (⟨awP, r⟩ : Gh).ends x (Gh.inn x) 1) (fun q => if q.2 ≠ 0 then (0, q.2) else ((q.1.length : Int), q.2)) (fun _ _ _ => len_bd (Gh.bd_ends _ _ _ _) (by decide))
   (fun p x y z s hs => direct_linked w0 p 8 r (by decide) _ x y z s _ _ (dir_gIns w0 p r x y z s _ _ _ ((ghIns w0 p _ (okG r hr) x s (hs.fits (Gh.bd_ends _ _ _ _) (by decide))).mono fun v Γ ⟨ad, cap, e1, e2⟩ => ⟨ad, _, cap, e1, rfl, e2⟩)))
   (fun sh p s l a c hs hl hR => by
     have hl : (l.length : Int) = 1 := hl
     exact clo_gIns w0 sh p awP r (l.getD 0 0) l a c hR (getD_some (by omega)) s _ _ _ ((ghIns w0 p _ (okG r hr) (l.getD 0 0) s (hs.fits (Gh.bd_ends _ _ _ _) (by decide))).mono fun v Γ ⟨ad, cap, e1, e2⟩ => ⟨ad, _, cap, e1, rfl, e2⟩))
theorem mt_gVerts (r : Int) (hr : 0 ≤ r ∧ r ≤ 4096) : MtOk w0 8 r (bs [118, 101, 114, 116, 105, 99, 101, 115], 0, false) :=
 mt_pg (m := (_, 258)) (fun _ _ _ => (⟨awP, r⟩ : Gh).verts) (fun q => ((q.1.length : Int), q.2)) (fun _ _ _ => len_bd (Gh.bd_verts _) (by decide))
   (fun p x y z s hs => fix_verts (direct_linked w0 p 8 r (by decide) _ x y z s _ _ (dir_gVerts w0 p r x y z s _ _ _ ((ghVerts w0 p _ (okG r hr) s (hs.fits (Gh.bd_verts _) (by decide))).mono fun v Γ ⟨ad, cap, e1, e2⟩ => ⟨ad, _, cap, e1, rfl, e2⟩))))
   (fun sh p s l a c hs _ _ => clo_gVerts w0 sh p awP r _ s _ _ _ ((ghVerts w0 p _ (okG r hr) s (hs.fits (Gh.bd_verts _) (by decide))).mono fun v Γ ⟨ad, cap, e1, e2⟩ => ⟨ad, _, cap, e1, rfl, e2⟩))
theorem mt_gEdges (r : Int) : MtOk w0 8 r (bs [101, 100, 103, 101, 115], 0, false) :=
 mt_pg (m := (_, 259)) (fun _ _ _ => (⟨awP, r⟩ : Gh).edges) (fun v => (v, 0)) (fun _ _ _ => len_bd (Pg.bd_gt0 _) (by decide))
   (fun p x y z s hs => direct_linked w0 p 8 r (by decide) _ x y z s _ _ (dir_gEdges w0 p r x y z s _ _ (fnL (ghEdges w0 p ⟨awP, r⟩) (Pg.bd_gt0 _) (by decide) s hs)))
   (fun sh p s l a c hs _ _ => clo_gEdges w0 sh p awP r _ s _ _ (fnL (ghEdges w0 p ⟨awP, r⟩) (Pg.bd_gt0 _) (by decide) s hs))
theorem mt_fMake (r : Int) (hr : 0 ≤ r ∧ r ≤ 4096) : MtOk w0 9 r (bs [109, 97, 107, 101], 0, true) :=
 mt_pg (m := (_, 260)) (fun _ _ _ => (⟨awP, r⟩ : Fo).make) (fun q => q) (fun _ _ _ => len_bd (Fo.bd_make _) (by decide))
   (fun p x y z s hs => direct_linked w0 p 9 r (by decide) _ x y z s _ _ (dir_fMake w0 p r x y z s _ _ (fnL (foMake w0 p _ (okF r hr)) (Fo.bd_make _) (by decide) s hs)))
   (fun sh p s l a c hs _ _ => clo_fMake w0 sh p awP r _ s _ _ (fnL (foMake w0 p _ (okF r hr)) (Fo.bd_make _) (by decide) s hs))
theorem mt_fFind (r : Int) (hr : 0 ≤ r ∧ r ≤ 4096) : MtOk w0 9 r (bs [102, 105, 110, 100], 1, false) :=
 mt_pg (m := (_, 262)) (fun x _ _ => (⟨awP, r⟩ : Fo).find x) (fun q => q) (fun _ _ _ => len_bd (Fo.bd_find _ _) (by decide))
   (fun p x y z s hs => direct_linked w0 p 9 r (by decide) _ x y z s _ _ (dir_fFind w0 p r x y z s _ _ (fnL (foFindT w0 p _ (okF r hr) x) (Fo.bd_find _ _) (by decide) s hs)))
   (fun sh p s l a c hs hl hR => by
     have hl : (l.length : Int) = 1 := hl
     exact clo_fFind w0 sh p awP r (l.getD 0 0) l a c hR (getD_some (by omega)) s _ _ (fnL (foFindT w0 p _ (okF r hr) (l.getD 0 0)) (Fo.bd_find _ _) (by decide) s hs))
theorem mt_fUnion (r : Int) (hr : 0 ≤ r ∧ r ≤ 4096) : MtOk w0 9 r (bs [117, 110, 105, 111, 110], 2, true) :=
 mt_pg (m := (_, 263)) (fun x y _ => (⟨awP, r⟩ : Fo).union x y) (fun q => if q.2 = 0 ∧ q.1 = true then (1, q.2) else (0, q.2)) (fun _ _ _ => len_bd (Fo.bd_union _ _ _) (by decide))
   (fun p x y z s hs => direct_linked w0 p 9 r (by decide) _ x y z s _ _ (dir_fUnion w0 p r x y z s _ _ _ (fnL (foUnionT w0 p _ (okF r hr) x y) (Fo.bd_union _ _ _) (by decide) s hs)))
   (fun sh p s l a c hs hl hR => by
     have hl : (l.length : Int) = 2 := hl
     exact clo_fUnion w0 sh p awP r (l.getD 0 0) (l.getD 1 0) l a c hR (getD_some (by omega)) (getD_some (by omega)) s _ _ _ (fnL (foUnionT w0 p _ (okF r hr) (l.getD 0 0) (l.getD 1 0)) (Fo.bd_union _ _ _) (by decide) s hs))
theorem mt_fUndo (r : Int) (hr : 0 ≤ r ∧ r ≤ 4096) : MtOk w0 9 r (bs [117, 110, 100, 111], 0, true) :=
 mt_pg (m := (_, 264)) (fun _ _ _ => (⟨awP, r⟩ : Fo).undo) (fun q => if q.2 = 0 ∧ q.1 = true then (1, q.2) else (0, q.2)) (fun _ _ _ => len_bd (Fo.bd_undo _) (by decide))
   (fun p x y z s hs => direct_linked w0 p 9 r (by decide) _ x y z s _ _ (dir_fUndo w0 p r x y z s _ _ _ (fnL (foUndo w0 p _ (okF r hr)) (Fo.bd_undo _) (by decide) s hs)))
   (fun sh p s l a c hs _ _ => clo_fUndo w0 sh p awP r _ s _ _ _ (fnL (foUndo w0 p _ (okF r hr)) (Fo.bd_undo _) (by decide) s hs))
theorem mt_fSame (r : Int) (hr : 0 ≤ r ∧ r ≤ 4096) : MtOk w0 9 r (bs [115, 97, 109, 101], 2, false) :=
 mt_pg (m := (_, 265)) (fun x y _ => (⟨awP, r⟩ : Fo).same x y) (fun q => if q.2 = 0 ∧ q.1 = true then (1, q.2) else (0, q.2)) (fun _ _ _ => len_bd (Fo.bd_same _ _ _) (by decide))
   (fun p x y z s hs => direct_linked w0 p 9 r (by decide) _ x y z s _ _ (dir_fSame w0 p r x y z s _ _ _ (fnL (foSameT w0 p _ (okF r hr) x y) (Fo.bd_same _ _ _) (by decide) s hs)))
   (fun sh p s l a c hs hl hR => by
     have hl : (l.length : Int) = 2 := hl
     exact clo_fSame w0 sh p awP r (l.getD 0 0) (l.getD 1 0) l a c hR (getD_some (by omega)) (getD_some (by omega)) s _ _ _ (fnL (foSameT w0 p _ (okF r hr) (l.getD 0 0) (l.getD 1 0)) (Fo.bd_same _ _ _) (by decide) s hs))
theorem mt_fSize (r : Int) (hr : 0 ≤ r ∧ r ≤ 4096) : MtOk w0 9 r (bs [115, 105, 122, 101], 1, false) :=
 mt_pg (m := (_, 266)) (fun x _ _ => (⟨awP, r⟩ : Fo).sizeOf x) (fun q => q) (fun _ _ _ => len_bd (Fo.bd_sizeOf _ _) (by decide))
   (fun p x y z s hs => direct_linked w0 p 9 r (by decide) _ x y z s _ _ (dir_fSize w0 p r x y z s _ _ (fnL (foSizeT w0 p _ (okF r hr) x) (Fo.bd_sizeOf _ _) (by decide) s hs)))
   (fun sh p s l a c hs hl hR => by
     have hl : (l.length : Int) = 1 := hl
     exact clo_fSize w0 sh p awP r (l.getD 0 0) l a c hR (getD_some (by omega)) s _ _ (fnL (foSizeT w0 p _ (okF r hr) (l.getD 0 0)) (Fo.bd_sizeOf _ _) (by decide) s hs))
theorem mt_fSets (r : Int) (hr : 0 ≤ r ∧ r ≤ 4096) : MtOk w0 9 r (bs [115, 101, 116, 115], 0, false) :=
 mt_pg (m := (_, 267)) (fun _ _ _ => (⟨awP, r⟩ : Fo).sets) (fun v => (v, 0)) (fun _ _ _ => len_bd (Pg.bd_gt0 _) (by decide))
   (fun p x y z s hs => direct_linked w0 p 9 r (by decide) _ x y z s _ _ (dir_fSets w0 p r x y z s _ _ (fnL (foSets w0 p _ (okF r hr)) (Pg.bd_gt0 _) (by decide) s hs)))
   (fun sh p s l a c hs _ _ => clo_fSets w0 sh p awP r _ s _ _ (fnL (foSets w0 p _ (okF r hr)) (Pg.bd_gt0 _) (by decide) s hs))
end Go.Proofs.YtgdhcgnmffgkiaaGreatDoor
namespace Sim
open Go Go.Vc
def rcRows : List ByteArray := [bs [103, 101, 116, 48, 32, 97, 100, 100, 49, 119, 32, 115, 101, 116, 49, 119], bs [112, 117, 115, 104, 49, 119, 32, 112, 111, 112, 48, 119, 32, 116, 111, 112, 48, 32, 108, 101, 110, 48], bs [112, 117, 116, 49, 119, 32, 116, 97, 107, 101, 48, 119, 32, 102, 105, 114, 115, 116, 48, 32, 108, 101, 110, 48], bs [112, 117, 115, 104, 95, 108, 101, 102, 116, 49, 119, 32, 112, 117, 115, 104, 95, 114, 105, 103, 104, 116, 49, 119, 32, 112, 111, 112, 95, 108, 101, 102, 116, 48, 119, 32, 112, 111, 112, 95, 114, 105, 103, 104, 116, 48, 119, 32, 108, 101, 102, 116, 48, 32, 114, 105, 103, 104, 116, 48, 32, 108, 101, 110, 48], bs [112, 117, 116, 50, 119, 32, 103, 101, 116, 49, 32, 104, 97, 115, 49, 32, 100, 114, 111, 112, 49, 119, 32, 108, 101, 110, 48], bs [112, 117, 116, 50, 119, 32, 103, 101, 116, 49, 32, 104, 97, 115, 49, 32, 100, 114, 111, 112, 49, 119, 32, 115, 117, 109, 50, 32, 99, 111, 117, 110, 116, 50, 32, 110, 101, 120, 116, 49, 32, 110, 116, 104, 49, 32, 108, 101, 110, 48], bs [112, 117, 115, 104, 50, 119, 32, 112, 111, 112, 48, 119, 32, 109, 105, 110, 48, 32, 108, 101, 97, 115, 116, 48, 32, 108, 111, 119, 101, 114, 50, 119, 32, 100, 114, 111, 112, 49, 119, 32, 108, 101, 110, 48], bs [112, 117, 115, 104, 49, 119, 32, 112, 111, 112, 48, 119, 32, 103, 101, 116, 49, 32, 115, 101, 116, 50, 119, 32, 115, 119, 97, 112, 50, 119, 32, 108, 101, 110, 48], bs [97, 100, 100, 49, 119, 32, 108, 105, 110, 107, 51, 119, 32, 99, 117, 116, 49, 119, 32, 100, 114, 111, 112, 49, 119, 32, 119, 101, 105, 103, 104, 116, 50, 32, 108, 97, 98, 101, 108, 49, 32, 111, 117, 116, 115, 49, 32, 105, 110, 115, 49, 32, 118, 101, 114, 116, 105, 99, 101, 115, 48, 32, 101, 100, 103, 101, 115, 48], bs [109, 97, 107, 101, 48, 119, 32, 102, 105, 110, 100, 49, 32, 117, 110, 105, 111, 110, 50, 119, 32, 117, 110, 100, 111, 48, 119, 32, 115, 97, 109, 101, 50, 32, 115, 105, 122, 101, 49, 32, 115, 101, 116, 115, 48]]
def rcW (w : ByteArray) : ByteArray := if w[w.size - 1]? = some 119 then w.extract 0 (w.size - 1) else w
def rcCut (w : ByteArray) : ByteArray × Int × Bool :=
 ((rcW w).extract 0 ((rcW w).size - 1), (((rcW w)[(rcW w).size - 1]?.getD 0).toNat : Int) - 48, decide (w[w.size - 1]? = some 119))
def rcStep (s : ByteArray) (i : Nat) (q : Nat × List (ByteArray × Int × Bool)) : Nat × List (ByteArray × Int × Bool) :=
 if s[i]? = some 32 then (i + 1, q.2 ++ [rcCut (s.extract q.1 i)]) else q
def rcAt (s : ByteArray) : Nat → Nat × List (ByteArray × Int × Bool)
 | 0 => (0, [])
 | i + 1 => rcStep s i (rcAt s i)
def rcS (k : Nat) : ByteArray := rcRows.getD k (bs []) ++ bs [32]
def rcOk (s : ByteArray) (i : Nat) : Bool :=
 if s[i]? = some 32 then decide ((rcAt s i).1 ≤ i) && (decide (1 ≤ (s.extract (rcAt s i).1 i).size) && decide (1 ≤ (rcW (s.extract (rcAt s i).1 i)).size)) else true
theorem rc_all : (List.range 10).all (fun k => (List.range (rcS k).size).all (rcOk (rcS k)) && decide ((rcAt (rcS k) (rcS k).size).2 = ctMeths (k : Int)) && decide ((rcS k).size ≤ 100)) = true := by decide +kernel
theorem rc_ok {k : Nat} (hk : k < 10) : (∀ i, i < (rcS k).size → rcOk (rcS k) i = true) ∧ (rcAt (rcS k) (rcS k).size).2 = ctMeths (k : Int) ∧ (rcS k).size ≤ 100 := by
 have h := List.all_eq_true.1 rc_all k (List.mem_range.2 hk)
 rw [Bool.and_eq_true, Bool.and_eq_true, decide_eq_true_eq, decide_eq_true_eq] at h
 exact ⟨fun i hi => List.all_eq_true.1 h.1.1 i (List.mem_range.2 hi), h.1.2, h.2⟩
end Sim
namespace Go.Vc
theorem strs_rd {l : List ByteArray} {j : Nat} {x : ByteArray} (hx : l[j]? = some x) : ∀ o, o = 0 + j * 1 → rd false 1 (l.flatMap encY) o = some (.string x) := fun o ho => by
 have := flat_at (encE := encY) (q := 1) l (fun _ _ => rfl) j x hx 0 _ rfl
 exact rd_one (c := (l.flatMap encY).toArray) (o := j * 1 + 0) (by simpa using this) o (by omega)
end Go.Vc
namespace Sim
open Go Go.Vc
end Sim
namespace Go.Proofs.YtgdhcgnmffgkiaaGreatDoor
variable (w0 : World)
open Go.Vc Sim
set_option maxHeartbeats 4000000
theorem refRows_own : Vc.Fn PP w0 [] 30 [] [] (fun v Γ => ∃ nb, v = .slice (some ⟨nb, 0, none⟩) 10 10 ∧ Γ = [pt nb (.cells (List.toArray (rcRows.flatMap encY)) 9 (0, 0))]) := by
 refine zep en30 fn30 rfl rfl rfl ?_
 repeat' first|refine zck ?_|refine zyq ?_|(refine zap rfl ?_;refine zdt rfl rfl rfl rfl rfl rfl (fun nb => ?_))|refine zp ?_|refine zch ?_
 exact zej rfl ⟨_, rfl, rfl⟩
end Go.Proofs.YtgdhcgnmffgkiaaGreatDoor
namespace Go.Vc
open Sim
abbrev encMM (x : ByteArray × Int × Bool) : List Value := [.string x.1, .int .i64 x.2.1, .bool x.2.2]
end Go.Vc
namespace Go.Proofs.YtgdhcgnmffgkiaaGreatDoor
open Go.Vc Sim
set_option maxHeartbeats 2000000 in
set_option maxHeartbeats 4000000
section
variable {w0 : World} {n : Nat} {sh : Shared} {Q : Exit → Env → List Deferred → List Asn → Prop} {k : List Item} {ρ : Env} {df : List Deferred} {Γ : List Asn}
variable {ops : Array Oper} {l : List (Fl × Nat × Oper)} {bf : Fl} {i d : Nat} {ty : TypeId} {pos : String} {aft : Array Edge} {x y : Operand} {yt : TypeId} {m m' : ByteArray × Int × Bool}
end
section
variable {w0 : World} {n : Nat} {sh : Shared} {Q : Exit → Env → List Deferred → List Asn → Prop} {k : List Item} {ρ : Env} {df : List Deferred} {Γ : List Asn}
variable {ops : Array Oper} {l : List (Fl × Nat × Oper)} {bf : Fl} {i d : Nat} {ty : TypeId} {pos : String} {aft : Array Edge} {x y : Operand} {yt : TypeId} {m m' : ByteArray × Int × Bool}
end
end Go.Proofs.YtgdhcgnmffgkiaaGreatDoor
namespace Sim
open Go Go.Vc
theorem rcAt_skip {s : ByteArray} {i : Nat} (h : s[i]? ≠ some 32) : rcAt s (i + 1) = rcAt s i := by
 rw [rcAt, rcStep, if_neg h]
theorem rcAt_cut {s : ByteArray} {i : Nat} (h : s[i]? = some 32) : rcAt s (i + 1) = (i + 1, (rcAt s i).2 ++ [rcCut (s.extract (rcAt s i).1 i)]) := by
 rw [rcAt, rcStep, if_pos h]
theorem rcAt_len (s : ByteArray) : ∀ i, (rcAt s i).2.length ≤ i
 | 0 => Nat.le_refl _
 | i + 1 => by
   have ih := rcAt_len s i
   by_cases h : s[i]? = some 32
   · rw [rcAt_cut h]
     simp only [List.length_append, List.length_singleton]
     omega
   · rw [rcAt_skip h]
     omega
end Sim
namespace Go.Proofs.YtgdhcgnmffgkiaaGreatDoor
variable (w0 : World)
open Go.Vc Sim
set_option maxHeartbeats 1600000
theorem refMethods_spec (k : Int) : Vc.Fn PP w0 [] 10 [.int .i64 k] [] (fun v Γ => ∃ a c, v = .slice a (ctMeths k).length c ∧ Γ = [Rds fun bl => RdSl w0 bl encMM 3 (.slice a (ctMeths k).length c) (ctMeths k)]) := by
 by_cases hk : k < 0 ∨ 9 < k
 · have he : ctMeths k = [] := by unfold ctMeths; rw [if_neg (by omega)]
   rw [he]
   by_cases h0 : k < 0
   · refine zep en10 fn10 rfl rfl rfl ?_
     refine run_emptyR (fun bl => RdSl w0 bl encMM 3 (.slice none 0 0) []) RdSl.nil ?_
     repeat' first|refine zck ?_|refine zyq ?_|(refine zap rfl ?_;first|refine zak rfl ?_|refine zbg rfl rfl (by omega) ?_|refine zbu rfl ?_)|refine zp ?_|refine zch ?_|refine zci rfl ?_
     exact zej rfl ⟨none, 0, rfl, rfl⟩
   · refine zep en10 fn10 rfl rfl rfl ?_
     refine run_emptyR (fun bl => RdSl w0 bl encMM 3 (.slice none 0 0) []) RdSl.nil ?_
     repeat' first|refine zck ?_|refine zyq ?_|(refine zap rfl ?_;first|refine zaj rfl ?_|refine zbh rfl rfl (by omega) ?_|refine zbk rfl rfl (by omega) ?_|refine zbv rfl ?_)|refine zp ?_|refine zch ?_|refine zci rfl ?_
     exact zej rfl ⟨none, 0, rfl, rfl⟩
 obtain ⟨q, rfl⟩ : ∃ q : Nat, k = (q : Int) := ⟨k.toNat, by omega⟩
 have hq : q < 10 := by omega
 obtain ⟨hok, hres, hsz⟩ := rc_ok hq
 obtain ⟨row, hrow⟩ : ∃ row, rcRows[q]? = some row := ⟨_, List.getElem?_eq_getElem (by show q < 10; exact hq)⟩
 have hS0 : rcS q = row ++ bs [32] := by unfold rcS; rw [List.getD_eq_getElem?_getD, hrow]; rfl
 have hrs : row.size + 1 ≤ 100 := by rw [hS0, ByteArray.size_append] at hsz; exact hsz
 obtain ⟨S, hS⟩ : ∃ S, S = rcS q := ⟨_, rfl⟩
 rw [← hS] at hok hres hsz hS0
 rw [← hres]
 refine zep en10 fn10 rfl rfl rfl ?_
 refine zyr ?_
 repeat' refine zp ?_
 all_goals refine zyn ?_
 refine zyr ?_
 repeat' first|(refine zap rfl ?_;first|refine zaj rfl ?_|refine zbh rfl rfl (by omega) ?_|refine zbl rfl rfl (by omega) ?_|refine zbv rfl ?_)|refine zp ?_|refine zyn ?_
 refine zcj rfl ?_
 refine zyr ?_
 repeat' refine zp ?_
 all_goals refine zyn ?_
 refine zyr ?_
 repeat' first|(refine zap rfl ?_;first|refine zab 0 rfl rfl (strs_rd hrow _ (by omega)) ?_|refine reg_addS rfl rfl (Nat.le_trans hrs (by decide)) ?_|(refine zai [] (refRows_own w0) rfl rfl rfl zdj ?_; rintro v Γ ⟨nb, rfl, rfl⟩)|refine zas rfl rfl (by omega) ?_)|refine zp ?_|refine zyn ?_
 refine zec [] rfl ?_
 repeat (first|refine zck ?_|refine zcl ?_|refine zcm ?_|refine zcn ?_|refine zco ?_)
 refine zyr ?_
 repeat' refine zp ?_
 all_goals refine zyn ?_
 refine zyr ?_
 repeat' refine zp ?_
 all_goals refine zyn ?_
 refine run_nilslice 33 3 ?_
 refine run_loop (S := Nat × Option Addr × Nat) (fun s => [(3, .slice s.2.1 (rcAt S s.1).2.length s.2.2), (4, .string S), (5, .int .i64 ((rcAt S s.1).1 : Int)), (6, .int .i64 (s.1 : Int))])
   (fun s Γ => Γ = [SlA 33 3 s.2.1 (rcAt S s.1).2.length s.2.2 ((rcAt S s.1).2.flatMap encMM)] ∧ s.1 ≤ S.size) (fun s => S.size - s.1) (0, none, 0) ⟨rfl, congrArg Value.string hS0.symm, rfl, rfl, trivial⟩ ⟨rfl, Nat.zero_le _⟩ ?_
 rintro ⟨i, a, c⟩ Γ junk ⟨rfl, g1⟩
 dsimp only at g1 ⊢
 by_cases hi : i < S.size
 rotate_left
 · have hil : i = S.size := by omega
   subst hil
   refine zyr ?_
   repeat' first|(refine zap rfl ?_;first|refine zdy rfl ?_|refine zbh rfl rfl (by omega) ?_)|refine zp ?_|refine zyn ?_
   refine zcj rfl ?_
   refine zer rfl rfl ?_
   refine run_slR encMM 0 (l := (rcAt S S.size).2) rfl rfl (fun _ _ => rfl) rfl rfl ?_
   repeat' first|refine zck ?_|refine zyq ?_|refine zp ?_|refine zch ?_
   exact zej rfl ⟨a, c, rfl, rfl⟩
 have hal := rcAt_len S i
 obtain ⟨u, hu⟩ : ∃ u, S[i]? = some u := ⟨_, getElem?_pos S i hi⟩
 by_cases hw : u = 32
 rotate_left
 · have hne : (u.toNat : Int) ≠ 32 := fun h => hw (UInt8.toNat_inj.1 (by show u.toNat = 32; omega))
   have hsk := rcAt_skip (s := S) (i := i) (by rw [hu]; exact fun h => hw (Option.some.inj h))
   refine zyr ?_
   repeat' first|(refine zap rfl ?_;first|refine zdy rfl ?_|refine zbg rfl rfl (by omega) ?_)|refine zp ?_|refine zyn ?_
   refine zci rfl ?_
   refine zyr ?_
   repeat' first|(refine zap rfl ?_;first|refine zew (u := u) rfl rfl (by omega) hu ?_|refine zbe rfl rfl (by omega) ?_)|refine zp ?_|refine zyn ?_
   refine zci rfl ?_
   repeat' first|refine zyq ?_|refine zcs rfl ?_|(refine zap rfl ?_;refine zau rfl rfl (by omega) ?_)|refine zp ?_|refine zch ?_
   exact zeq ⟨rfl, (i + 1, a, c), ⟨congrArg (fun q : Nat × List (ByteArray × Int × Bool) => Value.slice a q.2.length c) hsk.symm, rfl, congrArg (fun q : Nat × List (ByteArray × Int × Bool) => Value.int .i64 (q.1 : Int)) hsk.symm, zes (by dsimp only; omega), trivial⟩, ⟨congrArg (fun q : Nat × List (ByteArray × Int × Bool) => [SlA 33 3 a q.2.length c (q.2.flatMap encMM)]) hsk.symm, by dsimp only; omega⟩, by dsimp only; omega⟩
 subst hw
 have h32 : ((32 : UInt8).toNat : Int) = 32 := rfl
 have hct := rcAt_cut hu
 have hk1 := hok i hi
 unfold rcOk at hk1
 rw [if_pos hu, Bool.and_eq_true, Bool.and_eq_true, decide_eq_true_eq, decide_eq_true_eq, decide_eq_true_eq] at hk1
 obtain ⟨w, hwd⟩ : ∃ w, S.extract (rcAt S i).1 i = w := ⟨_, rfl⟩
 rw [hwd] at hct hk1
 obtain ⟨k1, k2, k3⟩ := hk1
 obtain ⟨W, hW⟩ : ∃ W, rcW w = W := ⟨_, rfl⟩
 rw [hW] at k3
 obtain ⟨u1, hu1⟩ : ∃ u1, w[w.size - 1]? = some u1 := ⟨_, getElem?_pos w (w.size - 1) (by omega)⟩
 obtain ⟨u2, hu2⟩ : ∃ u2, W[W.size - 1]? = some u2 := ⟨_, getElem?_pos W (W.size - 1) (by omega)⟩
 have hws : w.size ≤ 100 := by rw [← hwd, ByteArray.size_extract]; omega
 have hWs : W.size ≤ 100 := by
   rw [← hW]
   unfold rcW
   split
   · rw [ByteArray.size_extract]; omega
   · exact hws
 have e1 : ((w.size : Int) - 1).toNat = w.size - 1 := by omega
 have e2 : ((W.size : Int) - 1).toNat = W.size - 1 := by omega
 have i1 : w[((w.size : Int) - 1).toNat]? = some u1 := by rw [e1]; exact hu1
 have i2 : W[((W.size : Int) - 1).toNat]? = some u2 := by rw [e2]; exact hu2
 have hext : S.extract ((rcAt S i).1 : Int).toNat ((i : Nat) : Int).toNat = w := hwd
 have hnm : W.extract 0 ((W.size : Int) - 1).toNat = W.extract 0 (W.size - 1) := by rw [e2]
 have hb1 := u1.toNat_lt
 have hb2 := u2.toNat_lt
 have hcut : rcCut w = (W.extract 0 (W.size - 1), (u2.toNat : Int) - 48, decide (w[w.size - 1]? = some 119)) := by
   unfold rcCut
   rw [hW, hu2]
   rfl
 refine zyr ?_
 repeat' first|(refine zap rfl ?_;first|refine zdy rfl ?_|refine zbg rfl rfl (by omega) ?_)|refine zp ?_|refine zyn ?_
 refine zci rfl ?_
 refine zyr ?_
 repeat' first|(refine zap rfl ?_;first|refine zew (u := 32) rfl rfl (by omega) hu ?_|refine zbf rfl rfl (by omega) ?_)|refine zp ?_|refine zyn ?_
 refine zcj rfl ?_
 refine zyr ?_
 repeat' first|(refine zap rfl ?_;refine reg_subSe rfl rfl rfl (by omega) hext ?_)|refine zp ?_|refine zyn ?_
 refine zyr ?_
 repeat' first|(refine zap rfl ?_;refine zau rfl rfl (by omega) ?_)|refine zp ?_|refine zyn ?_
 refine zyr ?_
 repeat' (refine zap rfl ?_;first|refine zar (fun t8 => ?_)|refine zae 1 rfl rfl rfl rfl rfl rfl rfl ?_|refine zcb rfl ?_)
 all_goals refine zyn ?_
 by_cases h119 : u1 = 119
 · have hm : ((119 : UInt8).toNat : Int) = 119 := rfl
   have hW1 : w.extract 0 ((w.size : Int) - 1).toNat = W := by
     rw [← hW, e1]
     unfold rcW
     rw [if_pos (by rw [hu1, h119])]
   subst h119
   rw [hu1, decide_eq_true rfl] at hcut
   rw [hcut] at hct
   refine zyr ?_
   repeat' first|(refine zap rfl ?_;first|refine zew rfl rfl (by omega) i1 ?_|refine zdy rfl ?_|refine zbc rfl rfl (by omega) ?_|refine zav rfl rfl (by omega) ?_)|refine zp ?_|refine zyn ?_
   refine zci rfl ?_
   refine zyr ?_
   repeat' first|(refine zap rfl ?_;refine zae 1 rfl rfl rfl rfl rfl rfl rfl ?_)|refine zyf rfl ?_|refine zyn ?_
   refine zyr ?_
   repeat' first|(refine zap rfl ?_;first|refine reg_preSe rfl rfl (by omega) hW1 ?_|refine zdy rfl ?_|refine zav rfl rfl (by omega) ?_)|refine zp ?_|refine zyn ?_
   refine zyr ?_
   repeat' first|(refine zap rfl ?_;first|refine zew rfl rfl (by omega) i2 ?_|refine zdy rfl ?_|refine zav rfl rfl (by omega) ?_|refine zae 1 rfl rfl rfl rfl rfl rfl rfl ?_|refine zbz rfl (by omega) ?_)|refine zp ?_|refine zyf rfl ?_|refine zyn ?_
   refine zyr ?_
   repeat' first|(refine zap rfl ?_;first|refine reg_preSe rfl rfl (by omega) hnm ?_|refine zdy rfl ?_|refine zav rfl rfl (by omega) ?_|refine zae 1 rfl rfl rfl rfl rfl rfl rfl ?_)|refine zp ?_|refine zyf rfl ?_|refine zyn ?_
   refine zyr ?_
   repeat' first|(refine zap rfl ?_;first|refine zdt rfl rfl rfl rfl rfl rfl (fun nb9 => ?_)|refine zab 1 rfl rfl rfl ?_|refine zdz 0 2 rfl rfl rfl rfl rfl rfl rfl rfl (by omega) (fun _ _ => rfl) (fun a5 c5 => ?_))|refine zp ?_|refine zyn ?_
   refine zec [0] rfl ?_
   refine zef 0 (SlA 33 3 a5 ((rcAt S i).2.length + 1) c5 ((rcAt S i).2.flatMap encMM ++ encMM (W.extract 0 (W.size - 1), (u2.toNat : Int) - 48, true))) rfl (fun g hg => hg) rfl ?_
   repeat (first|refine zck ?_|refine zcl ?_|refine zcm ?_|refine zcn ?_|refine zco ?_)
   have q1 : (rcAt S i).2.length + 1 = (rcAt S (i + 1)).2.length := by rw [hct, List.length_append]; rfl
   have q2 : ((i : Int) + 1) = ((rcAt S (i + 1)).1 : Int) := by rw [hct]; dsimp only; omega
   have q3 : (rcAt S i).2.flatMap encMM ++ encMM (W.extract 0 (W.size - 1), (u2.toNat : Int) - 48, true) = (rcAt S (i + 1)).2.flatMap encMM := by rw [hct, List.flatMap_append]; rfl
   have q4 : [SlA 33 3 a5 ((rcAt S i).2.length + 1) c5 ((rcAt S i).2.flatMap encMM ++ encMM (W.extract 0 (W.size - 1), (u2.toNat : Int) - 48, true))] = [SlA 33 3 a5 (rcAt S (i + 1)).2.length c5 ((rcAt S (i + 1)).2.flatMap encMM)] := by rw [q3, q1]
   repeat' first|refine zyq ?_|(refine zap rfl ?_;refine zau rfl rfl (by omega) ?_)|refine zp ?_|refine zch ?_
   exact zeq ⟨rfl, (i + 1, a5, c5), ⟨congrArg (fun n => Value.slice a5 n c5) q1, rfl, congrArg (fun z : Int => Value.int .i64 z) q2, zes (by dsimp only; omega), trivial⟩, ⟨q4, by dsimp only; omega⟩, by dsimp only; omega⟩
 · have hne : (u1.toNat : Int) ≠ 119 := fun h => h119 (UInt8.toNat_inj.1 (by show u1.toNat = 119; omega))
   have hW1 : w = W := by
     rw [← hW]
     unfold rcW
     rw [if_neg (by rw [hu1]; exact fun h => h119 (Option.some.inj h))]
   rw [hu1, decide_eq_false (fun h => h119 (Option.some.inj h))] at hcut
   rw [hcut] at hct
   subst hW1
   refine zyr ?_
   repeat' first|(refine zap rfl ?_;first|refine zew rfl rfl (by omega) i1 ?_|refine zdy rfl ?_|refine zbd rfl rfl (by omega) ?_|refine zav rfl rfl (by omega) ?_)|refine zp ?_|refine zyn ?_
   refine zcj rfl ?_
   refine zyr ?_
   repeat' first|(refine zap rfl ?_;first|refine zew rfl rfl (by omega) i2 ?_|refine zdy rfl ?_|refine zav rfl rfl (by omega) ?_|refine zae 1 rfl rfl rfl rfl rfl rfl rfl ?_|refine zbz rfl (by omega) ?_)|refine zp ?_|refine zyf rfl ?_|refine zyn ?_
   refine zyr ?_
   repeat' first|(refine zap rfl ?_;first|refine reg_preSe rfl rfl (by omega) hnm ?_|refine zdy rfl ?_|refine zav rfl rfl (by omega) ?_|refine zae 1 rfl rfl rfl rfl rfl rfl rfl ?_)|refine zp ?_|refine zyf rfl ?_|refine zyn ?_
   refine zyr ?_
   repeat' first|(refine zap rfl ?_;first|refine zdt rfl rfl rfl rfl rfl rfl (fun nb9 => ?_)|refine zab 1 rfl rfl rfl ?_|refine zdz 0 2 rfl rfl rfl rfl rfl rfl rfl rfl (by omega) (fun _ _ => rfl) (fun a5 c5 => ?_))|refine zp ?_|refine zyn ?_
   refine zec [0] rfl ?_
   refine zef 0 (SlA 33 3 a5 ((rcAt S i).2.length + 1) c5 ((rcAt S i).2.flatMap encMM ++ encMM (w.extract 0 (w.size - 1), (u2.toNat : Int) - 48, false))) rfl (fun g hg => hg) rfl ?_
   repeat (first|refine zck ?_|refine zcl ?_|refine zcm ?_|refine zcn ?_|refine zco ?_)
   have q1 : (rcAt S i).2.length + 1 = (rcAt S (i + 1)).2.length := by rw [hct, List.length_append]; rfl
   have q2 : ((i : Int) + 1) = ((rcAt S (i + 1)).1 : Int) := by rw [hct]; dsimp only; omega
   have q3 : (rcAt S i).2.flatMap encMM ++ encMM (w.extract 0 (w.size - 1), (u2.toNat : Int) - 48, false) = (rcAt S (i + 1)).2.flatMap encMM := by rw [hct, List.flatMap_append]; rfl
   have q4 : [SlA 33 3 a5 ((rcAt S i).2.length + 1) c5 ((rcAt S i).2.flatMap encMM ++ encMM (w.extract 0 (w.size - 1), (u2.toNat : Int) - 48, false))] = [SlA 33 3 a5 (rcAt S (i + 1)).2.length c5 ((rcAt S (i + 1)).2.flatMap encMM)] := by rw [q3, q1]
   repeat' first|refine zyq ?_|(refine zap rfl ?_;refine zau rfl rfl (by omega) ?_)|refine zp ?_|refine zch ?_
   exact zeq ⟨rfl, (i + 1, a5, c5), ⟨congrArg (fun n => Value.slice a5 n c5) q1, rfl, congrArg (fun z : Int => Value.int .i64 z) q2, zes (by dsimp only; omega), trivial⟩, ⟨q4, by dsimp only; omega⟩, by dsimp only; omega⟩
set_option maxRecDepth 20000
theorem mts_0 (r : Int) (_ : 0 ≤ r ∧ r ≤ 4096) : ∀ (i : Nat) (m : ByteArray × Int × Bool), (ctMeths 0)[i]? = some m → MtOk w0 0 r m := by
 have e : ctMeths 0 = [(bs [103, 101, 116], 0, false), (bs [97, 100, 100], 1, true), (bs [115, 101, 116], 1, true)] := rfl
 intro i m hm
 rw [e] at hm
 match i, hm with
 | 0, hm => cases hm; exact mt_cGet w0 r
 | 1, hm => cases hm; exact mt_cAdd w0 r
 | 2, hm => cases hm; exact mt_cSet w0 r
 | i + 3, hm => cases hm
theorem mts_1 (r : Int) (_ : 0 ≤ r ∧ r ≤ 4096) : ∀ (i : Nat) (m : ByteArray × Int × Bool), (ctMeths 1)[i]? = some m → MtOk w0 1 r m := by
 have e : ctMeths 1 = [(bs [112, 117, 115, 104], 1, true), (bs [112, 111, 112], 0, true), (bs [116, 111, 112], 0, false), (bs [108, 101, 110], 0, false)] := rfl
 intro i m hm
 rw [e] at hm
 match i, hm with
 | 0, hm => cases hm; exact mt_sPush w0 r
 | 1, hm => cases hm; exact mt_sPop w0 r
 | 2, hm => cases hm; exact mt_sTop w0 r
 | 3, hm => cases hm; exact mt_sLen w0 r
 | i + 4, hm => cases hm
theorem mts_2 (r : Int) (_ : 0 ≤ r ∧ r ≤ 4096) : ∀ (i : Nat) (m : ByteArray × Int × Bool), (ctMeths 2)[i]? = some m → MtOk w0 2 r m := by
 have e : ctMeths 2 = [(bs [112, 117, 116], 1, true), (bs [116, 97, 107, 101], 0, true), (bs [102, 105, 114, 115, 116], 0, false), (bs [108, 101, 110], 0, false)] := rfl
 intro i m hm
 rw [e] at hm
 match i, hm with
 | 0, hm => cases hm; exact mt_qPut w0 r
 | 1, hm => cases hm; exact mt_qTake w0 r
 | 2, hm => cases hm; exact mt_qFirst w0 r
 | 3, hm => cases hm; exact mt_qLen w0 r
 | i + 4, hm => cases hm
theorem mts_3 (r : Int) (_ : 0 ≤ r ∧ r ≤ 4096) : ∀ (i : Nat) (m : ByteArray × Int × Bool), (ctMeths 3)[i]? = some m → MtOk w0 3 r m := by
 have e : ctMeths 3 = [(bs [112, 117, 115, 104, 95, 108, 101, 102, 116], 1, true), (bs [112, 117, 115, 104, 95, 114, 105, 103, 104, 116], 1, true), (bs [112, 111, 112, 95, 108, 101, 102, 116], 0, true), (bs [112, 111, 112, 95, 114, 105, 103, 104, 116], 0, true), (bs [108, 101, 102, 116], 0, false), (bs [114, 105, 103, 104, 116], 0, false), (bs [108, 101, 110], 0, false)] := rfl
 intro i m hm
 rw [e] at hm
 match i, hm with
 | 0, hm => cases hm; exact mt_dPushL w0 r
 | 1, hm => cases hm; exact mt_dPushR w0 r
 | 2, hm => cases hm; exact mt_dPopL w0 r
 | 3, hm => cases hm; exact mt_dPopR w0 r
 | 4, hm => cases hm; exact mt_dLeft w0 r
 | 5, hm => cases hm; exact mt_dRight w0 r
 | 6, hm => cases hm; exact mt_dLen w0 r
 | i + 7, hm => cases hm
theorem mts_4 (r : Int) (hr : 0 ≤ r ∧ r ≤ 4096) : ∀ (i : Nat) (m : ByteArray × Int × Bool), (ctMeths 4)[i]? = some m → MtOk w0 4 r m := by
 have e : ctMeths 4 = [(bs [112, 117, 116], 2, true), (bs [103, 101, 116], 1, false), (bs [104, 97, 115], 1, false), (bs [100, 114, 111, 112], 1, true), (bs [108, 101, 110], 0, false)] := rfl
 intro i m hm
 rw [e] at hm
 match i, hm with
 | 0, hm => cases hm; exact mt_mPut w0 r hr
 | 1, hm => cases hm; exact mt_mGet w0 r hr
 | 2, hm => cases hm; exact mt_mHas w0 r hr
 | 3, hm => cases hm; exact mt_mDrop w0 r hr
 | 4, hm => cases hm; exact mt_mLen w0 r hr
 | i + 5, hm => cases hm
theorem mts_5 (r : Int) (hr : 0 ≤ r ∧ r ≤ 4096) : ∀ (i : Nat) (m : ByteArray × Int × Bool), (ctMeths 5)[i]? = some m → MtOk w0 5 r m := by
 have e : ctMeths 5 = [(bs [112, 117, 116], 2, true), (bs [103, 101, 116], 1, false), (bs [104, 97, 115], 1, false), (bs [100, 114, 111, 112], 1, true), (bs [115, 117, 109], 2, false), (bs [99, 111, 117, 110, 116], 2, false), (bs [110, 101, 120, 116], 1, false), (bs [110, 116, 104], 1, false), (bs [108, 101, 110], 0, false)] := rfl
 intro i m hm
 rw [e] at hm
 match i, hm with
 | 0, hm => cases hm; exact mt_tPut w0 r hr
 | 1, hm => cases hm; exact mt_tGet w0 r hr
 | 2, hm => cases hm; exact mt_tHas w0 r hr
 | 3, hm => cases hm; exact mt_tDrop w0 r hr
 | 4, hm => cases hm; exact mt_tSum w0 r hr
 | 5, hm => cases hm; exact mt_tCount w0 r hr
 | 6, hm => cases hm; exact mt_tNext w0 r hr
 | 7, hm => cases hm; exact mt_tNth w0 r hr
 | 8, hm => cases hm; exact mt_tLen w0 r
 | i + 9, hm => cases hm
theorem mts_6 (r : Int) (hr : 0 ≤ r ∧ r ≤ 4096) : ∀ (i : Nat) (m : ByteArray × Int × Bool), (ctMeths 6)[i]? = some m → MtOk w0 6 r m := by
 have e : ctMeths 6 = [(bs [112, 117, 115, 104], 2, true), (bs [112, 111, 112], 0, true), (bs [109, 105, 110], 0, false), (bs [108, 101, 97, 115, 116], 0, false), (bs [108, 111, 119, 101, 114], 2, true), (bs [100, 114, 111, 112], 1, true), (bs [108, 101, 110], 0, false)] := rfl
 intro i m hm
 rw [e] at hm
 match i, hm with
 | 0, hm => cases hm; exact mt_hPush w0 r hr
 | 1, hm => cases hm; exact mt_hPop w0 r hr
 | 2, hm => cases hm; exact mt_hMin w0 r hr
 | 3, hm => cases hm; exact mt_hLeast w0 r hr
 | 4, hm => cases hm; exact mt_hLower w0 r hr
 | 5, hm => cases hm; exact mt_hDrop w0 r hr
 | 6, hm => cases hm; exact mt_hLen w0 r
 | i + 7, hm => cases hm
theorem mts_7 (hw : PowOk w0) (r : Int) (hr : 0 ≤ r ∧ r ≤ 4096) : ∀ (i : Nat) (m : ByteArray × Int × Bool), (ctMeths 7)[i]? = some m → MtOk w0 7 r m := by
 have e : ctMeths 7 = [(bs [112, 117, 115, 104], 1, true), (bs [112, 111, 112], 0, true), (bs [103, 101, 116], 1, false), (bs [115, 101, 116], 2, true), (bs [115, 119, 97, 112], 2, true), (bs [108, 101, 110], 0, false)] := rfl
 intro i m hm
 rw [e] at hm
 match i, hm with
 | 0, hm => cases hm; exact mt_aPush w0 hw r hr
 | 1, hm => cases hm; exact mt_aPop w0 hw r hr
 | 2, hm => cases hm; exact mt_aGet w0 hw r hr
 | 3, hm => cases hm; exact mt_aSet w0 hw r hr
 | 4, hm => cases hm; exact mt_aSwap w0 hw r hr
 | 5, hm => cases hm; exact mt_aLen w0 r hr
 | i + 6, hm => cases hm
theorem mts_8 (r : Int) (hr : 0 ≤ r ∧ r ≤ 4096) : ∀ (i : Nat) (m : ByteArray × Int × Bool), (ctMeths 8)[i]? = some m → MtOk w0 8 r m := by
 have e : ctMeths 8 = [(bs [97, 100, 100], 1, true), (bs [108, 105, 110, 107], 3, true), (bs [99, 117, 116], 1, true), (bs [100, 114, 111, 112], 1, true), (bs [119, 101, 105, 103, 104, 116], 2, false), (bs [108, 97, 98, 101, 108], 1, false), (bs [111, 117, 116, 115], 1, false), (bs [105, 110, 115], 1, false), (bs [118, 101, 114, 116, 105, 99, 101, 115], 0, false), (bs [101, 100, 103, 101, 115], 0, false)] := rfl
 intro i m hm
 rw [e] at hm
 match i, hm with
 | 0, hm => cases hm; exact mt_gAdd w0 r hr
 | 1, hm => cases hm; exact mt_gLink w0 r hr
 | 2, hm => cases hm; exact mt_gCut w0 r hr
 | 3, hm => cases hm; exact mt_gDrop w0 r hr
 | 4, hm => cases hm; exact mt_gWeight w0 r hr
 | 5, hm => cases hm; exact mt_gLabel w0 r hr
 | 6, hm => cases hm; exact mt_gOuts w0 r hr
 | 7, hm => cases hm; exact mt_gIns w0 r hr
 | 8, hm => cases hm; exact mt_gVerts w0 r hr
 | 9, hm => cases hm; exact mt_gEdges w0 r
 | i + 10, hm => cases hm
theorem mts_9 (r : Int) (hr : 0 ≤ r ∧ r ≤ 4096) : ∀ (i : Nat) (m : ByteArray × Int × Bool), (ctMeths 9)[i]? = some m → MtOk w0 9 r m := by
 have e : ctMeths 9 = [(bs [109, 97, 107, 101], 0, true), (bs [102, 105, 110, 100], 1, false), (bs [117, 110, 105, 111, 110], 2, true), (bs [117, 110, 100, 111], 0, true), (bs [115, 97, 109, 101], 2, false), (bs [115, 105, 122, 101], 1, false), (bs [115, 101, 116, 115], 0, false)] := rfl
 intro i m hm
 rw [e] at hm
 match i, hm with
 | 0, hm => cases hm; exact mt_fMake w0 r hr
 | 1, hm => cases hm; exact mt_fFind w0 r hr
 | 2, hm => cases hm; exact mt_fUnion w0 r hr
 | 3, hm => cases hm; exact mt_fUndo w0 r hr
 | 4, hm => cases hm; exact mt_fSame w0 r hr
 | 5, hm => cases hm; exact mt_fSize w0 r hr
 | 6, hm => cases hm; exact mt_fSets w0 r hr
 | i + 7, hm => cases hm
theorem mts_all (hw : PowOk w0) (k : Int) (hk : 0 ≤ k ∧ k ≤ 9) (r : Int) (hr : 0 ≤ r ∧ r ≤ 4096) : ∀ (i : Nat) (m : ByteArray × Int × Bool), (ctMeths k)[i]? = some m → MtOk w0 k r m := by
 rcases (by omega : k = 0 ∨ k = 1 ∨ k = 2 ∨ k = 3 ∨ k = 4 ∨ k = 5 ∨ k = 6 ∨ k = 7 ∨ k = 8 ∨ k = 9) with rfl | rfl | rfl | rfl | rfl | rfl | rfl | rfl | rfl | rfl
 · exact mts_0 w0 r hr
 · exact mts_1 w0 r hr
 · exact mts_2 w0 r hr
 · exact mts_3 w0 r hr
 · exact mts_4 w0 r hr
 · exact mts_5 w0 r hr
 · exact mts_6 w0 r hr
 · exact mts_7 w0 hw r hr
 · exact mts_8 w0 r hr
 · exact mts_9 w0 r hr
end Go.Proofs.YtgdhcgnmffgkiaaGreatDoor
namespace Sim
open Go Go.Vc
theorem ctMeths_pos : ∀ k : Nat, k < 10 → 0 < (ctMeths (k : Int)).length := by decide +kernel
end Sim
namespace Go.Vc
section
variable {P : Program} {w0 : World} {n : Nat} {sh : Shared} {Q : Exit → Env → List Deferred → List Asn → Prop} {k : List Item} {ρ : Env} {df : List Deferred} {Γ : List Asn}
variable {ops : Array Oper} {l : List (Fl × Nat × Oper)} {b : Fl} {i d : Nat} {ty t yt : TypeId} {pos : String} {aft : Array Edge} {x y : Operand}
end
end Go.Vc
namespace Go.Proofs.YtgdhcgnmffgkiaaGreatDoor
open Go.Vc Sim
set_option maxHeartbeats 4000000
end Go.Proofs.YtgdhcgnmffgkiaaGreatDoor
namespace Sim
open Go Go.Vc
structure CallX where
 kd : Int
 me : Int
 two : Bool
 A : Int
 B : Int
 C : Int
 fr : Int
def encC (x : CallX) : List Value := [.int .u8 x.kd, .int .u8 x.me, .bool x.two, .int .i64 x.A, .int .i64 x.B, .int .i64 x.C, .int .i16 x.fr]
def CallX.Ok (x : CallX) : Prop := (0 ≤ x.kd ∧ x.kd ≤ 255) ∧ (0 ≤ x.me ∧ x.me ≤ 255) ∧ -32768 ≤ x.fr ∧ x.fr ≤ 32767
theorem rootA_bd {k : Int} (h : 0 ≤ k ∧ k ≤ 9) (b : Bool) : 0 ≤ rootA k b ∧ rootA k b ≤ 4096 := by
 cases b with
 | false => exact ⟨by show (0 : Int) ≤ 8 + 8 * k; omega, by show 8 + 8 * k ≤ 4096; omega⟩
 | true => exact ⟨by show (0 : Int) ≤ 8 + 8 * k + 80; omega, by show 8 + 8 * k + 80 ≤ 4096; omega⟩
theorem argL_len (A B C fr : Int) (told : List Int) : (argL A B C fr told).length = 3 := by unfold argL; split <;> rfl
end Sim
namespace Go.Proofs.YtgdhcgnmffgkiaaGreatDoor
variable (w0 : World)
open Go.Vc Sim
set_option maxHeartbeats 4000000
set_option maxRecDepth 20000
theorem ct_args : ∀ k : Nat, k < 10 → (ctMeths (k : Int)).all (fun m => decide (0 ≤ m.2.1) && decide (m.2.1 ≤ 3)) = true := by decide +kernel
theorem catalogDoes_spec (hw : PowOk w0) (sh : Shared) (l : List CallX) (a : Option Addr) (c : Nat) (hl : RdSl w0 sh encC 7 (.slice a l.length c) l) (hok : ∀ x ∈ l, x.Ok) :
   FnE PP w0 sh 3 [.slice a l.length c] [] (.bool true) [] := by
 have haw := awake_spec w0
 refine zep en3 fn3 rfl rfl rfl ?_
 refine zyr ?_
 repeat' refine zp ?_
 all_goals refine zyn ?_
 refine zyr ?_
 repeat' (refine zap rfl ?_;first|refine zbx rfl ?_|refine zah [] haw rfl rfl rfl zdj rfl ?_)
 all_goals refine zyn ?_
 refine zcj rfl ?_
 by_cases h40 : 40 < l.length
 · repeat' first|refine zck ?_|refine zcm ?_|refine zyq ?_|(refine zap rfl ?_;first|refine zce rfl ?_|refine zbk rfl rfl (by omega) ?_)|refine zp ?_|refine zch ?_|refine zci rfl ?_
   exact zej rfl ⟨rfl, rfl⟩
 refine zyr ?_
 repeat' first|(refine zap rfl ?_;first|refine zce rfl ?_|refine zbl rfl rfl (by omega) ?_)|refine zp ?_|refine zyn ?_
 refine zcj rfl ?_
 repeat (first|refine zck ?_|refine zcl ?_|refine zcm ?_|refine zcn ?_|refine zco ?_)
 refine zyr ?_
 repeat' first|(refine zap rfl ?_;refine zai [] (empty_spec w0) rfl rfl rfl zdj (fun | _, _, ⟨q, x0, rfl, rfl, hx0⟩ => ?_))|refine zp ?_|refine zyn ?_
 rename_i p s0 hs0
 have he0 : Eqv s0 x0 := ⟨fun a => (hs0.kn a).trans (hx0.kn a).symm, hs0.rd.trans hx0.rd.symm, hs0.puts.trans hx0.puts.symm, hs0.need.trans hx0.need.symm, hs0.ended.trans hx0.ended.symm⟩
 have hp0 : s0.puts = [] := hs0.puts
 refine zyr ?_
 repeat' refine zp ?_
 all_goals refine zyn ?_
 refine zyr ?_
 repeat' refine zp ?_
 all_goals refine zyn ?_
 refine run_nilslice 2 1 ?_
 refine zec [1, 0, 0] rfl ?_
 refine run_loop (S := Nat × Sp × Sp × List Int × Option Addr × Nat) (fun st => [(0, .slice a l.length c), (3, spP p), (4, spP q), (5, .slice st.2.2.2.2.1 st.2.2.2.1.length st.2.2.2.2.2), (6, .int .i64 (st.1 : Int))])
   (fun st Γ => Γ = [SpaceA p st.2.1, SpaceA q st.2.2.1, SlA 2 1 st.2.2.2.2.1 st.2.2.2.1.length st.2.2.2.2.2 (st.2.2.2.1.flatMap encI)] ∧ st.1 ≤ l.length ∧ Eqv st.2.1 st.2.2.1 ∧ st.2.1.puts.length ≤ st.1 * 30000 ∧ st.2.2.2.1.length ≤ st.1) (fun st => l.length - st.1)
   (0, s0, x0, [], none, 0) ⟨rfl, rfl, rfl, rfl, rfl, trivial⟩ ⟨rfl, Nat.zero_le _, he0, by rw [hp0]; exact Nat.zero_le _, Nat.le_refl _⟩ ?_
 rintro ⟨i, s, x, told, a2, c2⟩ Γ junk ⟨rfl, hi, he, hp, ht⟩
 dsimp only at hi he hp ht ⊢
 by_cases hlt : i < l.length
 · obtain ⟨X, hX⟩ : ∃ X, l[i]? = some X := ⟨_, List.getElem?_eq_getElem hlt⟩
   obtain ⟨⟨hk0, hk1⟩, ⟨hm0, hm1⟩, hf0, hf1⟩ := hok X (List.mem_of_getElem? hX)
   obtain ⟨b, off, cc, T, fr, rfl, e2, e3, e4⟩ := hl.cells hX
   obtain ⟨k, hk⟩ : ∃ k : Nat, X.kd.tmod 10 = (k : Int) := ⟨(X.kd.tmod 10).toNat, by rw [Int.tmod_eq_emod_of_nonneg hk0]; omega⟩
   have hk10 : k < 10 := by rw [Int.tmod_eq_emod_of_nonneg hk0] at hk; omega
   have hpos := ctMeths_pos k hk10
   have hmr := refMethods_spec w0 (k : Int)
   have hro := root_spec w0 (k : Int) X.two (by omega)
   have hpl := zez w0
   refine zyr ?_
   repeat' first|(refine zap rfl ?_;first|refine zce rfl ?_|refine zbg rfl rfl (by omega) ?_)|refine zp ?_|refine zyn ?_
   refine zci rfl ?_
   repeat (first|refine zck ?_|refine zcl ?_|refine zcm ?_|refine zcn ?_|refine zco ?_)
   refine zyr ?_
   repeat' first|(refine zap rfl ?_;first|refine zad rfl e2 (e4 0 _ rfl _ (by omega)) ?_|refine reg_remE rfl rfl (by decide) hk ?_|refine zbz rfl (by omega) ?_|refine zas rfl rfl (by omega) ?_)|refine zp ?_|refine zyf rfl ?_|refine zyn ?_
   refine zyr ?_
   repeat' first|(refine zap rfl ?_;refine zai [] hmr rfl rfl rfl zdj (fun | _, _, ⟨am, cm, rfl, rfl⟩ => ?_))|refine zp ?_|refine zyn ?_
   refine zeu [0] rfl ?_
   intro sh' bl hs1 hs2 hR0
   have hR0 := hR0.mono hs2
   have e2' := fun hF Γ w (h1 : Sh sh' hF) h2 => e2 hF Γ w (fun p hp => h1 p (hs1 p hp)) h2
   have hlen : (ctMeths (k : Int)).length ≤ 10 := by
     have h := msK_len (k : Int)
     rw [← msK_rows (k : Int), List.length_map]
     exact h
   generalize hL : (ctMeths (k : Int)).length = L at hpos hlen hR0
   obtain ⟨j, hj⟩ : ∃ j : Nat, X.me.tmod (L : Int) = (j : Int) := ⟨(X.me.tmod (L : Int)).toNat, by rw [Int.tmod_eq_emod_of_nonneg hm0]; have := Int.emod_nonneg X.me (show (L : Int) ≠ 0 by omega); omega⟩
   have hjL : j < L := by rw [Int.tmod_eq_emod_of_nonneg hm0] at hj; have := Int.emod_lt_of_pos X.me (show (0 : Int) < L by omega); omega
   obtain ⟨m, hm⟩ : ∃ m, (ctMeths (k : Int))[j]? = some m := ⟨_, List.getElem?_eq_getElem (by omega)⟩
   obtain ⟨b', off', cc', T', fr', rfl, g2, g3, _⟩ := hR0.cells hm
   obtain ⟨st, hst⟩ := mts_all w0 hw (k : Int) (by omega) (rootA (k : Int) X.two) (rootA_bd (by omega) X.two) j m hm
   have hna : 0 ≤ m.2.1 ∧ m.2.1 ≤ 3 := by
     have h := List.all_eq_true.1 (ct_args k hk10) m (List.mem_of_getElem? hm)
     rw [Bool.and_eq_true, decide_eq_true_eq, decide_eq_true_eq] at h
     exact h
   obtain ⟨mn, ma, mw⟩ := m
   dsimp only at hna
   obtain ⟨n, rfl⟩ : ∃ n : Nat, ma = (n : Int) := ⟨ma.toNat, by omega⟩
   repeat (first|refine zck ?_|refine zcl ?_|refine zcm ?_|refine zcn ?_|refine zco ?_)
   refine zyr ?_
   repeat' first|(refine zap rfl ?_;first|refine zad rfl e2' (e4 1 _ rfl _ (by omega)) ?_|refine zad rfl g2 (g3 _ (by omega)) ?_|refine reg_remE rfl rfl (by omega) hj ?_|refine zbz rfl (by omega) ?_|refine zar (fun t9 => ?_)|refine zce rfl ?_|refine zae 3 rfl rfl rfl rfl rfl rfl rfl ?_|refine zas rfl rfl (by omega) ?_)|refine zp ?_|refine zyf rfl ?_|refine zyn ?_
   refine zef 3 (pt t9 (.cells (List.toArray [.string mn, .int .i64 (n : Int), .bool mw]) 33 (0, 0))) rfl (fun g hg => hg) rfl ?_
   refine zeb [3] rfl ?_
   repeat (first|refine zck ?_|refine zcl ?_|refine zcm ?_|refine zcn ?_|refine zco ?_)
   refine zyr ?_
   repeat' first|(refine zap rfl ?_;first|refine zad rfl (zyt e2') (e4 2 _ rfl _ (by omega)) ?_|refine zar (fun t10 => ?_)|refine zah [] hro rfl rfl rfl zdj rfl ?_|refine zae 3 rfl rfl rfl rfl rfl rfl rfl ?_|refine zas rfl rfl (by omega) ?_)|refine zp ?_|refine zyf rfl ?_|refine zyn ?_
   refine zeb [3] rfl ?_
   repeat (first|refine zck ?_|refine zcl ?_|refine zcm ?_|refine zcn ?_|refine zco ?_)
   have hA := Fn.lendSl (P := PP) (w0 := w0) (sh := []) (Γ := []) (q := 1) (T := 2) (a := a2) (len := told.length) (cap := c2) (l := told) encI en12 (fun _ _ => rfl) rfl (fun sh1 _ h => args_spec w0 sh1 X.kd X.me X.two X.A X.B X.C X.fr ⟨hf0, hf1⟩ n (by omega) told a2 c2 (by omega) h)
   refine zyx ?_
   first|refine zcp (by kernel_rfl) ?_|refine zcr [(.quiet, 0), (.quiet, 1), (.quiet, 2), (.read, 3), (.quiet, 4), (.read, 5), (.quiet, 6), (.loud, 7), (.quiet, 8)] PP_mixed (by kernel_rfl) (by kernel_rfl) ?_|refine zeh PP_mixed (by kernel_rfl) (by kernel_rfl) ?_
   repeat' first|(refine zap rfl ?_;first|refine zad rfl (fun hF Γ w h1 h2 => e2' hF Γ w (fun p hp => h1 p (.tail _ (.tail _ hp))) h2) (e3 _ (by omega)) ?_|refine zai [2] hA rfl rfl rfl zdj (fun | _, _, ⟨_, ⟨nb, rfl, rfl⟩, rfl⟩ => ?_)|refine zas rfl rfl (by omega) ?_)|refine zp ?_|refine zyl 1 rfl ?_|refine zyf rfl ?_|refine zyn ?_
   refine zeb [0] rfl ?_
   repeat (first|refine zck ?_|refine zcl ?_|refine zcm ?_|refine zcn ?_|refine zco ?_)
   have hs : Few s := by unfold Few; omega
   have hx : Few x := by unfold Few; rw [← he.puts]; omega
   have hAL : ((argL X.A X.B X.C X.fr told).take n).length = n := by rw [List.length_take, argL_len]; omega
   have hRa : RdSl w0 [(nb, .cells (List.toArray ((argL X.A X.B X.C X.fr told).flatMap encI)) 2 (0, 0))] encI 1 (.slice (some ⟨nb, 0, none⟩) n 3) ((argL X.A X.B X.C X.fr told).take n) := by
     have h := intRd w0 nb (argL X.A X.B X.C X.fr told)
     have h2 := RdSl.pre (q := n) h (by rw [argL_len]; omega)
     rw [argL_len] at h2
     exact h2
   have hsub : ∀ SH : Shared, ∀ y ∈ [(nb, Obj.cells (List.toArray ((argL X.A X.B X.C X.fr told).flatMap encI)) 2 (0, 0))], y ∈ (nb, Obj.cells (List.toArray ((argL X.A X.B X.C X.fr told).flatMap encI)) 2 (0, 0)) :: SH := fun SH y hy => by
     rw [List.mem_singleton.1 hy]; exact .head _
   generalize (argL X.A X.B X.C X.fr told).take n = AL at hAL hRa
   have hcat := hst.cat [(nb, .cells (List.toArray ((argL X.A X.B X.C X.fr told).flatMap encI)) 2 (0, 0))] p s AL (some ⟨nb, 0, none⟩) 3 hs (by rw [hAL]) (by rw [hAL]; exact hRa)
   have hth := three_spec w0 [(nb, .cells (List.toArray ((argL X.A X.B X.C X.fr told).flatMap encI)) 2 (0, 0))] AL (by omega) (some ⟨nb, 0, none⟩) 3 (by rw [hAL]; exact hRa)
   rw [hAL] at hcat hth
   generalize AL.getD 0 0 = y0 at hcat hth
   generalize AL.getD 1 0 = y1 at hcat hth
   generalize AL.getD 2 0 = y2 at hcat hth
   have hdir := hst.dir q y0 y1 y2 x hx
   obtain ⟨h1, h2⟩ := hst.eqv y0 y1 y2 s x he
   have hln := hst.len y0 y1 y2 s hs
   rw [← h1] at hdir
   generalize st y0 y1 y2 s = R at hcat hdir h1 h2 hln
   generalize st y0 y1 y2 x = R2 at hdir h1 h2
   obtain ⟨⟨v, e⟩, s'⟩ := R
   obtain ⟨vr, x'⟩ := R2
   dsimp only at hcat hdir h2 hln
   refine zyx ?_
   first|refine zcp (by kernel_rfl) ?_|refine zcr [(.quiet, 0), (.loud, 1), (.quiet, 2), (.quiet, 3), (.quiet, 4), (.quiet, 5), (.loud, 6), (.quiet, 7), (.quiet, 8), (.quiet, 9), (.quiet, 10), (.quiet, 11)] PP_mixed (by kernel_rfl) (by kernel_rfl) ?_|refine zeh PP_mixed (by kernel_rfl) (by kernel_rfl) ?_
   repeat' first|(refine zap rfl ?_;first|refine zah [] hpl rfl rfl rfl zdj rfl ?_|refine zah [1] hcat rfl rfl rfl (hsub _) rfl ?_)|refine zp ?_|refine zyl 1 rfl ?_|refine zyl 2 rfl ?_|refine zyf rfl ?_|refine zyn ?_
   repeat (first|refine zck ?_|refine zcl ?_|refine zcm ?_|refine zcn ?_|refine zco ?_)
   refine zyx ?_
   first|refine zcp (by kernel_rfl) ?_|refine zcr [(.quiet, 0), (.quiet, 1), (.quiet, 2), (.quiet, 3), (.quiet, 4), (.loud, 5), (.loud, 6), (.quiet, 7), (.quiet, 8), (.quiet, 9), (.quiet, 10), (.quiet, 11)] PP_mixed (by kernel_rfl) (by kernel_rfl) ?_|refine zeh PP_mixed (by kernel_rfl) (by kernel_rfl) ?_
   repeat' first|(refine zap rfl ?_;first|refine zah [] hth rfl rfl rfl (hsub _) rfl ?_|refine zah [2] hdir rfl rfl rfl zdj rfl ?_)|refine zp ?_|refine zyl 1 rfl ?_|refine zyl 2 rfl ?_|refine zyf rfl ?_|refine zyn ?_
   repeat (first|refine zck ?_|refine zcl ?_|refine zcm ?_|refine zcn ?_|refine zco ?_)
   have hal := alike_spec w0 p q s' x' (by unfold Few; omega) h2
   refine zyr ?_
   repeat' first|(refine zap rfl ?_;first|refine zbx rfl ?_|refine zaj rfl ?_|refine zai [1, 0] hal rfl rfl rfl zdj (fun | _, _, ⟨rfl, s2, x2, rfl, he2, hp2⟩ => ?_)|refine zbf rfl rfl (by omega) ?_|refine zbv rfl ?_)|refine zp ?_|refine zyn ?_
   refine zcj rfl ?_
   repeat (first|refine zck ?_|refine zcl ?_|refine zcm ?_|refine zcn ?_|refine zco ?_)
   by_cases hz : e = 0
   · repeat (first|refine zck ?_|refine zcl ?_|refine zcm ?_|refine zcn ?_)
     refine zyr ?_
     repeat' first|(refine zap rfl ?_;refine zbc rfl rfl (by omega) ?_)|refine zp ?_|refine zyn ?_
     refine zci rfl ?_
     repeat (first|refine zck ?_|refine zcl ?_|refine zcm ?_|refine zcn ?_|refine zco ?_)
     refine zyr ?_
     repeat' first|(refine zap rfl ?_;first|refine zdt rfl rfl rfl rfl rfl rfl (fun nb2 => ?_)|refine zdz 2 3 rfl rfl rfl rfl rfl rfl rfl rfl (by omega) (fun _ _ => rfl) (fun a' cap' => ?_))|refine zp ?_|refine zyn ?_
     refine zec [0, 0, 0] rfl ?_
     repeat' first|refine zyq ?_|(refine zap rfl ?_;refine zau rfl rfl (by omega) ?_)|refine zp ?_|refine zch ?_
     have q1 : Value.slice a' (told.length + 1) cap' = .slice a' (told ++ [v]).length cap' := by rw [List.length_append]; rfl
     have q2 : [SpaceA p s2, SpaceA q x2, SlA 2 1 a' (told.length + 1) cap' (told.flatMap encI ++ [.int .i64 v])] = [SpaceA p s2, SpaceA q x2, SlA 2 1 a' (told ++ [v]).length cap' ((told ++ [v]).flatMap encI)] := by rw [List.length_append, List.flatMap_append]; rfl
     have q3 : i + 1 ≤ l.length := hlt
     have q4 : s2.puts.length ≤ (i + 1) * 30000 := by rw [hp2]; omega
     have q5 : (told ++ [v]).length ≤ i + 1 := by rw [List.length_append, List.length_singleton]; omega
     have q6 : l.length - (i + 1) < l.length - i := by omega
     exact zeq ⟨rfl, (i + 1, s2, x2, told ++ [v], a', cap'), ⟨rfl, rfl, rfl, q1, rfl, trivial⟩, ⟨q2, q3, he2, q4, q5⟩, q6⟩
   · repeat (first|refine zck ?_|refine zcl ?_|refine zcm ?_|refine zcn ?_)
     refine zyr ?_
     repeat' first|(refine zap rfl ?_;refine zbd rfl rfl (by omega) ?_)|refine zp ?_|refine zyn ?_
     refine zcj rfl ?_
     repeat' first|refine zcm ?_|refine zcn ?_|refine zyq ?_|(refine zap rfl ?_;refine zau rfl rfl (by omega) ?_)|refine zp ?_|refine zch ?_
     have q3 : i + 1 ≤ l.length := hlt
     have q4 : s2.puts.length ≤ (i + 1) * 30000 := by rw [hp2]; omega
     have q5 : told.length ≤ i + 1 := by omega
     have q6 : l.length - (i + 1) < l.length - i := by omega
     refine zeq ⟨rfl, (i + 1, s2, x2, told, a2, c2), ⟨rfl, rfl, rfl, rfl, rfl, trivial⟩, ⟨?_, q3, he2, q4, q5⟩, q6⟩
     exact rfl
 · repeat (first|refine zck ?_|refine zcl ?_|refine zcm ?_|refine zcn ?_)
   refine zyr ?_
   repeat' first|(refine zap rfl ?_;first|refine zce rfl ?_|refine zbh rfl rfl (by omega) ?_)|refine zp ?_|refine zyn ?_
   refine zcj rfl ?_
   refine zer rfl rfl ?_
   repeat' first|refine zck ?_|refine zyq ?_|refine zp ?_|refine zch ?_
   refine zec [] rfl ?_
   exact zej rfl ⟨rfl, rfl⟩
end Go.Proofs.YtgdhcgnmffgkiaaGreatDoor
namespace Go.Proofs.YtgdhcgnmffgkiaaGreatDoor
open Go.Vc Sim Go.ChangeShapes Go.WideShapes Go.RowKit
set_option maxRecDepth 100000
theorem gPow : Tryz.prog.globalNamed nPow = some 0 := by kernel_rfl
theorem tPow : (Tryz.prog.globals[0]?).map (·.type) = some 216 := by kernel_rfl
theorem laid_eq : (Rows.laid_simulcast_array_powers : DataW Unit) = Lib.tabData .i64 [1, 8, 64, 512, 4096] := rfl
theorem pow_ok {W : World} (h : laidMetH Tryz.prog lPow W) : PowOk W := by
 rw [MakeChecks.laidMetH_plain _ _ _ (by kernel_rfl), lPow, laid_eq] at h
 have hT := Lib.tabIs_of_head gPow tPow Tryz.underlying216 Tryz.underlying2 (by kernel_rfl) (by kernel_rfl) h
 unfold Lib.TabIs World.var? at hT
 rw [gPow] at hT
 simp only [Option.bind_some] at hT
 split at hT
 · rename_i cs T fr hc
   cases hT
   exact ⟨T, fr, hc⟩
 · cases hT
theorem wf_i16 {x : Int} (h : (Lit.int .i16 x).wf = true) : -32768 ≤ x ∧ x ≤ 32767 := by
 simp only [Lit.wf, Bool.and_eq_true, decide_eq_true_eq] at h
 exact ⟨h.1, h.2⟩
theorem in_cx {H : Type} {enc : TypeId × Value → H} {w : World} {base : Nat} {spare : Nat → Bool} {held : Bool} {n : Nat} {cs : List Value} {y : DataW H × List MemPlace}
   (h : DataW.trod enc Tryz.prog w base spare held n 29 cs = some y) : ∃ x : CallX, x.Ok ∧ cs = encC x := by
 obtain ⟨xs, n', _, _, hlen, hxl, hf⟩ := DataW.trod_struct Tryz.underlying29 h
 have c5 : Tryz.prog.cellsOf 5 = 1 := by kernel_rfl
 have cb : Tryz.prog.cellsOf 4 = 1 := by kernel_rfl
 have c2 : Tryz.prog.cellsOf 2 = 1 := by kernel_rfl
 have c6 : Tryz.prog.cellsOf 27 = 1 := by kernel_rfl
 have cT : Tryz.prog.cellsOf 29 = 7 := by kernel_rfl
 rw [cT] at hlen
 have f0 : DataW.trod enc Tryz.prog w base spare held n' 5 ((cs.drop 0).take (Tryz.prog.cellsOf 5)) = xs[0]? := hf 0 _ rfl
 have f1 : DataW.trod enc Tryz.prog w base spare held n' 5 ((cs.drop 1).take (Tryz.prog.cellsOf 5)) = xs[1]? := hf 1 _ rfl
 have f2 : DataW.trod enc Tryz.prog w base spare held n' 4 ((cs.drop 2).take (Tryz.prog.cellsOf 4)) = xs[2]? := hf 2 _ rfl
 have f3 : DataW.trod enc Tryz.prog w base spare held n' 2 ((cs.drop 3).take (Tryz.prog.cellsOf 2)) = xs[3]? := hf 3 _ rfl
 have f4 : DataW.trod enc Tryz.prog w base spare held n' 2 ((cs.drop 4).take (Tryz.prog.cellsOf 2)) = xs[4]? := hf 4 _ rfl
 have f5 : DataW.trod enc Tryz.prog w base spare held n' 2 ((cs.drop 5).take (Tryz.prog.cellsOf 2)) = xs[5]? := hf 5 _ rfl
 have f6 : DataW.trod enc Tryz.prog w base spare held n' 27 ((cs.drop 6).take (Tryz.prog.cellsOf 27)) = xs[6]? := hf 6 _ rfl
 rw [c5] at f0 f1
 rw [cb] at f2
 rw [c2] at f3 f4 f5
 rw [c6] at f6
 match cs, hlen with
 | [a0, a1, a2, a3, a4, a5, a6], _ =>
   match xs, hxl with
   | [y0, y1, y2, y3, y4, y5, y6], _ =>
     obtain ⟨k0, e0, _, w0⟩ := DataW.trod_int Tryz.underlying5 (show DataW.trod _ _ _ _ _ _ n' _ [a0] = some y0 from f0)
     obtain ⟨k1, e1, _, w1⟩ := DataW.trod_int Tryz.underlying5 (show DataW.trod _ _ _ _ _ _ n' _ [a1] = some y1 from f1)
     obtain ⟨k2, e2, _⟩ := DataW.trod_bool Tryz.underlying4 (show DataW.trod _ _ _ _ _ _ n' _ [a2] = some y2 from f2)
     obtain ⟨k3, e3, _, w3⟩ := DataW.trod_int Tryz.underlying2 (show DataW.trod _ _ _ _ _ _ n' _ [a3] = some y3 from f3)
     obtain ⟨k4, e4, _, w4⟩ := DataW.trod_int Tryz.underlying2 (show DataW.trod _ _ _ _ _ _ n' _ [a4] = some y4 from f4)
     obtain ⟨k5, e5, _, w5⟩ := DataW.trod_int Tryz.underlying2 (show DataW.trod _ _ _ _ _ _ n' _ [a5] = some y5 from f5)
     obtain ⟨k6, e6, _, w6⟩ := DataW.trod_int Tryz.underlying27 (show DataW.trod _ _ _ _ _ _ n' _ [a6] = some y6 from f6)
     simp only [List.cons.injEq, and_true] at e0 e1 e2 e3 e4 e5 e6
     subst e0; subst e1; subst e2; subst e3; subst e4; subst e5; subst e6
     exact ⟨⟨k0, k1, k2, k3, k4, k5, k6⟩, ⟨wf_u8 w0, wf_u8 w1, wf_i16 w6⟩, rfl⟩
end Go.Proofs.YtgdhcgnmffgkiaaGreatDoor
