import Derived.Test.YtgdhcgnmffgkiaaGreatDoorPart23
import Derived.Test.YtgdhcgnmffgkiaaGreatDoorPart5
import Derived.Test.YtgdhcgnmffgkiaaGreatDoorKit
import Derived.Test.YtgdhcgnmffgkiaaGreatDoorPart6
/- Own work: lemmas of this claim. -/
namespace Go.Proofs.YtgdhcgnmffgkiaaGreatDoor
variable (w0 : World)
open Go.Vc Sim
set_option maxHeartbeats 4000000
set_option maxRecDepth 20000
theorem mr_cGet (_ : PowOk w0) (r : Int) (_ : Any r) : MrOk w0 0 r (bs [103, 101, 116], 0, false) := fun sh p s l a c hs hl _ =>
 mr_of (m := ((_, _, false), 194)) hl (clo_cGet w0 sh p awP r _ s _ _ (fnL (ctrGet w0 p r) (Pg.bd_gt0 _) (by decide) s hs))
theorem mr_cAdd (_ : PowOk w0) (r : Int) (_ : Any r) : MrOk w0 0 r (bs [97, 100, 100], 1, true) := fun sh p s l a c hs hl hR => by
 have h2 : (l.length : Int) = 1 := hl
 exact mr_of (m := ((_, _, true), 196)) hl (clo_cAdd w0 sh p awP r (l.getD 0 0) l a c hR (getD_some (by omega)) s _ _ (fnL (ctrAdd w0 p r (l.getD 0 0)) (Ctr.bd_add _ _) (by decide) s hs))
theorem mr_cSet (_ : PowOk w0) (r : Int) (_ : Any r) : MrOk w0 0 r (bs [115, 101, 116], 1, true) := fun sh p s l a c hs hl hR => by
 have h2 : (l.length : Int) = 1 := hl
 exact mr_of (m := ((_, _, true), 197)) hl (clo_cSet w0 sh p awP r (l.getD 0 0) l a c hR (getD_some (by omega)) s _ _ (fnL (ctrSet w0 p r (l.getD 0 0)) (Ctr.bd_set _ _) (by decide) s hs))
theorem mr_sPush (_ : PowOk w0) (r : Int) (_ : Any r) : MrOk w0 1 r (bs [112, 117, 115, 104], 1, true) := fun sh p s l a c hs hl hR => by
 have h2 : (l.length : Int) = 1 := hl
 exact mr_of (m := ((_, _, true), 198)) hl (clo_sPush w0 sh p awP r (l.getD 0 0) l a c hR (getD_some (by omega)) s _ _ (fnL (stPush w0 p awP awP_ok r (l.getD 0 0)) (Stk.bd_push _ _ _) (by decide) s hs))
theorem mr_sPop (_ : PowOk w0) (r : Int) (_ : Any r) : MrOk w0 1 r (bs [112, 111, 112], 0, true) := fun sh p s l a c hs hl _ =>
 mr_of (m := ((_, _, true), 200)) hl (clo_sPop w0 sh p awP r _ s _ _ (fnL (stPop w0 p awP awP_ok r) (Stk.bd_pop _ _) (by decide) s hs))
theorem mr_sTop (_ : PowOk w0) (r : Int) (_ : Any r) : MrOk w0 1 r (bs [116, 111, 112], 0, false) := fun sh p s l a c hs hl _ =>
 mr_of (m := ((_, _, false), 201)) hl (clo_sTop w0 sh p awP r _ s _ _ (fnL (stTop w0 p r) (Stk.bd_top _) (by decide) s hs))
theorem mr_sLen (_ : PowOk w0) (r : Int) (_ : Any r) : MrOk w0 1 r (bs [108, 101, 110], 0, false) := fun sh p s l a c hs hl _ =>
 mr_of (m := ((_, _, false), 202)) hl (clo_sLen w0 sh p awP r _ s _ _ (fnL (stLen w0 p r) (Pg.bd_gt0 _) (by decide) s hs))
theorem mr_qPut (_ : PowOk w0) (r : Int) (_ : Any r) : MrOk w0 2 r (bs [112, 117, 116], 1, true) := fun sh p s l a c hs hl hR => by
 have h2 : (l.length : Int) = 1 := hl
 exact mr_of (m := ((_, _, true), 203)) hl (clo_qPut w0 sh p awP r (l.getD 0 0) l a c hR (getD_some (by omega)) s _ _ (fnL (quPut w0 p awP awP_ok r (l.getD 0 0)) (Qu.bd_put _ _ _) (by decide) s hs))
theorem mr_qTake (_ : PowOk w0) (r : Int) (_ : Any r) : MrOk w0 2 r (bs [116, 97, 107, 101], 0, true) := fun sh p s l a c hs hl _ =>
 mr_of (m := ((_, _, true), 204)) hl (clo_qTake w0 sh p awP r _ s _ _ (fnL (quTake w0 p awP awP_ok r) (Qu.bd_take _ _) (by decide) s hs))
theorem mr_qFirst (_ : PowOk w0) (r : Int) (_ : Any r) : MrOk w0 2 r (bs [102, 105, 114, 115, 116], 0, false) := fun sh p s l a c hs hl _ =>
 mr_of (m := ((_, _, false), 205)) hl (clo_qFirst w0 sh p awP r _ s _ _ (fnL (quFirst w0 p r) (Qu.bd_first _) (by decide) s hs))
theorem mr_qLen (_ : PowOk w0) (r : Int) (_ : Any r) : MrOk w0 2 r (bs [108, 101, 110], 0, false) := fun sh p s l a c hs hl _ =>
 mr_of (m := ((_, _, false), 206)) hl (clo_qLen w0 sh p awP r _ s _ _ (fnL (quLen w0 p r) (Qu.bd_len _) (by decide) s hs))
theorem mr_dPushL (_ : PowOk w0) (r : Int) (_ : Any r) : MrOk w0 3 r (bs [112, 117, 115, 104, 95, 108, 101, 102, 116], 1, true) := fun sh p s l a c hs hl hR => by
 have h2 : (l.length : Int) = 1 := hl
 exact mr_of (m := ((_, _, true), 207)) hl (clo_dPushL w0 sh p awP r (l.getD 0 0) l a c hR (getD_some (by omega)) s _ _ (fnL (dqPush w0 p awP awP_ok r (l.getD 0 0) false) (Dq.bd_push _ _ _ _) (by decide) s hs))
theorem mr_dPushR (_ : PowOk w0) (r : Int) (_ : Any r) : MrOk w0 3 r (bs [112, 117, 115, 104, 95, 114, 105, 103, 104, 116], 1, true) := fun sh p s l a c hs hl hR => by
 have h2 : (l.length : Int) = 1 := hl
 exact mr_of (m := ((_, _, true), 208)) hl (clo_dPushR w0 sh p awP r (l.getD 0 0) l a c hR (getD_some (by omega)) s _ _ (fnL (dqPush w0 p awP awP_ok r (l.getD 0 0) true) (Dq.bd_push _ _ _ _) (by decide) s hs))
theorem mr_dPopL (_ : PowOk w0) (r : Int) (_ : Any r) : MrOk w0 3 r (bs [112, 111, 112, 95, 108, 101, 102, 116], 0, true) := fun sh p s l a c hs hl _ =>
 mr_of (m := ((_, _, true), 209)) hl (clo_dPopL w0 sh p awP r _ s _ _ (fnL (dqPop w0 p awP awP_ok r false) (Dq.bd_pop _ _ _) (by decide) s hs))
theorem mr_dPopR (_ : PowOk w0) (r : Int) (_ : Any r) : MrOk w0 3 r (bs [112, 111, 112, 95, 114, 105, 103, 104, 116], 0, true) := fun sh p s l a c hs hl _ =>
 mr_of (m := ((_, _, true), 210)) hl (clo_dPopR w0 sh p awP r _ s _ _ (fnL (dqPop w0 p awP awP_ok r true) (Dq.bd_pop _ _ _) (by decide) s hs))
theorem mr_dLeft (_ : PowOk w0) (r : Int) (_ : Any r) : MrOk w0 3 r (bs [108, 101, 102, 116], 0, false) := fun sh p s l a c hs hl _ =>
 mr_of (m := ((_, _, false), 211)) hl (clo_dLeft w0 sh p awP r _ s _ _ (fnL (dqPeek w0 p r false) (Dq.bd_peek _ _) (by decide) s hs))
theorem mr_dRight (_ : PowOk w0) (r : Int) (_ : Any r) : MrOk w0 3 r (bs [114, 105, 103, 104, 116], 0, false) := fun sh p s l a c hs hl _ =>
 mr_of (m := ((_, _, false), 212)) hl (clo_dRight w0 sh p awP r _ s _ _ (fnL (dqPeek w0 p r true) (Dq.bd_peek _ _) (by decide) s hs))
theorem mr_dLen (_ : PowOk w0) (r : Int) (_ : Any r) : MrOk w0 3 r (bs [108, 101, 110], 0, false) := fun sh p s l a c hs hl _ =>
 mr_of (m := ((_, _, false), 213)) hl (clo_dLen w0 sh p awP r _ s _ _ (fnL (dqLen w0 p r) (Pg.bd_gt0 _) (by decide) s hs))
theorem mr_aPush (hw : PowOk w0) (r : Int) (hr : Any r) : MrOk w0 7 r (bs [112, 117, 115, 104], 1, true) := fun sh p s l a c hs hl hR => by
 have h2 : (l.length : Int) = 1 := hl
 exact mr_of (m := ((_, _, true), 214)) hl (clo_aPush w0 sh p awP r (l.getD 0 0) l a c hR (getD_some (by omega)) s _ _ (aPushE w0 hw p r hr (l.getD 0 0) s hs))
theorem mr_aPop (hw : PowOk w0) (r : Int) (hr : Any r) : MrOk w0 7 r (bs [112, 111, 112], 0, true) := fun sh p s l a c hs hl _ =>
 mr_of (m := ((_, _, true), 216)) hl (clo_aPop w0 sh p awP r _ s _ _ (aPopE w0 hw p r hr s hs))
theorem mr_aGet (hw : PowOk w0) (r : Int) (hr : Any r) : MrOk w0 7 r (bs [103, 101, 116], 1, false) := fun sh p s l a c hs hl hR => by
 have h2 : (l.length : Int) = 1 := hl
 exact mr_of (m := ((_, _, false), 217)) hl (clo_aGet w0 sh p awP r (l.getD 0 0) l a c hR (getD_some (by omega)) s _ _ (aGetE w0 hw p r hr (l.getD 0 0) s hs))
theorem mr_aSet (hw : PowOk w0) (r : Int) (hr : Any r) : MrOk w0 7 r (bs [115, 101, 116], 2, true) := fun sh p s l a c hs hl hR => by
 have h2 : (l.length : Int) = 2 := hl
 exact mr_of (m := ((_, _, true), 218)) hl (clo_aSet w0 sh p awP r (l.getD 0 0) (l.getD 1 0) l a c hR (getD_some (by omega)) (getD_some (by omega)) s _ _ (aSetE w0 hw p r hr (l.getD 0 0) (l.getD 1 0) s hs))
theorem mr_aSwap (hw : PowOk w0) (r : Int) (hr : Any r) : MrOk w0 7 r (bs [115, 119, 97, 112], 2, true) := fun sh p s l a c hs hl hR => by
 have h2 : (l.length : Int) = 2 := hl
 exact mr_of (m := ((_, _, true), 219)) hl (clo_aSwap w0 sh p awP r (l.getD 0 0) (l.getD 1 0) l a c hR (getD_some (by omega)) (getD_some (by omega)) s _ _ (aswap_spec w0 hw p ⟨awP, r⟩ (okA r hr) s (l.getD 0 0) (l.getD 1 0) (hs.sm (by decide))))
theorem mr_aLen (_ : PowOk w0) (r : Int) (hr : Any r) : MrOk w0 7 r (bs [108, 101, 110], 0, false) := fun sh p s l a c hs hl _ =>
 mr_of (m := ((_, _, false), 220)) hl (clo_aLen w0 sh p awP r _ s _ _ (len_spec w0 p ⟨awP, r⟩ (okA r hr) s (hs.sm (by decide))))
theorem mr_mPut (_ : PowOk w0) (r : Int) (hr : Any r) : MrOk w0 4 r (bs [112, 117, 116], 2, true) := fun sh p s l a c hs hl hR => by
 have h2 : (l.length : Int) = 2 := hl
 exact mr_of (m := ((_, _, true), 221)) hl (clo_mPut w0 sh p awP r (l.getD 0 0) (l.getD 1 0) l a c hR (getD_some (by omega)) (getD_some (by omega)) s _ _ _ _ (fnL (trPut w0 p _ (okM r hr) (tI_of awP r) (l.getD 0 0) (l.getD 1 0)) (Tr.bd_put _ _ _ _) (by decide) s hs))
theorem mr_mGet (_ : PowOk w0) (r : Int) (hr : Any r) : MrOk w0 4 r (bs [103, 101, 116], 1, false) := fun sh p s l a c hs hl hR => by
 have h2 : (l.length : Int) = 1 := hl
 exact mr_of (m := ((_, _, false), 223)) hl (clo_mGet w0 sh p awP r (l.getD 0 0) l a c hR (getD_some (by omega)) s _ _ _ (fnL (trGet w0 p _ (okM r hr) (tI_of awP r) (l.getD 0 0)) (Tr.bd_get _ _ _) (by decide) s hs))
theorem mr_mHas (_ : PowOk w0) (r : Int) (hr : Any r) : MrOk w0 4 r (bs [104, 97, 115], 1, false) := fun sh p s l a c hs hl hR => by
 have h2 : (l.length : Int) = 1 := hl
 exact mr_of (m := ((_, _, false), 225)) hl (clo_mHas w0 sh p awP r (l.getD 0 0) l a c hR (getD_some (by omega)) s _ _ _ (fnL (trGet w0 p _ (okM r hr) (tI_of awP r) (l.getD 0 0)) (Tr.bd_get _ _ _) (by decide) s hs))
theorem mr_mDrop (_ : PowOk w0) (r : Int) (hr : Any r) : MrOk w0 4 r (bs [100, 114, 111, 112], 1, true) := fun sh p s l a c hs hl hR => by
 have h2 : (l.length : Int) = 1 := hl
 exact mr_of (m := ((_, _, true), 227)) hl (clo_mDrop w0 sh p awP r (l.getD 0 0) l a c hR (getD_some (by omega)) s _ _ _ _ (fnL (trDrop w0 p _ (okM r hr) (tI_of awP r) (l.getD 0 0)) (Tr.bd_drop _ (okM r hr) _ _) (by decide) s hs))
theorem mr_tPut (_ : PowOk w0) (r : Int) (hr : Any r) : MrOk w0 5 r (bs [112, 117, 116], 2, true) := fun sh p s l a c hs hl hR => by
 have h2 : (l.length : Int) = 2 := hl
 exact mr_of (m := ((_, _, true), 230)) hl (clo_tPut w0 sh p awP r (l.getD 0 0) (l.getD 1 0) l a c hR (getD_some (by omega)) (getD_some (by omega)) s _ _ _ _ (fnL (tePutKey w0 p _ (okT r hr) (l.getD 0 0) (l.getD 1 0)) (Te.bd_put _ (okT r hr) _ _) (by decide) s hs))
theorem mr_tGet (_ : PowOk w0) (r : Int) (hr : Any r) : MrOk w0 5 r (bs [103, 101, 116], 1, false) := fun sh p s l a c hs hl hR => by
 have h2 : (l.length : Int) = 1 := hl
 exact mr_of (m := ((_, _, false), 232)) hl (clo_tGet w0 sh p awP r (l.getD 0 0) l a c hR (getD_some (by omega)) s _ _ _ (fnL (teGetKey w0 p _ (okT r hr) (l.getD 0 0)) (Te.bd_get _ _) (by decide) s hs))
theorem mr_tHas (_ : PowOk w0) (r : Int) (hr : Any r) : MrOk w0 5 r (bs [104, 97, 115], 1, false) := fun sh p s l a c hs hl hR => by
 have h2 : (l.length : Int) = 1 := hl
 exact mr_of (m := ((_, _, false), 233)) hl (clo_tHas w0 sh p awP r (l.getD 0 0) l a c hR (getD_some (by omega)) s _ _ _ (fnL (teGetKey w0 p _ (okT r hr) (l.getD 0 0)) (Te.bd_get _ _) (by decide) s hs))
theorem mr_tDrop (_ : PowOk w0) (r : Int) (hr : Any r) : MrOk w0 5 r (bs [100, 114, 111, 112], 1, true) := fun sh p s l a c hs hl hR => by
 have h2 : (l.length : Int) = 1 := hl
 exact mr_of (m := ((_, _, true), 234)) hl (clo_tDrop w0 sh p awP r (l.getD 0 0) l a c hR (getD_some (by omega)) s _ _ _ _ (fnL (teDropKey w0 p _ (okT r hr) (l.getD 0 0)) (Te.bd_drop _ (okT r hr) _) (by decide) s hs))
theorem mr_mLen (_ : PowOk w0) (r : Int) (hr : Any r) : MrOk w0 4 r (bs [108, 101, 110], 0, false) := fun sh p s l a c hs hl _ =>
 mr_of (m := ((_, _, false), 229)) hl (clo_mLen w0 sh p awP r _ s _ _ (fnL (trLen w0 p _ (okM r hr)) (Pg.bd_gt0 _) (by decide) s hs))
theorem mr_tSum (_ : PowOk w0) (r : Int) (hr : Any r) : MrOk w0 5 r (bs [115, 117, 109], 2, false) := fun sh p s l a c hs hl hR => by
 have h2 : (l.length : Int) = 2 := hl
 exact mr_of (m := ((_, _, false), 235)) hl (clo_tSum w0 sh p awP r (l.getD 0 0) (l.getD 1 0) l a c hR (getD_some (by omega)) (getD_some (by omega)) s _ _ (fnL (teSum w0 p _ (okT r hr) (l.getD 0 0) (l.getD 1 0)) (Te.bd_between _ _ _ _ _ Te.bd_sumO) (by decide) s hs))
theorem mr_tCount (_ : PowOk w0) (r : Int) (hr : Any r) : MrOk w0 5 r (bs [99, 111, 117, 110, 116], 2, false) := fun sh p s l a c hs hl hR => by
 have h2 : (l.length : Int) = 2 := hl
 exact mr_of (m := ((_, _, false), 236)) hl (clo_tCount w0 sh p awP r (l.getD 0 0) (l.getD 1 0) l a c hR (getD_some (by omega)) (getD_some (by omega)) s _ _ (fnL (teCount w0 p _ (okT r hr) (l.getD 0 0) (l.getD 1 0)) (Te.bd_between _ _ _ _ _ Te.bd_countO) (by decide) s hs))
theorem mr_tNext (_ : PowOk w0) (r : Int) (hr : Any r) : MrOk w0 5 r (bs [110, 101, 120, 116], 1, false) := fun sh p s l a c hs hl hR => by
 have h2 : (l.length : Int) = 1 := hl
 exact mr_of (m := ((_, _, false), 237)) hl (clo_tNext w0 sh p awP r (l.getD 0 0) l a c hR (getD_some (by omega)) s _ _ _ (fnL (teNext w0 p _ (okT r hr) (l.getD 0 0)) (Te.bd_next _ _) (by decide) s hs))
theorem mr_tNth (_ : PowOk w0) (r : Int) (hr : Any r) : MrOk w0 5 r (bs [110, 116, 104], 1, false) := fun sh p s l a c hs hl hR => by
 have h2 : (l.length : Int) = 1 := hl
 exact mr_of (m := ((_, _, false), 238)) hl (clo_tNth w0 sh p awP r (l.getD 0 0) l a c hR (getD_some (by omega)) s _ _ _ (fnL (teNth w0 p _ (okT r hr) (l.getD 0 0)) (Te.bd_nth _ _) (by decide) s hs))
theorem mr_tLen (_ : PowOk w0) (r : Int) (_ : Any r) : MrOk w0 5 r (bs [108, 101, 110], 0, false) := fun sh p s l a c hs hl _ =>
 mr_of (m := ((_, _, false), 239)) hl (clo_tLen w0 sh p awP r _ s _ _ (fnL (teLen w0 p ⟨awP, r⟩) (Pg.bd_gt0 _) (by decide) s hs))
theorem mr_hPush (_ : PowOk w0) (r : Int) (hr : Any r) : MrOk w0 6 r (bs [112, 117, 115, 104], 2, true) := fun sh p s l a c hs hl hR => by
 have h2 : (l.length : Int) = 2 := hl
 exact mr_of (m := ((_, _, true), 240)) hl (clo_hPush w0 sh p awP r (l.getD 0 0) (l.getD 1 0) l a c hR (getD_some (by omega)) (getD_some (by omega)) s _ _ (fnL (hePush w0 p _ (okH r hr) (l.getD 0 0) (l.getD 1 0)) (He.bd_push _ _ _) (by decide) s hs))
theorem mr_hPop (_ : PowOk w0) (r : Int) (hr : Any r) : MrOk w0 6 r (bs [112, 111, 112], 0, true) := fun sh p s l a c hs hl _ =>
 mr_of (m := ((_, _, true), 242)) hl (clo_hPop w0 sh p awP r _ s _ _ _ _ (fnL (hePop w0 p _ (okH r hr)) (He.bd_pop _) (by decide) s hs))
theorem mr_hMin (_ : PowOk w0) (r : Int) (hr : Any r) : MrOk w0 6 r (bs [109, 105, 110], 0, false) := fun sh p s l a c hs hl _ =>
 mr_of (m := ((_, _, false), 243)) hl (clo_hMin w0 sh p awP r _ s _ _ _ _ (fnL (heMin w0 p _ (okH r hr)) (He.bd_min _) (by decide) s hs))
theorem mr_hLeast (_ : PowOk w0) (r : Int) (hr : Any r) : MrOk w0 6 r (bs [108, 101, 97, 115, 116], 0, false) := fun sh p s l a c hs hl _ =>
 mr_of (m := ((_, _, false), 244)) hl (clo_hLeast w0 sh p awP r _ s _ _ _ _ (fnL (heMin w0 p _ (okH r hr)) (He.bd_min _) (by decide) s hs))
theorem mr_hLower (_ : PowOk w0) (r : Int) (hr : Any r) : MrOk w0 6 r (bs [108, 111, 119, 101, 114], 2, true) := fun sh p s l a c hs hl hR => by
 have h2 : (l.length : Int) = 2 := hl
 exact mr_of (m := ((_, _, true), 245)) hl (clo_hLower w0 sh p awP r (l.getD 0 0) (l.getD 1 0) l a c hR (getD_some (by omega)) (getD_some (by omega)) s _ _ (fnL (heLower w0 p _ (okH r hr) (l.getD 0 0) (l.getD 1 0)) (He.bd_lower _ _ _) (by decide) s hs))
theorem mr_hDrop (_ : PowOk w0) (r : Int) (hr : Any r) : MrOk w0 6 r (bs [100, 114, 111, 112], 1, true) := fun sh p s l a c hs hl hR => by
 have h2 : (l.length : Int) = 1 := hl
 exact mr_of (m := ((_, _, true), 246)) hl (clo_hDrop w0 sh p awP r (l.getD 0 0) l a c hR (getD_some (by omega)) s _ _ (fnL (heDrop w0 p _ (okH r hr) (l.getD 0 0)) (He.bd_drop _ _) (by decide) s hs))
theorem mr_hLen (_ : PowOk w0) (r : Int) (_ : Any r) : MrOk w0 6 r (bs [108, 101, 110], 0, false) := fun sh p s l a c hs hl _ =>
 mr_of (m := ((_, _, false), 247)) hl (clo_hLen w0 sh p awP r _ s _ _ (fnL (heLen w0 p ⟨awP, r⟩) (Pg.bd_gt0 _) (by decide) s hs))
theorem mr_gAdd (_ : PowOk w0) (r : Int) (hr : Any r) : MrOk w0 8 r (bs [97, 100, 100], 1, true) := fun sh p s l a c hs hl hR => by
 have h2 : (l.length : Int) = 1 := hl
 exact mr_of (m := ((_, _, true), 248)) hl (clo_gAdd w0 sh p awP r (l.getD 0 0) l a c hR (getD_some (by omega)) s _ _ (fnL (ghAdd w0 p _ (okG r hr) (l.getD 0 0)) (Gh.bd_add _ _) (by decide) s hs))
theorem mr_gLink (_ : PowOk w0) (r : Int) (hr : Any r) : MrOk w0 8 r (bs [108, 105, 110, 107], 3, true) := fun sh p s l a c hs hl hR => by
 have h2 : (l.length : Int) = 3 := hl
 exact mr_of (m := ((_, _, true), 250)) hl (clo_gLink w0 sh p awP r (l.getD 0 0) (l.getD 1 0) (l.getD 2 0) l a c hR (getD_some (by omega)) (getD_some (by omega)) (getD_some (by omega)) s _ _ (fnL (ghLnk w0 p _ (okG r hr) (l.getD 0 0) (l.getD 1 0) (l.getD 2 0)) (Gh.bd_lnk _ _ _ _) (by decide) s hs))
theorem mr_gCut (_ : PowOk w0) (r : Int) (hr : Any r) : MrOk w0 8 r (bs [99, 117, 116], 1, true) := fun sh p s l a c hs hl hR => by
 have h2 : (l.length : Int) = 1 := hl
 exact mr_of (m := ((_, _, true), 251)) hl (clo_gCut w0 sh p awP r (l.getD 0 0) l a c hR (getD_some (by omega)) s _ _ (fnL (ghCut w0 p _ (okG r hr) (l.getD 0 0)) (Gh.bd_cut _ _) (by decide) s hs))
theorem mr_gDrop (_ : PowOk w0) (r : Int) (hr : Any r) : MrOk w0 8 r (bs [100, 114, 111, 112], 1, true) := fun sh p s l a c hs hl hR => by
 have h2 : (l.length : Int) = 1 := hl
 exact mr_of (m := ((_, _, true), 252)) hl (clo_gDrop w0 sh p awP r (l.getD 0 0) l a c hR (getD_some (by omega)) s _ _ (fnL (ghDrop w0 p _ (okG r hr) (l.getD 0 0)) (Gh.bd_drop _ (okG r hr) _) (by decide) s hs))
theorem mr_gWeight (_ : PowOk w0) (r : Int) (hr : Any r) : MrOk w0 8 r (bs [119, 101, 105, 103, 104, 116], 2, false) := fun sh p s l a c hs hl hR => by
 have h2 : (l.length : Int) = 2 := hl
 exact mr_of (m := ((_, _, false), 253)) hl (clo_gWeight w0 sh p awP r (l.getD 0 0) (l.getD 1 0) l a c hR (getD_some (by omega)) (getD_some (by omega)) s _ _ _ (fnL (ghWeight w0 p _ (okG r hr) (l.getD 0 0) (l.getD 1 0)) (Gh.bd_weigh _ _ _) (by decide) s hs))
theorem mr_gLabel (_ : PowOk w0) (r : Int) (hr : Any r) : MrOk w0 8 r (bs [108, 97, 98, 101, 108], 1, false) := fun sh p s l a c hs hl hR => by
 have h2 : (l.length : Int) = 1 := hl
 exact mr_of (m := ((_, _, false), 254)) hl (clo_gLabel w0 sh p awP r (l.getD 0 0) l a c hR (getD_some (by omega)) s _ _ (fnL (ghLabel w0 p _ (okG r hr) (l.getD 0 0)) (Gh.bd_label _ _) (by decide) s hs))
theorem mr_gOuts (_ : PowOk w0) (r : Int) (hr : Any r) : MrOk w0 8 r (bs [111, 117, 116, 115], 1, false) := fun sh p s l a c hs hl hR => by
 have h2 : (l.length : Int) = 1 := hl
 exact mr_of (m := ((_, _, false), 255)) hl (clo_gOuts w0 sh p awP r (l.getD 0 0) l a c hR (getD_some (by omega)) s _ _ _ ((ghOuts w0 p _ (okG r hr) (l.getD 0 0) s (hs.fits (Gh.bd_ends _ _ _ _) (by decide))).mono fun v Γ ⟨ad, cap, e1, e2⟩ => ⟨ad, _, cap, e1, rfl, e2⟩))
theorem mr_gIns (_ : PowOk w0) (r : Int) (hr : Any r) : MrOk w0 8 r (bs [105, 110, 115], 1, false) := fun sh p s l a c hs hl hR => by
 have h2 : (l.length : Int) = 1 := hl
 exact mr_of (m := ((_, _, false), 257)) hl (clo_gIns w0 sh p awP r (l.getD 0 0) l a c hR (getD_some (by omega)) s _ _ _ ((ghIns w0 p _ (okG r hr) (l.getD 0 0) s (hs.fits (Gh.bd_ends _ _ _ _) (by decide))).mono fun v Γ ⟨ad, cap, e1, e2⟩ => ⟨ad, _, cap, e1, rfl, e2⟩))
theorem mr_gVerts (_ : PowOk w0) (r : Int) (hr : Any r) : MrOk w0 8 r (bs [118, 101, 114, 116, 105, 99, 101, 115], 0, false) := fun sh p s l a c hs hl _ =>
 mr_of (m := ((_, _, false), 258)) hl (clo_gVerts w0 sh p awP r _ s _ _ _ ((ghVerts w0 p _ (okG r hr) s (hs.fits (Gh.bd_verts _) (by decide))).mono fun v Γ ⟨ad, cap, e1, e2⟩ => ⟨ad, _, cap, e1, rfl, e2⟩))
theorem mr_gEdges (_ : PowOk w0) (r : Int) (_ : Any r) : MrOk w0 8 r (bs [101, 100, 103, 101, 115], 0, false) := fun sh p s l a c hs hl _ =>
 mr_of (m := ((_, _, false), 259)) hl (clo_gEdges w0 sh p awP r _ s _ _ (fnL (ghEdges w0 p ⟨awP, r⟩) (Pg.bd_gt0 _) (by decide) s hs))
theorem mr_fMake (_ : PowOk w0) (r : Int) (hr : Any r) : MrOk w0 9 r (bs [109, 97, 107, 101], 0, true) := fun sh p s l a c hs hl _ =>
 mr_of (m := ((_, _, true), 260)) hl (clo_fMake w0 sh p awP r _ s _ _ (fnL (foMake w0 p _ (okF r hr)) (Fo.bd_make _) (by decide) s hs))
theorem mr_fFind (_ : PowOk w0) (r : Int) (hr : Any r) : MrOk w0 9 r (bs [102, 105, 110, 100], 1, false) := fun sh p s l a c hs hl hR => by
 have h2 : (l.length : Int) = 1 := hl
 exact mr_of (m := ((_, _, false), 262)) hl (clo_fFind w0 sh p awP r (l.getD 0 0) l a c hR (getD_some (by omega)) s _ _ (fnL (foFindT w0 p _ (okF r hr) (l.getD 0 0)) (Fo.bd_find _ _) (by decide) s hs))
theorem mr_fUnion (_ : PowOk w0) (r : Int) (hr : Any r) : MrOk w0 9 r (bs [117, 110, 105, 111, 110], 2, true) := fun sh p s l a c hs hl hR => by
 have h2 : (l.length : Int) = 2 := hl
 exact mr_of (m := ((_, _, true), 263)) hl (clo_fUnion w0 sh p awP r (l.getD 0 0) (l.getD 1 0) l a c hR (getD_some (by omega)) (getD_some (by omega)) s _ _ _ (fnL (foUnionT w0 p _ (okF r hr) (l.getD 0 0) (l.getD 1 0)) (Fo.bd_union _ _ _) (by decide) s hs))
theorem mr_fUndo (_ : PowOk w0) (r : Int) (hr : Any r) : MrOk w0 9 r (bs [117, 110, 100, 111], 0, true) := fun sh p s l a c hs hl _ =>
 mr_of (m := ((_, _, true), 264)) hl (clo_fUndo w0 sh p awP r _ s _ _ _ (fnL (foUndo w0 p _ (okF r hr)) (Fo.bd_undo _) (by decide) s hs))
theorem mr_fSame (_ : PowOk w0) (r : Int) (hr : Any r) : MrOk w0 9 r (bs [115, 97, 109, 101], 2, false) := fun sh p s l a c hs hl hR => by
 have h2 : (l.length : Int) = 2 := hl
 exact mr_of (m := ((_, _, false), 265)) hl (clo_fSame w0 sh p awP r (l.getD 0 0) (l.getD 1 0) l a c hR (getD_some (by omega)) (getD_some (by omega)) s _ _ _ (fnL (foSameT w0 p _ (okF r hr) (l.getD 0 0) (l.getD 1 0)) (Fo.bd_same _ _ _) (by decide) s hs))
theorem mr_fSize (_ : PowOk w0) (r : Int) (hr : Any r) : MrOk w0 9 r (bs [115, 105, 122, 101], 1, false) := fun sh p s l a c hs hl hR => by
 have h2 : (l.length : Int) = 1 := hl
 exact mr_of (m := ((_, _, false), 266)) hl (clo_fSize w0 sh p awP r (l.getD 0 0) l a c hR (getD_some (by omega)) s _ _ (fnL (foSizeT w0 p _ (okF r hr) (l.getD 0 0)) (Fo.bd_sizeOf _ _) (by decide) s hs))
theorem mr_fSets (_ : PowOk w0) (r : Int) (hr : Any r) : MrOk w0 9 r (bs [115, 101, 116, 115], 0, false) := fun sh p s l a c hs hl _ =>
 mr_of (m := ((_, _, false), 267)) hl (clo_fSets w0 sh p awP r _ s _ _ (fnL (foSets w0 p _ (okF r hr)) (Pg.bd_gt0 _) (by decide) s hs))
theorem mrs_0 (hw : PowOk w0) (r : Int) (hr : Any r) : ∀ (i : Nat) (m : ByteArray × Int × Bool), (ctMeths 0)[i]? = some m → MrOk w0 0 r m := by
 have e : ctMeths 0 = [(bs [103, 101, 116], 0, false), (bs [97, 100, 100], 1, true), (bs [115, 101, 116], 1, true)] := rfl
 intro i m hm
 rw [e] at hm
 match i, hm with
 | 0, hm => cases hm; exact mr_cGet w0 hw r hr
 | 1, hm => cases hm; exact mr_cAdd w0 hw r hr
 | 2, hm => cases hm; exact mr_cSet w0 hw r hr
 | i + 3, hm => cases hm
theorem mrs_1 (hw : PowOk w0) (r : Int) (hr : Any r) : ∀ (i : Nat) (m : ByteArray × Int × Bool), (ctMeths 1)[i]? = some m → MrOk w0 1 r m := by
 have e : ctMeths 1 = [(bs [112, 117, 115, 104], 1, true), (bs [112, 111, 112], 0, true), (bs [116, 111, 112], 0, false), (bs [108, 101, 110], 0, false)] := rfl
 intro i m hm
 rw [e] at hm
 match i, hm with
 | 0, hm => cases hm; exact mr_sPush w0 hw r hr
 | 1, hm => cases hm; exact mr_sPop w0 hw r hr
 | 2, hm => cases hm; exact mr_sTop w0 hw r hr
 | 3, hm => cases hm; exact mr_sLen w0 hw r hr
 | i + 4, hm => cases hm
theorem mrs_2 (hw : PowOk w0) (r : Int) (hr : Any r) : ∀ (i : Nat) (m : ByteArray × Int × Bool), (ctMeths 2)[i]? = some m → MrOk w0 2 r m := by
 have e : ctMeths 2 = [(bs [112, 117, 116], 1, true), (bs [116, 97, 107, 101], 0, true), (bs [102, 105, 114, 115, 116], 0, false), (bs [108, 101, 110], 0, false)] := rfl
 intro i m hm
 rw [e] at hm
 match i, hm with
 | 0, hm => cases hm; exact mr_qPut w0 hw r hr
 | 1, hm => cases hm; exact mr_qTake w0 hw r hr
 | 2, hm => cases hm; exact mr_qFirst w0 hw r hr
 | 3, hm => cases hm; exact mr_qLen w0 hw r hr
 | i + 4, hm => cases hm
theorem mrs_3 (hw : PowOk w0) (r : Int) (hr : Any r) : ∀ (i : Nat) (m : ByteArray × Int × Bool), (ctMeths 3)[i]? = some m → MrOk w0 3 r m := by
 have e : ctMeths 3 = [(bs [112, 117, 115, 104, 95, 108, 101, 102, 116], 1, true), (bs [112, 117, 115, 104, 95, 114, 105, 103, 104, 116], 1, true), (bs [112, 111, 112, 95, 108, 101, 102, 116], 0, true), (bs [112, 111, 112, 95, 114, 105, 103, 104, 116], 0, true), (bs [108, 101, 102, 116], 0, false), (bs [114, 105, 103, 104, 116], 0, false), (bs [108, 101, 110], 0, false)] := rfl
 intro i m hm
 rw [e] at hm
 match i, hm with
 | 0, hm => cases hm; exact mr_dPushL w0 hw r hr
 | 1, hm => cases hm; exact mr_dPushR w0 hw r hr
 | 2, hm => cases hm; exact mr_dPopL w0 hw r hr
 | 3, hm => cases hm; exact mr_dPopR w0 hw r hr
 | 4, hm => cases hm; exact mr_dLeft w0 hw r hr
 | 5, hm => cases hm; exact mr_dRight w0 hw r hr
 | 6, hm => cases hm; exact mr_dLen w0 hw r hr
 | i + 7, hm => cases hm
theorem mrs_4 (hw : PowOk w0) (r : Int) (hr : Any r) : ∀ (i : Nat) (m : ByteArray × Int × Bool), (ctMeths 4)[i]? = some m → MrOk w0 4 r m := by
 have e : ctMeths 4 = [(bs [112, 117, 116], 2, true), (bs [103, 101, 116], 1, false), (bs [104, 97, 115], 1, false), (bs [100, 114, 111, 112], 1, true), (bs [108, 101, 110], 0, false)] := rfl
 intro i m hm
 rw [e] at hm
 match i, hm with
 | 0, hm => cases hm; exact mr_mPut w0 hw r hr
 | 1, hm => cases hm; exact mr_mGet w0 hw r hr
 | 2, hm => cases hm; exact mr_mHas w0 hw r hr
 | 3, hm => cases hm; exact mr_mDrop w0 hw r hr
 | 4, hm => cases hm; exact mr_mLen w0 hw r hr
 | i + 5, hm => cases hm
theorem mrs_5 (hw : PowOk w0) (r : Int) (hr : Any r) : ∀ (i : Nat) (m : ByteArray × Int × Bool), (ctMeths 5)[i]? = some m → MrOk w0 5 r m := by
 have e : ctMeths 5 = [(bs [112, 117, 116], 2, true), (bs [103, 101, 116], 1, false), (bs [104, 97, 115], 1, false), (bs [100, 114, 111, 112], 1, true), (bs [115, 117, 109], 2, false), (bs [99, 111, 117, 110, 116], 2, false), (bs [110, 101, 120, 116], 1, false), (bs [110, 116, 104], 1, false), (bs [108, 101, 110], 0, false)] := rfl
 intro i m hm
 rw [e] at hm
 match i, hm with
 | 0, hm => cases hm; exact mr_tPut w0 hw r hr
 | 1, hm => cases hm; exact mr_tGet w0 hw r hr
 | 2, hm => cases hm; exact mr_tHas w0 hw r hr
 | 3, hm => cases hm; exact mr_tDrop w0 hw r hr
 | 4, hm => cases hm; exact mr_tSum w0 hw r hr
 | 5, hm => cases hm; exact mr_tCount w0 hw r hr
 | 6, hm => cases hm; exact mr_tNext w0 hw r hr
 | 7, hm => cases hm; exact mr_tNth w0 hw r hr
 | 8, hm => cases hm; exact mr_tLen w0 hw r hr
 | i + 9, hm => cases hm
theorem mrs_6 (hw : PowOk w0) (r : Int) (hr : Any r) : ∀ (i : Nat) (m : ByteArray × Int × Bool), (ctMeths 6)[i]? = some m → MrOk w0 6 r m := by
 have e : ctMeths 6 = [(bs [112, 117, 115, 104], 2, true), (bs [112, 111, 112], 0, true), (bs [109, 105, 110], 0, false), (bs [108, 101, 97, 115, 116], 0, false), (bs [108, 111, 119, 101, 114], 2, true), (bs [100, 114, 111, 112], 1, true), (bs [108, 101, 110], 0, false)] := rfl
 intro i m hm
 rw [e] at hm
 match i, hm with
 | 0, hm => cases hm; exact mr_hPush w0 hw r hr
 | 1, hm => cases hm; exact mr_hPop w0 hw r hr
 | 2, hm => cases hm; exact mr_hMin w0 hw r hr
 | 3, hm => cases hm; exact mr_hLeast w0 hw r hr
 | 4, hm => cases hm; exact mr_hLower w0 hw r hr
 | 5, hm => cases hm; exact mr_hDrop w0 hw r hr
 | 6, hm => cases hm; exact mr_hLen w0 hw r hr
 | i + 7, hm => cases hm
theorem mrs_7 (hw : PowOk w0) (r : Int) (hr : Any r) : ∀ (i : Nat) (m : ByteArray × Int × Bool), (ctMeths 7)[i]? = some m → MrOk w0 7 r m := by
 have e : ctMeths 7 = [(bs [112, 117, 115, 104], 1, true), (bs [112, 111, 112], 0, true), (bs [103, 101, 116], 1, false), (bs [115, 101, 116], 2, true), (bs [115, 119, 97, 112], 2, true), (bs [108, 101, 110], 0, false)] := rfl
 intro i m hm
 rw [e] at hm
 match i, hm with
 | 0, hm => cases hm; exact mr_aPush w0 hw r hr
 | 1, hm => cases hm; exact mr_aPop w0 hw r hr
 | 2, hm => cases hm; exact mr_aGet w0 hw r hr
 | 3, hm => cases hm; exact mr_aSet w0 hw r hr
 | 4, hm => cases hm; exact mr_aSwap w0 hw r hr
 | 5, hm => cases hm; exact mr_aLen w0 hw r hr
 | i + 6, hm => cases hm
theorem mrs_8 (hw : PowOk w0) (r : Int) (hr : Any r) : ∀ (i : Nat) (m : ByteArray × Int × Bool), (ctMeths 8)[i]? = some m → MrOk w0 8 r m := by
 have e : ctMeths 8 = [(bs [97, 100, 100], 1, true), (bs [108, 105, 110, 107], 3, true), (bs [99, 117, 116], 1, true), (bs [100, 114, 111, 112], 1, true), (bs [119, 101, 105, 103, 104, 116], 2, false), (bs [108, 97, 98, 101, 108], 1, false), (bs [111, 117, 116, 115], 1, false), (bs [105, 110, 115], 1, false), (bs [118, 101, 114, 116, 105, 99, 101, 115], 0, false), (bs [101, 100, 103, 101, 115], 0, false)] := rfl
 intro i m hm
 rw [e] at hm
 match i, hm with
 | 0, hm => cases hm; exact mr_gAdd w0 hw r hr
 | 1, hm => cases hm; exact mr_gLink w0 hw r hr
 | 2, hm => cases hm; exact mr_gCut w0 hw r hr
 | 3, hm => cases hm; exact mr_gDrop w0 hw r hr
 | 4, hm => cases hm; exact mr_gWeight w0 hw r hr
 | 5, hm => cases hm; exact mr_gLabel w0 hw r hr
 | 6, hm => cases hm; exact mr_gOuts w0 hw r hr
 | 7, hm => cases hm; exact mr_gIns w0 hw r hr
 | 8, hm => cases hm; exact mr_gVerts w0 hw r hr
 | 9, hm => cases hm; exact mr_gEdges w0 hw r hr
 | i + 10, hm => cases hm
theorem mrs_9 (hw : PowOk w0) (r : Int) (hr : Any r) : ∀ (i : Nat) (m : ByteArray × Int × Bool), (ctMeths 9)[i]? = some m → MrOk w0 9 r m := by
 have e : ctMeths 9 = [(bs [109, 97, 107, 101], 0, true), (bs [102, 105, 110, 100], 1, false), (bs [117, 110, 105, 111, 110], 2, true), (bs [117, 110, 100, 111], 0, true), (bs [115, 97, 109, 101], 2, false), (bs [115, 105, 122, 101], 1, false), (bs [115, 101, 116, 115], 0, false)] := rfl
 intro i m hm
 rw [e] at hm
 match i, hm with
 | 0, hm => cases hm; exact mr_fMake w0 hw r hr
 | 1, hm => cases hm; exact mr_fFind w0 hw r hr
 | 2, hm => cases hm; exact mr_fUnion w0 hw r hr
 | 3, hm => cases hm; exact mr_fUndo w0 hw r hr
 | 4, hm => cases hm; exact mr_fSame w0 hw r hr
 | 5, hm => cases hm; exact mr_fSize w0 hw r hr
 | 6, hm => cases hm; exact mr_fSets w0 hw r hr
 | i + 7, hm => cases hm
theorem mrs_all (hw : PowOk w0) (k : Int) (hk : 0 ≤ k ∧ k ≤ 9) (r : Int) (hr : Any r) : ∀ (i : Nat) (m : ByteArray × Int × Bool), (ctMeths k)[i]? = some m → MrOk w0 k r m := by
 rcases (by omega : k = 0 ∨ k = 1 ∨ k = 2 ∨ k = 3 ∨ k = 4 ∨ k = 5 ∨ k = 6 ∨ k = 7 ∨ k = 8 ∨ k = 9) with rfl | rfl | rfl | rfl | rfl | rfl | rfl | rfl | rfl | rfl
 · exact mrs_0 w0 hw r hr
 · exact mrs_1 w0 hw r hr
 · exact mrs_2 w0 hw r hr
 · exact mrs_3 w0 hw r hr
 · exact mrs_4 w0 hw r hr
 · exact mrs_5 w0 hw r hr
 · exact mrs_6 w0 hw r hr
 · exact mrs_7 w0 hw r hr
 · exact mrs_8 w0 hw r hr
 · exact mrs_9 w0 hw r hr
end Go.Proofs.YtgdhcgnmffgkiaaGreatDoor
namespace Sim
open Go Go.Vc
def rcRows : List ByteArray := [bs [103, 101, 116, 48, 32, 97, 100, 100, 49, 119, 32, 115, 101, 116, 49, 119], bs [112, 117, 115, 104, 49, 119, 32, 112, 111, 112, 48, 119, 32, 116, 111, 112, 48, 32, 108, 101, 110, 48], bs [112, 117, 116, 49, 119, 32, 116, 97, 107, 101, 48, 119, 32, 102, 105, 114, 115, 116, 48, 32, 108, 101, 110, 48], bs [112, 117, 115, 104, 95, 108, 101, 102, 116, 49, 119, 32, 112, 117, 115, 104, 95, 114, 105, 103, 104, 116, 49, 119, 32, 112, 111, 112, 95, 108, 101, 102, 116, 48, 119, 32, 112, 111, 112, 95, 114, 105, 103, 104, 116, 48, 119, 32, 108, 101, 102, 116, 48, 32, 114, 105, 103, 104, 116, 48, 32, 108, 101, 110, 48], bs [112, 117, 116, 50, 119, 32, 103, 101, 116, 49, 32, 104, 97, 115, 49, 32, 100, 114, 111, 112, 49, 119, 32, 108, 101, 110, 48], bs [112, 117, 116, 50, 119, 32, 103, 101, 116, 49, 32, 104, 97, 115, 49, 32, 100, 114, 111, 112, 49, 119, 32, 115, 117, 109, 50, 32, 99, 111, 117, 110, 116, 50, 32, 110, 101, 120, 116, 49, 32, 110, 116, 104, 49, 32, 108, 101, 110, 48], bs [112, 117, 115, 104, 50, 119, 32, 112, 111, 112, 48, 119, 32, 109, 105, 110, 48, 32, 108, 101, 97, 115, 116, 48, 32, 108, 111, 119, 101, 114, 50, 119, 32, 100, 114, 111, 112, 49, 119, 32, 108, 101, 110, 48], bs [112, 117, 115, 104, 49, 119, 32, 112, 111, 112, 48, 119, 32, 103, 101, 116, 49, 32, 115, 101, 116, 50, 119, 32, 115, 119, 97, 112, 50, 119, 32, 108, 101, 110, 48], bs [97, 100, 100, 49, 119, 32, 108, 105, 110, 107, 51, 119, 32, 99, 117, 116, 49, 119, 32, 100, 114, 111, 112, 49, 119, 32, 119, 101, 105, 103, 104, 116, 50, 32, 108, 97, 98, 101, 108, 49, 32, 111, 117, 116, 115, 49, 32, 105, 110, 115, 49, 32, 118, 101, 114, 116, 105, 99, 101, 115, 48, 32, 101, 100, 103, 101, 115, 48], bs [109, 97, 107, 101, 48, 119, 32, 102, 105, 110, 100, 49, 32, 117, 110, 105, 111, 110, 50, 119, 32, 117, 110, 100, 111, 48, 119, 32, 115, 97, 109, 101, 50, 32, 115, 105, 122, 101, 49, 32, 115, 101, 116, 115, 48]]
def rcW (w : ByteArray) : ByteArray := if w[w.size - 1]? = some 119 then w.extract 0 (w.size - 1) else w
def rcCut (w : ByteArray) : ByteArray × Int × Bool :=
 ((rcW w).extract 0 ((rcW w).size - 1), (((rcW w)[(rcW w).size - 1]?.getD 0).toNat : Int) - 48, decide (w[w.size - 1]? = some 119))
def rcStep (s : ByteArray) (i : Nat) (q : Nat × List (ByteArray × Int × Bool)) : Nat × List (ByteArray × Int × Bool) :=
 if s[i]? = some 32 then (i + 1, q.2 ++ [rcCut (s.extract q.1 i)]) else q
def rcAt (s : ByteArray) : Nat → Nat × List (ByteArray × Int × Bool)
 | 0 => (0, [])
 | i + 1 => rcStep s i (rcAt s i)
def rcS (k : Nat) : ByteArray := rcRows.getD k (bs []) ++ bs [32]
def rcOk (s : ByteArray) (i : Nat) : Bool :=
 if s[i]? = some 32 then decide ((rcAt s i).1 ≤ i) && (decide (1 ≤ (s.extract (rcAt s i).1 i).size) && decide (1 ≤ (rcW (s.extract (rcAt s i).1 i)).size)) else true
theorem rc_all : (List.range 10).all (fun k => (List.range (rcS k).size).all (rcOk (rcS k)) && decide ((rcAt (rcS k) (rcS k).size).2 = ctMeths (k : Int)) && decide ((rcS k).size ≤ 100)) = true := by decide +kernel
theorem rc_ok {k : Nat} (hk : k < 10) : (∀ i, i < (rcS k).size → rcOk (rcS k) i = true) ∧ (rcAt (rcS k) (rcS k).size).2 = ctMeths (k : Int) ∧ (rcS k).size ≤ 100 := by
 have h := List.all_eq_true.1 rc_all k (List.mem_range.2 hk)
 rw [Bool.and_eq_true, Bool.and_eq_true, decide_eq_true_eq, decide_eq_true_eq] at h
 exact ⟨fun i hi => List.all_eq_true.1 h.1.1 i (List.mem_range.2 hi), h.1.2, h.2⟩
def ixM : List (ByteArray × Int × Bool) → ByteArray → Nat → Option Nat
 | [], _, _ => none
 | m :: l, s, i => if m.1 = s then some i else ixM l s (i + 1)
theorem ixM_find : ∀ (l : List (ByteArray × Int × Bool)) (s : ByteArray) (i : Nat), (ixM l s i = none → l.find? (fun m => decide (m.1 = s)) = none) ∧ ∀ j, ixM l s i = some j → i ≤ j ∧ ∃ m, l[j - i]? = some m ∧ l.find? (fun m => decide (m.1 = s)) = some m
 | [], s, i => ⟨fun _ => rfl, fun j h => by cases h⟩
 | m :: l, s, i => by
   rw [ixM]
   by_cases h : m.1 = s
   · rw [if_pos h, List.find?_cons_of_pos (by simpa using h)]
     refine ⟨fun q => (by cases q), fun j q => ?_⟩
     cases q
     exact ⟨Nat.le_refl _, m, by simp, rfl⟩
   · rw [if_neg h, List.find?_cons_of_neg (by simpa using h)]
     obtain ⟨h1, h2⟩ := ixM_find l s (i + 1)
     refine ⟨h1, fun j q => ?_⟩
     obtain ⟨g1, x, g2, g3⟩ := h2 j q
     refine ⟨by omega, x, ?_, g3⟩
     have e : j - i = (j - (i + 1)) + 1 := by omega
     rw [e, List.getElem?_cons_succ]
     exact g2
end Sim
namespace Go.Vc
theorem strs_rd {l : List ByteArray} {j : Nat} {x : ByteArray} (hx : l[j]? = some x) : ∀ o, o = 0 + j * 1 → rd false 1 (l.flatMap encY) o = some (.string x) := fun o ho => by
 have := flat_at (encE := encY) (q := 1) l (fun _ _ => rfl) j x hx 0 _ rfl
 exact rd_one (c := (l.flatMap encY).toArray) (o := j * 1 + 0) (by simpa using this) o (by omega)
end Go.Vc
namespace Sim
open Go Go.Vc
end Sim
namespace Go.Proofs.YtgdhcgnmffgkiaaGreatDoor
variable (w0 : World)
open Go.Vc Sim
set_option maxHeartbeats 4000000
theorem refRows_own : Vc.Fn PP w0 [] 30 [] [] (fun v Γ => ∃ nb, v = .slice (some ⟨nb, 0, none⟩) 10 10 ∧ Γ = [pt nb (.cells (List.toArray (rcRows.flatMap encY)) 9 (0, 0))]) := by
 refine zep en30 fn30 rfl rfl rfl ?_
 repeat' first|refine zck ?_|refine zyq ?_|(refine zap rfl ?_;refine zdt rfl rfl rfl rfl rfl rfl (fun nb => ?_))|refine zp ?_|refine zch ?_
 exact zej rfl ⟨_, rfl, rfl⟩
end Go.Proofs.YtgdhcgnmffgkiaaGreatDoor
namespace Go.Vc
open Sim
abbrev encMM (x : ByteArray × Int × Bool) : List Value := [.string x.1, .int .i64 x.2.1, .bool x.2.2]
end Go.Vc
namespace Go.Proofs.YtgdhcgnmffgkiaaGreatDoor
open Go.Vc Sim
set_option maxHeartbeats 2000000 in
set_option maxHeartbeats 4000000
section
variable {w0 : World} {n : Nat} {sh : Shared} {Q : Exit → Env → List Deferred → List Asn → Prop} {k : List Item} {ρ : Env} {df : List Deferred} {Γ : List Asn}
variable {ops : Array Oper} {l : List (Fl × Nat × Oper)} {bf : Fl} {i d : Nat} {ty : TypeId} {pos : String} {aft : Array Edge} {x y : Operand} {yt : TypeId} {m m' : ByteArray × Int × Bool}
end
section
variable {w0 : World} {n : Nat} {sh : Shared} {Q : Exit → Env → List Deferred → List Asn → Prop} {k : List Item} {ρ : Env} {df : List Deferred} {Γ : List Asn}
variable {ops : Array Oper} {l : List (Fl × Nat × Oper)} {bf : Fl} {i d : Nat} {ty : TypeId} {pos : String} {aft : Array Edge} {x y : Operand} {yt : TypeId} {m m' : ByteArray × Int × Bool}
end
end Go.Proofs.YtgdhcgnmffgkiaaGreatDoor
