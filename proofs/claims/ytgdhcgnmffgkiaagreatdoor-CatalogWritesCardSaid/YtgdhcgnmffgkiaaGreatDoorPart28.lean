import Derived.Test.YtgdhcgnmffgkiaaGreatDoorPart27
/- Own work: lemmas of this claim. -/
namespace Go.Proofs.YtgdhcgnmffgkiaaGreatDoor
variable (w0 : World)
open Go.Vc Sim
set_option maxHeartbeats 4000000
theorem gone_bad {q : (Int × Bool) × Int} (h : (if q.2 ≠ 0 then ((0 : Int), q.2) else if q.1.2 = true then (q.1.1, 0) else (0, 10)).2 ≠ 0 ∨ true = false) : q.2 ≠ 0 ∨ q.1.2 = false := by
 rcases h with h | h
 · by_cases he : q.2 ≠ 0
   · exact .inl he
   · right
     cases hb : q.1.2 with
     | false => rfl
     | true => exact absurd (by rw [if_neg he, if_pos hb]) h
 · cases h
theorem truth_bad {q : Bool × Int} (h : (if q.2 = 0 ∧ q.1 = true then ((1 : Int), q.2) else (0, q.2)).2 ≠ 0 ∨ true = false) : q.2 ≠ 0 := by
 rcases h with h | h
 · intro he
   exact h (by split <;> exact he)
 · cases h
theorem mw_cGet (r : Int) (hr : 8 ≤ r ∧ r ≤ 170) : MwOk w0 0 r (bs [103, 101, 116], 0, false) := by
 have hr2 := hr
 have hr : 0 ≤ r ∧ r ≤ 4096 := by omega
 exact mw_pg (m := (_, 194)) (fun _ _ _ => Ctr.get r) (fun v => (v, 0)) (fun _ _ _ => len_bd (Pg.bd_gt0 _) (by decide))
   (fun sh p s l a c hs _ _ => clo_cGet w0 sh p awP r _ s _ _ (fnL (ctrGet w0 p r) (Pg.bd_gt0 _) (by decide) s hs))
   (fun x y z hx hy hz => Nx.conv (nx_cGet) (fun _ _ => trivial) (fun q hq => by first|exact hq|exact hq.1|exact hq.2 | (unfold I64; dsimp only; omega) | ((repeat' split) <;> first|exact hq|exact hq.1 | (unfold I64; dsimp only; omega) | (unfold I64; omega))))
theorem mw_cAdd (r : Int) (hr : 8 ≤ r ∧ r ≤ 170) : MwOk w0 0 r (bs [97, 100, 100], 1, true) := by
 have hr2 := hr
 have hr : 0 ≤ r ∧ r ≤ 4096 := by omega
 exact mw_pg (m := (_, 196)) (fun x _ _ => Ctr.add r x) (fun q => q) (fun _ _ _ => len_bd (Ctr.bd_add _ _) (by decide))
   (fun sh p s l a c hs hl hR => by
     have hl : (l.length : Int) = 1 := hl
     exact clo_cAdd w0 sh p awP r (l.getD 0 0) l a c hR (getD_some (by omega)) s _ _ (fnL (ctrAdd w0 p r (l.getD 0 0)) (Ctr.bd_add _ _) (by decide) s hs))
   (fun x y z hx hy hz => Nx.conv (nx_cAdd (by omega) (by omega) x) (fun q h => by rcases h with h | h <;> first|exact h|exact absurd rfl h|exact trivial | cases h) (fun q hq => by first|exact hq|exact hq.1|exact hq.2 | (unfold I64; dsimp only; omega) | ((repeat' split) <;> first|exact hq|exact hq.1 | (unfold I64; dsimp only; omega) | (unfold I64; omega))))
theorem mw_cSet (r : Int) (hr : 8 ≤ r ∧ r ≤ 170) : MwOk w0 0 r (bs [115, 101, 116], 1, true) := by
 have hr2 := hr
 have hr : 0 ≤ r ∧ r ≤ 4096 := by omega
 exact mw_pg (m := (_, 197)) (fun x _ _ => Ctr.set r x) (fun v => (v, 0)) (fun _ _ _ => len_bd (Ctr.bd_set _ _) (by decide))
   (fun sh p s l a c hs hl hR => by
     have hl : (l.length : Int) = 1 := hl
     exact clo_cSet w0 sh p awP r (l.getD 0 0) l a c hR (getD_some (by omega)) s _ _ (fnL (ctrSet w0 p r (l.getD 0 0)) (Ctr.bd_set _ _) (by decide) s hs))
   (fun x y z hx hy hz => Nx.conv (nx_cSet (by omega) (by omega) hx) (fun q h => by rcases h with h | h <;> first|exact h|exact absurd rfl h|exact trivial | cases h) (fun q hq => by first|exact hq|exact hq.1|exact hq.2 | (unfold I64; dsimp only; omega) | ((repeat' split) <;> first|exact hq|exact hq.1 | (unfold I64; dsimp only; omega) | (unfold I64; omega))))
theorem mw_sPush (r : Int) (hr : 8 ≤ r ∧ r ≤ 170) : MwOk w0 1 r (bs [112, 117, 115, 104], 1, true) := by
 have hr2 := hr
 have hr : 0 ≤ r ∧ r ≤ 4096 := by omega
 exact mw_pg (m := (_, 198)) (fun x _ _ => Stk.push awP r x) (fun e => (0, e)) (fun _ _ _ => len_bd (Stk.bd_push _ _ _) (by decide))
   (fun sh p s l a c hs hl hR => by
     have hl : (l.length : Int) = 1 := hl
     exact clo_sPush w0 sh p awP r (l.getD 0 0) l a c hR (getD_some (by omega)) s _ _ (fnL (stPush w0 p awP awP_ok r (l.getD 0 0)) (Stk.bd_push _ _ _) (by decide) s hs))
   (fun x y z hx hy hz => Nx.conv (nx_sPush (by omega) (by omega) hx) (fun q h => by rcases h with h | h <;> first|exact h|exact absurd rfl h|exact trivial | cases h) (fun q hq => by first|exact hq|exact hq.1|exact hq.2 | (unfold I64; dsimp only; omega) | ((repeat' split) <;> first|exact hq|exact hq.1 | (unfold I64; dsimp only; omega) | (unfold I64; omega))))
theorem mw_sPop (r : Int) (hr : 8 ≤ r ∧ r ≤ 170) : MwOk w0 1 r (bs [112, 111, 112], 0, true) := by
 have hr2 := hr
 have hr : 0 ≤ r ∧ r ≤ 4096 := by omega
 exact mw_pg (m := (_, 200)) (fun _ _ _ => Stk.pop awP r) (fun q => q) (fun _ _ _ => len_bd (Stk.bd_pop _ _) (by decide))
   (fun sh p s l a c hs _ _ => clo_sPop w0 sh p awP r _ s _ _ (fnL (stPop w0 p awP awP_ok r) (Stk.bd_pop _ _) (by decide) s hs))
   (fun x y z hx hy hz => Nx.conv (nx_sPop (by omega) (by omega)) (fun q h => by rcases h with h | h <;> first|exact h|exact absurd rfl h|exact trivial | cases h) (fun q hq => by first|exact hq|exact hq.1|exact hq.2 | (unfold I64; dsimp only; omega) | ((repeat' split) <;> first|exact hq|exact hq.1 | (unfold I64; dsimp only; omega) | (unfold I64; omega))))
theorem mw_sTop (r : Int) (hr : 8 ≤ r ∧ r ≤ 170) : MwOk w0 1 r (bs [116, 111, 112], 0, false) := by
 have hr2 := hr
 have hr : 0 ≤ r ∧ r ≤ 4096 := by omega
 exact mw_pg (m := (_, 201)) (fun _ _ _ => Stk.top r) (fun q => q) (fun _ _ _ => len_bd (Stk.bd_top _) (by decide))
   (fun sh p s l a c hs _ _ => clo_sTop w0 sh p awP r _ s _ _ (fnL (stTop w0 p r) (Stk.bd_top _) (by decide) s hs))
   (fun x y z hx hy hz => Rg.nx (Rg.mono (rg_sTop) (fun q hq => by first|exact hq|exact hq.1|exact hq.2 | (unfold I64; dsimp only; omega) | ((repeat' split) <;> first|exact hq|exact hq.1 | (unfold I64; dsimp only; omega) | (unfold I64; omega)))))
theorem mw_sLen (r : Int) (hr : 8 ≤ r ∧ r ≤ 170) : MwOk w0 1 r (bs [108, 101, 110], 0, false) := by
 have hr2 := hr
 have hr : 0 ≤ r ∧ r ≤ 4096 := by omega
 exact mw_pg (m := (_, 202)) (fun _ _ _ => Stk.len r) (fun v => (v, 0)) (fun _ _ _ => len_bd (Pg.bd_gt0 _) (by decide))
   (fun sh p s l a c hs _ _ => clo_sLen w0 sh p awP r _ s _ _ (fnL (stLen w0 p r) (Pg.bd_gt0 _) (by decide) s hs))
   (fun x y z hx hy hz => Rg.nx (Rg.mono (Rg.gt1 _) (fun q hq => by first|exact hq|exact hq.1|exact hq.2 | (unfold I64; dsimp only; omega) | ((repeat' split) <;> first|exact hq|exact hq.1 | (unfold I64; dsimp only; omega) | (unfold I64; omega)))))
theorem mw_qPut (r : Int) (hr : 8 ≤ r ∧ r ≤ 170) : MwOk w0 2 r (bs [112, 117, 116], 1, true) := by
 have hr2 := hr
 have hr : 0 ≤ r ∧ r ≤ 4096 := by omega
 exact mw_pg (m := (_, 203)) (fun x _ _ => Qu.put awP r x) (fun e => (0, e)) (fun _ _ _ => len_bd (Qu.bd_put _ _ _) (by decide))
   (fun sh p s l a c hs hl hR => by
     have hl : (l.length : Int) = 1 := hl
     exact clo_qPut w0 sh p awP r (l.getD 0 0) l a c hR (getD_some (by omega)) s _ _ (fnL (quPut w0 p awP awP_ok r (l.getD 0 0)) (Qu.bd_put _ _ _) (by decide) s hs))
   (fun x y z hx hy hz => Nx.conv (nx_qPut (by omega) (by omega) hx) (fun q h => by rcases h with h | h <;> first|exact h|exact absurd rfl h|exact trivial | cases h) (fun q hq => by first|exact hq|exact hq.1|exact hq.2 | (unfold I64; dsimp only; omega) | ((repeat' split) <;> first|exact hq|exact hq.1 | (unfold I64; dsimp only; omega) | (unfold I64; omega))))
theorem mw_qTake (r : Int) (hr : 8 ≤ r ∧ r ≤ 170) : MwOk w0 2 r (bs [116, 97, 107, 101], 0, true) := by
 have hr2 := hr
 have hr : 0 ≤ r ∧ r ≤ 4096 := by omega
 exact mw_pg (m := (_, 204)) (fun _ _ _ => Qu.take awP r) (fun q => q) (fun _ _ _ => len_bd (Qu.bd_take _ _) (by decide))
   (fun sh p s l a c hs _ _ => clo_qTake w0 sh p awP r _ s _ _ (fnL (quTake w0 p awP awP_ok r) (Qu.bd_take _ _) (by decide) s hs))
   (fun x y z hx hy hz => Nx.conv (nx_qTake (by omega) (by omega)) (fun q h => by rcases h with h | h <;> first|exact h|exact absurd rfl h|exact trivial | cases h) (fun q hq => by first|exact hq|exact hq.1|exact hq.2 | (unfold I64; dsimp only; omega) | ((repeat' split) <;> first|exact hq|exact hq.1 | (unfold I64; dsimp only; omega) | (unfold I64; omega))))
theorem mw_qFirst (r : Int) (hr : 8 ≤ r ∧ r ≤ 170) : MwOk w0 2 r (bs [102, 105, 114, 115, 116], 0, false) := by
 have hr2 := hr
 have hr : 0 ≤ r ∧ r ≤ 4096 := by omega
 exact mw_pg (m := (_, 205)) (fun _ _ _ => Qu.first r) (fun q => q) (fun _ _ _ => len_bd (Qu.bd_first _) (by decide))
   (fun sh p s l a c hs _ _ => clo_qFirst w0 sh p awP r _ s _ _ (fnL (quFirst w0 p r) (Qu.bd_first _) (by decide) s hs))
   (fun x y z hx hy hz => Rg.nx (Rg.mono (rg_qFirst) (fun q hq => by first|exact hq|exact hq.1|exact hq.2 | (unfold I64; dsimp only; omega) | ((repeat' split) <;> first|exact hq|exact hq.1 | (unfold I64; dsimp only; omega) | (unfold I64; omega)))))
theorem mw_qLen (r : Int) (hr : 8 ≤ r ∧ r ≤ 170) : MwOk w0 2 r (bs [108, 101, 110], 0, false) := by
 have hr2 := hr
 have hr : 0 ≤ r ∧ r ≤ 4096 := by omega
 exact mw_pg (m := (_, 206)) (fun _ _ _ => Qu.len r) (fun v => (v, 0)) (fun _ _ _ => len_bd (Qu.bd_len _) (by decide))
   (fun sh p s l a c hs _ _ => clo_qLen w0 sh p awP r _ s _ _ (fnL (quLen w0 p r) (Qu.bd_len _) (by decide) s hs))
   (fun x y z hx hy hz => Rg.nx (Rg.mono (Rg.gt1 _) (fun q hq => by first|exact hq|exact hq.1|exact hq.2 | (unfold I64; dsimp only; omega) | ((repeat' split) <;> first|exact hq|exact hq.1 | (unfold I64; dsimp only; omega) | (unfold I64; omega)))))
theorem mw_dPushL (r : Int) (hr : 8 ≤ r ∧ r ≤ 170) : MwOk w0 3 r (bs [112, 117, 115, 104, 95, 108, 101, 102, 116], 1, true) := by
 have hr2 := hr
 have hr : 0 ≤ r ∧ r ≤ 4096 := by omega
 exact mw_pg (m := (_, 207)) (fun x _ _ => Dq.push awP r x false) (fun e => (0, e)) (fun _ _ _ => len_bd (Dq.bd_push _ _ _ _) (by decide))
   (fun sh p s l a c hs hl hR => by
     have hl : (l.length : Int) = 1 := hl
     exact clo_dPushL w0 sh p awP r (l.getD 0 0) l a c hR (getD_some (by omega)) s _ _ (fnL (dqPush w0 p awP awP_ok r (l.getD 0 0) false) (Dq.bd_push _ _ _ _) (by decide) s hs))
   (fun x y z hx hy hz => Nx.conv (nx_dPush (by omega) (by omega) hx false) (fun q h => by rcases h with h | h <;> first|exact h|exact absurd rfl h|exact trivial | cases h) (fun q hq => by first|exact hq|exact hq.1|exact hq.2 | (unfold I64; dsimp only; omega) | ((repeat' split) <;> first|exact hq|exact hq.1 | (unfold I64; dsimp only; omega) | (unfold I64; omega))))
theorem mw_dPushR (r : Int) (hr : 8 ≤ r ∧ r ≤ 170) : MwOk w0 3 r (bs [112, 117, 115, 104, 95, 114, 105, 103, 104, 116], 1, true) := by
 have hr2 := hr
 have hr : 0 ≤ r ∧ r ≤ 4096 := by omega
 exact mw_pg (m := (_, 208)) (fun x _ _ => Dq.push awP r x true) (fun e => (0, e)) (fun _ _ _ => len_bd (Dq.bd_push _ _ _ _) (by decide))
   (fun sh p s l a c hs hl hR => by
     have hl : (l.length : Int) = 1 := hl
     exact clo_dPushR w0 sh p awP r (l.getD 0 0) l a c hR (getD_some (by omega)) s _ _ (fnL (dqPush w0 p awP awP_ok r (l.getD 0 0) true) (Dq.bd_push _ _ _ _) (by decide) s hs))
   (fun x y z hx hy hz => Nx.conv (nx_dPush (by omega) (by omega) hx true) (fun q h => by rcases h with h | h <;> first|exact h|exact absurd rfl h|exact trivial | cases h) (fun q hq => by first|exact hq|exact hq.1|exact hq.2 | (unfold I64; dsimp only; omega) | ((repeat' split) <;> first|exact hq|exact hq.1 | (unfold I64; dsimp only; omega) | (unfold I64; omega))))
theorem mw_dPopL (r : Int) (hr : 8 ≤ r ∧ r ≤ 170) : MwOk w0 3 r (bs [112, 111, 112, 95, 108, 101, 102, 116], 0, true) := by
 have hr2 := hr
 have hr : 0 ≤ r ∧ r ≤ 4096 := by omega
 exact mw_pg (m := (_, 209)) (fun _ _ _ => Dq.pop awP r false) (fun q => q) (fun _ _ _ => len_bd (Dq.bd_pop _ _ _) (by decide))
   (fun sh p s l a c hs _ _ => clo_dPopL w0 sh p awP r _ s _ _ (fnL (dqPop w0 p awP awP_ok r false) (Dq.bd_pop _ _ _) (by decide) s hs))
   (fun x y z hx hy hz => Nx.conv (nx_dPop (by omega) (by omega) false) (fun q h => by rcases h with h | h <;> first|exact h|exact absurd rfl h|exact trivial | cases h) (fun q hq => by first|exact hq|exact hq.1|exact hq.2 | (unfold I64; dsimp only; omega) | ((repeat' split) <;> first|exact hq|exact hq.1 | (unfold I64; dsimp only; omega) | (unfold I64; omega))))
theorem mw_dPopR (r : Int) (hr : 8 ≤ r ∧ r ≤ 170) : MwOk w0 3 r (bs [112, 111, 112, 95, 114, 105, 103, 104, 116], 0, true) := by
 have hr2 := hr
 have hr : 0 ≤ r ∧ r ≤ 4096 := by omega
 exact mw_pg (m := (_, 210)) (fun _ _ _ => Dq.pop awP r true) (fun q => q) (fun _ _ _ => len_bd (Dq.bd_pop _ _ _) (by decide))
   (fun sh p s l a c hs _ _ => clo_dPopR w0 sh p awP r _ s _ _ (fnL (dqPop w0 p awP awP_ok r true) (Dq.bd_pop _ _ _) (by decide) s hs))
   (fun x y z hx hy hz => Nx.conv (nx_dPop (by omega) (by omega) true) (fun q h => by rcases h with h | h <;> first|exact h|exact absurd rfl h|exact trivial | cases h) (fun q hq => by first|exact hq|exact hq.1|exact hq.2 | (unfold I64; dsimp only; omega) | ((repeat' split) <;> first|exact hq|exact hq.1 | (unfold I64; dsimp only; omega) | (unfold I64; omega))))
theorem mw_dLeft (r : Int) (hr : 8 ≤ r ∧ r ≤ 170) : MwOk w0 3 r (bs [108, 101, 102, 116], 0, false) := by
 have hr2 := hr
 have hr : 0 ≤ r ∧ r ≤ 4096 := by omega
 exact mw_pg (m := (_, 211)) (fun _ _ _ => Dq.peek r false) (fun q => q) (fun _ _ _ => len_bd (Dq.bd_peek _ _) (by decide))
   (fun sh p s l a c hs _ _ => clo_dLeft w0 sh p awP r _ s _ _ (fnL (dqPeek w0 p r false) (Dq.bd_peek _ _) (by decide) s hs))
   (fun x y z hx hy hz => Rg.nx (Rg.mono (rg_dPeek false) (fun q hq => by first|exact hq|exact hq.1|exact hq.2 | (unfold I64; dsimp only; omega) | ((repeat' split) <;> first|exact hq|exact hq.1 | (unfold I64; dsimp only; omega) | (unfold I64; omega)))))
theorem mw_dRight (r : Int) (hr : 8 ≤ r ∧ r ≤ 170) : MwOk w0 3 r (bs [114, 105, 103, 104, 116], 0, false) := by
 have hr2 := hr
 have hr : 0 ≤ r ∧ r ≤ 4096 := by omega
 exact mw_pg (m := (_, 212)) (fun _ _ _ => Dq.peek r true) (fun q => q) (fun _ _ _ => len_bd (Dq.bd_peek _ _) (by decide))
   (fun sh p s l a c hs _ _ => clo_dRight w0 sh p awP r _ s _ _ (fnL (dqPeek w0 p r true) (Dq.bd_peek _ _) (by decide) s hs))
   (fun x y z hx hy hz => Rg.nx (Rg.mono (rg_dPeek true) (fun q hq => by first|exact hq|exact hq.1|exact hq.2 | (unfold I64; dsimp only; omega) | ((repeat' split) <;> first|exact hq|exact hq.1 | (unfold I64; dsimp only; omega) | (unfold I64; omega)))))
theorem mw_dLen (r : Int) (hr : 8 ≤ r ∧ r ≤ 170) : MwOk w0 3 r (bs [108, 101, 110], 0, false) := by
 have hr2 := hr
 have hr : 0 ≤ r ∧ r ≤ 4096 := by omega
 exact mw_pg (m := (_, 213)) (fun _ _ _ => Dq.len r) (fun v => (v, 0)) (fun _ _ _ => len_bd (Pg.bd_gt0 _) (by decide))
   (fun sh p s l a c hs _ _ => clo_dLen w0 sh p awP r _ s _ _ (fnL (dqLen w0 p r) (Pg.bd_gt0 _) (by decide) s hs))
   (fun x y z hx hy hz => Rg.nx (Rg.mono (Rg.gt1 _) (fun q hq => by first|exact hq|exact hq.1|exact hq.2 | (unfold I64; dsimp only; omega) | ((repeat' split) <;> first|exact hq|exact hq.1 | (unfold I64; dsimp only; omega) | (unfold I64; omega)))))
theorem mw_aPush (hw : PowOk w0) (r : Int) (hr : 8 ≤ r ∧ r ≤ 170) : MwOk w0 7 r (bs [112, 117, 115, 104], 1, true) := by
 have hr2 := hr
 have hr : 0 ≤ r ∧ r ≤ 4096 := by omega
 exact mw_pg (m := (_, 214)) (fun x _ _ => Aq.push ⟨awP, r⟩ x) (fun q => q) (fun x _ _ => aqPush_len r x)
   (fun sh p s l a c hs hl hR => by
     have hl : (l.length : Int) = 1 := hl
     exact clo_aPush w0 sh p awP r (l.getD 0 0) l a c hR (getD_some (by omega)) s _ _ (aqPush w0 hw p r hr (l.getD 0 0) s hs))
   (fun x y z hx hy hz => Nx.conv (nx_aPush (by omega) (by omega) hx) (fun q h => by rcases h with h | h <;> first|exact h|exact absurd rfl h|exact trivial | cases h) (fun q hq => by first|exact hq|exact hq.1|exact hq.2 | (unfold I64; dsimp only; omega) | ((repeat' split) <;> first|exact hq|exact hq.1 | (unfold I64; dsimp only; omega) | (unfold I64; omega))))
theorem mw_aPop (hw : PowOk w0) (r : Int) (hr : 8 ≤ r ∧ r ≤ 170) : MwOk w0 7 r (bs [112, 111, 112], 0, true) := by
 have hr2 := hr
 have hr : 0 ≤ r ∧ r ≤ 4096 := by omega
 exact mw_pg (m := (_, 216)) (fun _ _ _ => Aq.pop ⟨awP, r⟩) (fun q => q) (fun _ _ _ => aqPop_len r)
   (fun sh p s l a c hs _ _ => clo_aPop w0 sh p awP r _ s _ _ (aqPop w0 hw p r hr s hs))
   (fun x y z hx hy hz => Nx.conv (nx_aPop (by omega) (by omega)) (fun q h => by rcases h with h | h <;> first|exact h|exact absurd rfl h|exact trivial | cases h) (fun q hq => by first|exact hq|exact hq.1|exact hq.2 | (unfold I64; dsimp only; omega) | ((repeat' split) <;> first|exact hq|exact hq.1 | (unfold I64; dsimp only; omega) | (unfold I64; omega))))
theorem mw_aGet (hw : PowOk w0) (r : Int) (hr : 8 ≤ r ∧ r ≤ 170) : MwOk w0 7 r (bs [103, 101, 116], 1, false) := by
 have hr2 := hr
 have hr : 0 ≤ r ∧ r ≤ 4096 := by omega
 exact mw_pg (m := (_, 217)) (fun x _ _ => Aq.get ⟨awP, r⟩ x) (fun q => q) (fun x _ _ => aqGet_len r x)
   (fun sh p s l a c hs hl hR => by
     have hl : (l.length : Int) = 1 := hl
     exact clo_aGet w0 sh p awP r (l.getD 0 0) l a c hR (getD_some (by omega)) s _ _ (aqGet w0 hw p r hr (l.getD 0 0) s hs))
   (fun x y z hx hy hz => Rg.nx (Rg.mono (rg_aGet _) (fun q hq => by first|exact hq|exact hq.1|exact hq.2 | (unfold I64; dsimp only; omega) | ((repeat' split) <;> first|exact hq|exact hq.1 | (unfold I64; dsimp only; omega) | (unfold I64; omega)))))
theorem mw_aSet (hw : PowOk w0) (r : Int) (hr : 8 ≤ r ∧ r ≤ 170) : MwOk w0 7 r (bs [115, 101, 116], 2, true) := by
 have hr2 := hr
 have hr : 0 ≤ r ∧ r ≤ 4096 := by omega
 exact mw_pg (m := (_, 218)) (fun x y _ => Aq.set ⟨awP, r⟩ x y) (fun q => q) (fun x y _ => aqSet_len r x y)
   (fun sh p s l a c hs hl hR => by
     have hl : (l.length : Int) = 2 := hl
     exact clo_aSet w0 sh p awP r (l.getD 0 0) (l.getD 1 0) l a c hR (getD_some (by omega)) (getD_some (by omega)) s _ _ (aqSet w0 hw p r hr (l.getD 0 0) (l.getD 1 0) s hs))
   (fun x y z hx hy hz => Nx.conv (nx_aSet hy _) (fun q h => by rcases h with h | h <;> first|exact h|exact absurd rfl h|exact trivial | cases h) (fun q hq => by first|exact hq|exact hq.1|exact hq.2 | (unfold I64; dsimp only; omega) | ((repeat' split) <;> first|exact hq|exact hq.1 | (unfold I64; dsimp only; omega) | (unfold I64; omega))))
theorem mw_aSwap (hw : PowOk w0) (r : Int) (hr : 8 ≤ r ∧ r ≤ 170) : MwOk w0 7 r (bs [115, 119, 97, 112], 2, true) := by
 have hr2 := hr
 have hr : 0 ≤ r ∧ r ≤ 4096 := by omega
 exact mw_pg (m := (_, 219)) (fun x y _ => Aq.swap ⟨awP, r⟩ x y) (fun e => (0, e)) (fun x y _ => aqSwap_len r x y)
   (fun sh p s l a c hs hl hR => by
     have hl : (l.length : Int) = 2 := hl
     exact clo_aSwap w0 sh p awP r (l.getD 0 0) (l.getD 1 0) l a c hR (getD_some (by omega)) (getD_some (by omega)) s _ _ (aqSwap w0 hw p r hr (l.getD 0 0) (l.getD 1 0) s hs))
   (fun x y z hx hy hz => Nx.conv (nx_aSwap _ _) (fun q h => by rcases h with h | h <;> first|exact h|exact absurd rfl h|exact trivial | cases h) (fun q hq => by first|exact hq|exact hq.1|exact hq.2 | (unfold I64; dsimp only; omega) | ((repeat' split) <;> first|exact hq|exact hq.1 | (unfold I64; dsimp only; omega) | (unfold I64; omega))))
theorem mw_aLen (r : Int) (hr : 8 ≤ r ∧ r ≤ 170) : MwOk w0 7 r (bs [108, 101, 110], 0, false) := by
 have hr2 := hr
 have hr : 0 ≤ r ∧ r ≤ 4096 := by omega
 exact mw_pg (m := (_, 220)) (fun _ _ _ => Pg.gt ((⟨awP, r⟩ : Ar).root + 1)) (fun v => (v, 0)) (fun _ _ _ => len_bd (Pg.bd_gt0 _) (by decide))
   (fun sh p s l a c hs _ _ => clo_aLen w0 sh p awP r _ s _ _ (aqLen w0 p r hr s hs))
   (fun x y z hx hy hz => Rg.nx (Rg.mono (Rg.gt1 _) (fun q hq => by first|exact hq|exact hq.1|exact hq.2 | (unfold I64; dsimp only; omega) | ((repeat' split) <;> first|exact hq|exact hq.1 | (unfold I64; dsimp only; omega) | (unfold I64; omega)))))
theorem mw_mPut (r : Int) (hr : 8 ≤ r ∧ r ≤ 170) : MwOk w0 4 r (bs [112, 117, 116], 2, true) := by
 have hr2 := hr
 have hr : 0 ≤ r ∧ r ≤ 4096 := by omega
 exact mw_pg (m := (_, 221)) (fun x y _ => (⟨awP, r, hsI, fun _ => true⟩ : Tr).put x (hsI x) y) (fun q => (q.1.1, q.2)) (fun _ _ _ => len_bd (Tr.bd_put _ _ _ _) (by decide))
   (fun sh p s l a c hs hl hR => by
     have hl : (l.length : Int) = 2 := hl
     exact clo_mPut w0 sh p awP r (l.getD 0 0) (l.getD 1 0) l a c hR (getD_some (by omega)) (getD_some (by omega)) s _ _ _ _ (fnL (trPut w0 p _ (okM r hr) (tI_of awP r) (l.getD 0 0) (l.getD 1 0)) (Tr.bd_put _ _ _ _) (by decide) s hs))
   (fun x y z hx hy hz => Nx.conv (nx_mPut (by omega) (by omega) hx hy _) (fun q h => by rcases h with h | h <;> first|exact h|exact absurd rfl h|exact trivial | cases h) (fun q hq => by first|exact hq|exact hq.1|exact hq.2 | (unfold I64; dsimp only; omega) | ((repeat' split) <;> first|exact hq|exact hq.1 | (unfold I64; dsimp only; omega) | (unfold I64; omega))))
theorem mw_mGet (r : Int) (hr : 8 ≤ r ∧ r ≤ 170) : MwOk w0 4 r (bs [103, 101, 116], 1, false) := by
 have hr2 := hr
 have hr : 0 ≤ r ∧ r ≤ 4096 := by omega
 exact mw_pg (m := (_, 223)) (fun x _ _ => (⟨awP, r, hsI, fun _ => true⟩ : Tr).get x (hsI x)) (fun q => if q.2 = true then (q.1, 0) else (0, 10)) (fun _ _ _ => len_bd (Tr.bd_get _ _ _) (by decide))
   (fun sh p s l a c hs hl hR => by
     have hl : (l.length : Int) = 1 := hl
     exact clo_mGet w0 sh p awP r (l.getD 0 0) l a c hR (getD_some (by omega)) s _ _ _ (fnL (trGet w0 p _ (okM r hr) (tI_of awP r) (l.getD 0 0)) (Tr.bd_get _ _ _) (by decide) s hs))
   (fun x y z hx hy hz => Rg.nx (Rg.mono (rg_mGet (by omega) (by omega) _ _) (fun q hq => by first|exact hq|exact hq.1|exact hq.2 | (unfold I64; dsimp only; omega) | ((repeat' split) <;> first|exact hq|exact hq.1 | (unfold I64; dsimp only; omega) | (unfold I64; omega)))))
theorem mw_mHas (r : Int) (hr : 8 ≤ r ∧ r ≤ 170) : MwOk w0 4 r (bs [104, 97, 115], 1, false) := by
 have hr2 := hr
 have hr : 0 ≤ r ∧ r ≤ 4096 := by omega
 exact mw_pg (m := (_, 225)) (fun x _ _ => (⟨awP, r, hsI, fun _ => true⟩ : Tr).get x (hsI x)) (fun q => if q.2 = true then (1, 0) else (0, 0)) (fun _ _ _ => len_bd (Tr.bd_get _ _ _) (by decide))
   (fun sh p s l a c hs hl hR => by
     have hl : (l.length : Int) = 1 := hl
     exact clo_mHas w0 sh p awP r (l.getD 0 0) l a c hR (getD_some (by omega)) s _ _ _ (fnL (trGet w0 p _ (okM r hr) (tI_of awP r) (l.getD 0 0)) (Tr.bd_get _ _ _) (by decide) s hs))
   (fun x y z hx hy hz => Rg.nx (Rg.mono (rg_mGet (by omega) (by omega) _ _) (fun q hq => by first|exact hq|exact hq.1|exact hq.2 | (unfold I64; dsimp only; omega) | ((repeat' split) <;> first|exact hq|exact hq.1 | (unfold I64; dsimp only; omega) | (unfold I64; omega)))))
theorem mw_mDrop (r : Int) (hr : 8 ≤ r ∧ r ≤ 170) : MwOk w0 4 r (bs [100, 114, 111, 112], 1, true) := by
 have hr2 := hr
 have hr : 0 ≤ r ∧ r ≤ 4096 := by omega
 exact mw_pg (m := (_, 227)) (fun x _ _ => (⟨awP, r, hsI, fun _ => true⟩ : Tr).drop x (hsI x)) (fun q => if q.2 ≠ 0 then (0, q.2) else if q.1.2 = true then (q.1.1, 0) else (0, 10)) (fun _ _ _ => len_bd (Tr.bd_drop _ (okM r hr) _ _) (by decide))
   (fun sh p s l a c hs hl hR => by
     have hl : (l.length : Int) = 1 := hl
     exact clo_mDrop w0 sh p awP r (l.getD 0 0) l a c hR (getD_some (by omega)) s _ _ _ _ (fnL (trDrop w0 p _ (okM r hr) (tI_of awP r) (l.getD 0 0)) (Tr.bd_drop _ (okM r hr) _ _) (by decide) s hs))
   (fun x y z hx hy hz => Nx.conv (nx_mDrop (by omega) (by omega) _ _) (fun q h => gone_bad h) (fun q hq => by first|exact hq|exact hq.1|exact hq.2 | (unfold I64; dsimp only; omega) | ((repeat' split) <;> first|exact hq|exact hq.1 | (unfold I64; dsimp only; omega) | (unfold I64; omega))))
theorem mw_tPut (r : Int) (hr : 8 ≤ r ∧ r ≤ 170) : MwOk w0 5 r (bs [112, 117, 116], 2, true) := by
 have hr2 := hr
 have hr : 0 ≤ r ∧ r ≤ 4096 := by omega
 exact mw_pg (m := (_, 230)) (fun x y _ => (⟨awP, r⟩ : Te).put x y) (fun q => (q.1.1, q.2)) (fun _ _ _ => len_bd (Te.bd_put _ (okT r hr) _ _) (by decide))
   (fun sh p s l a c hs hl hR => by
     have hl : (l.length : Int) = 2 := hl
     exact clo_tPut w0 sh p awP r (l.getD 0 0) (l.getD 1 0) l a c hR (getD_some (by omega)) (getD_some (by omega)) s _ _ _ _ (fnL (tePutKey w0 p _ (okT r hr) (l.getD 0 0) (l.getD 1 0)) (Te.bd_put _ (okT r hr) _ _) (by decide) s hs))
   (fun x y z hx hy hz => Nx.conv (nx_tPut (by omega) (by omega) hx hy) (fun q h => by rcases h with h | h <;> first|exact h|exact absurd rfl h|exact trivial | cases h) (fun q hq => by first|exact hq|exact hq.1|exact hq.2 | (unfold I64; dsimp only; omega) | ((repeat' split) <;> first|exact hq|exact hq.1 | (unfold I64; dsimp only; omega) | (unfold I64; omega))))
theorem mw_tGet (r : Int) (hr : 8 ≤ r ∧ r ≤ 170) : MwOk w0 5 r (bs [103, 101, 116], 1, false) := by
 have hr2 := hr
 have hr : 0 ≤ r ∧ r ≤ 4096 := by omega
 exact mw_pg (m := (_, 232)) (fun x _ _ => (⟨awP, r⟩ : Te).get x) (fun q => if q.2 = true then (q.1, 0) else (0, 10)) (fun _ _ _ => len_bd (Te.bd_get _ _) (by decide))
   (fun sh p s l a c hs hl hR => by
     have hl : (l.length : Int) = 1 := hl
     exact clo_tGet w0 sh p awP r (l.getD 0 0) l a c hR (getD_some (by omega)) s _ _ _ (fnL (teGetKey w0 p _ (okT r hr) (l.getD 0 0)) (Te.bd_get _ _) (by decide) s hs))
   (fun x y z hx hy hz => Rg.nx (Rg.mono (rg_tGet _) (fun q hq => by first|exact hq|exact hq.1|exact hq.2 | (unfold I64; dsimp only; omega) | ((repeat' split) <;> first|exact hq|exact hq.1 | (unfold I64; dsimp only; omega) | (unfold I64; omega)))))
theorem mw_tHas (r : Int) (hr : 8 ≤ r ∧ r ≤ 170) : MwOk w0 5 r (bs [104, 97, 115], 1, false) := by
 have hr2 := hr
 have hr : 0 ≤ r ∧ r ≤ 4096 := by omega
 exact mw_pg (m := (_, 233)) (fun x _ _ => (⟨awP, r⟩ : Te).get x) (fun q => if q.2 = true then (1, 0) else (0, 0)) (fun _ _ _ => len_bd (Te.bd_get _ _) (by decide))
   (fun sh p s l a c hs hl hR => by
     have hl : (l.length : Int) = 1 := hl
     exact clo_tHas w0 sh p awP r (l.getD 0 0) l a c hR (getD_some (by omega)) s _ _ _ (fnL (teGetKey w0 p _ (okT r hr) (l.getD 0 0)) (Te.bd_get _ _) (by decide) s hs))
   (fun x y z hx hy hz => Rg.nx (Rg.mono (rg_tGet _) (fun q hq => by first|exact hq|exact hq.1|exact hq.2 | (unfold I64; dsimp only; omega) | ((repeat' split) <;> first|exact hq|exact hq.1 | (unfold I64; dsimp only; omega) | (unfold I64; omega)))))
theorem mw_tDrop (r : Int) (hr : 8 ≤ r ∧ r ≤ 170) : MwOk w0 5 r (bs [100, 114, 111, 112], 1, true) := by
 have hr2 := hr
 have hr : 0 ≤ r ∧ r ≤ 4096 := by omega
 exact mw_pg (m := (_, 234)) (fun x _ _ => (⟨awP, r⟩ : Te).drop x) (fun q => if q.2 ≠ 0 then (0, q.2) else if q.1.2 = true then (q.1.1, 0) else (0, 10)) (fun _ _ _ => len_bd (Te.bd_drop _ (okT r hr) _) (by decide))
   (fun sh p s l a c hs hl hR => by
     have hl : (l.length : Int) = 1 := hl
     exact clo_tDrop w0 sh p awP r (l.getD 0 0) l a c hR (getD_some (by omega)) s _ _ _ _ (fnL (teDropKey w0 p _ (okT r hr) (l.getD 0 0)) (Te.bd_drop _ (okT r hr) _) (by decide) s hs))
   (fun x y z hx hy hz => Nx.conv (nx_tDrop (by omega) (by omega) _) (fun q h => gone_bad h) (fun q hq => by first|exact hq|exact hq.1|exact hq.2 | (unfold I64; dsimp only; omega) | ((repeat' split) <;> first|exact hq|exact hq.1 | (unfold I64; dsimp only; omega) | (unfold I64; omega))))
theorem mw_mLen (r : Int) (hr : 8 ≤ r ∧ r ≤ 170) : MwOk w0 4 r (bs [108, 101, 110], 0, false) := by
 have hr2 := hr
 have hr : 0 ≤ r ∧ r ≤ 4096 := by omega
 exact mw_pg (m := (_, 229)) (fun _ _ _ => (⟨awP, r, hsI, fun _ => true⟩ : Tr).len) (fun v => (v, 0)) (fun _ _ _ => len_bd (Pg.bd_gt0 _) (by decide))
   (fun sh p s l a c hs _ _ => clo_mLen w0 sh p awP r _ s _ _ (fnL (trLen w0 p _ (okM r hr)) (Pg.bd_gt0 _) (by decide) s hs))
   (fun x y z hx hy hz => Rg.nx (Rg.mono (rg_mLen) (fun q hq => by first|exact hq|exact hq.1|exact hq.2 | (unfold I64; dsimp only; omega) | ((repeat' split) <;> first|exact hq|exact hq.1 | (unfold I64; dsimp only; omega) | (unfold I64; omega)))))
theorem mw_tSum (r : Int) (hr : 8 ≤ r ∧ r ≤ 170) : MwOk w0 5 r (bs [115, 117, 109], 2, false) := by
 have hr2 := hr
 have hr : 0 ≤ r ∧ r ≤ 4096 := by omega
 exact mw_pg (m := (_, 235)) (fun x y _ => (⟨awP, r⟩ : Te).between x y 5 Te.sumO) (fun v => (v, 0)) (fun _ _ _ => len_bd (Te.bd_between _ _ _ _ _ Te.bd_sumO) (by decide))
   (fun sh p s l a c hs hl hR => by
     have hl : (l.length : Int) = 2 := hl
     exact clo_tSum w0 sh p awP r (l.getD 0 0) (l.getD 1 0) l a c hR (getD_some (by omega)) (getD_some (by omega)) s _ _ (fnL (teSum w0 p _ (okT r hr) (l.getD 0 0) (l.getD 1 0)) (Te.bd_between _ _ _ _ _ Te.bd_sumO) (by decide) s hs))
   (fun x y z hx hy hz => Rg.nx (Rg.mono (rg_tBetween _ _ 5 _ rg_sumO) (fun q hq => by first|exact hq|exact hq.1|exact hq.2 | (unfold I64; dsimp only; omega) | ((repeat' split) <;> first|exact hq|exact hq.1 | (unfold I64; dsimp only; omega) | (unfold I64; omega)))))
theorem mw_tCount (r : Int) (hr : 8 ≤ r ∧ r ≤ 170) : MwOk w0 5 r (bs [99, 111, 117, 110, 116], 2, false) := by
 have hr2 := hr
 have hr : 0 ≤ r ∧ r ≤ 4096 := by omega
 exact mw_pg (m := (_, 236)) (fun x y _ => (⟨awP, r⟩ : Te).between x y 4 Te.countO) (fun v => (v, 0)) (fun _ _ _ => len_bd (Te.bd_between _ _ _ _ _ Te.bd_countO) (by decide))
   (fun sh p s l a c hs hl hR => by
     have hl : (l.length : Int) = 2 := hl
     exact clo_tCount w0 sh p awP r (l.getD 0 0) (l.getD 1 0) l a c hR (getD_some (by omega)) (getD_some (by omega)) s _ _ (fnL (teCount w0 p _ (okT r hr) (l.getD 0 0) (l.getD 1 0)) (Te.bd_between _ _ _ _ _ Te.bd_countO) (by decide) s hs))
   (fun x y z hx hy hz => Rg.nx (Rg.mono (rg_tBetween _ _ 4 _ rg_countO) (fun q hq => by first|exact hq|exact hq.1|exact hq.2 | (unfold I64; dsimp only; omega) | ((repeat' split) <;> first|exact hq|exact hq.1 | (unfold I64; dsimp only; omega) | (unfold I64; omega)))))
theorem mw_tNext (r : Int) (hr : 8 ≤ r ∧ r ≤ 170) : MwOk w0 5 r (bs [110, 101, 120, 116], 1, false) := by
 have hr2 := hr
 have hr : 0 ≤ r ∧ r ≤ 4096 := by omega
 exact mw_pg (m := (_, 237)) (fun x _ _ => (⟨awP, r⟩ : Te).next x) (fun q => if q.2 = true then (q.1, 0) else (0, 10)) (fun _ _ _ => len_bd (Te.bd_next _ _) (by decide))
   (fun sh p s l a c hs hl hR => by
     have hl : (l.length : Int) = 1 := hl
     exact clo_tNext w0 sh p awP r (l.getD 0 0) l a c hR (getD_some (by omega)) s _ _ _ (fnL (teNext w0 p _ (okT r hr) (l.getD 0 0)) (Te.bd_next _ _) (by decide) s hs))
   (fun x y z hx hy hz => Rg.nx (Rg.mono (rg_tNext _) (fun q hq => by first|exact hq|exact hq.1|exact hq.2 | (unfold I64; dsimp only; omega) | ((repeat' split) <;> first|exact hq|exact hq.1 | (unfold I64; dsimp only; omega) | (unfold I64; omega)))))
theorem mw_tNth (r : Int) (hr : 8 ≤ r ∧ r ≤ 170) : MwOk w0 5 r (bs [110, 116, 104], 1, false) := by
 have hr2 := hr
 have hr : 0 ≤ r ∧ r ≤ 4096 := by omega
 exact mw_pg (m := (_, 238)) (fun x _ _ => (⟨awP, r⟩ : Te).nth x) (fun q => if q.2 = true then (q.1, 0) else (0, 10)) (fun _ _ _ => len_bd (Te.bd_nth _ _) (by decide))
   (fun sh p s l a c hs hl hR => by
     have hl : (l.length : Int) = 1 := hl
     exact clo_tNth w0 sh p awP r (l.getD 0 0) l a c hR (getD_some (by omega)) s _ _ _ (fnL (teNth w0 p _ (okT r hr) (l.getD 0 0)) (Te.bd_nth _ _) (by decide) s hs))
   (fun x y z hx hy hz => Rg.nx (Rg.mono (rg_tNth _) (fun q hq => by first|exact hq|exact hq.1|exact hq.2 | (unfold I64; dsimp only; omega) | ((repeat' split) <;> first|exact hq|exact hq.1 | (unfold I64; dsimp only; omega) | (unfold I64; omega)))))
theorem mw_tLen (r : Int) (hr : 8 ≤ r ∧ r ≤ 170) : MwOk w0 5 r (bs [108, 101, 110], 0, false) := by
 have hr2 := hr
 have hr : 0 ≤ r ∧ r ≤ 4096 := by omega
 exact mw_pg (m := (_, 239)) (fun _ _ _ => (⟨awP, r⟩ : Te).len) (fun v => (v, 0)) (fun _ _ _ => len_bd (Pg.bd_gt0 _) (by decide))
   (fun sh p s l a c hs _ _ => clo_tLen w0 sh p awP r _ s _ _ (fnL (teLen w0 p ⟨awP, r⟩) (Pg.bd_gt0 _) (by decide) s hs))
   (fun x y z hx hy hz => Rg.nx (Rg.mono (Rg.gt1 _) (fun q hq => by first|exact hq|exact hq.1|exact hq.2 | (unfold I64; dsimp only; omega) | ((repeat' split) <;> first|exact hq|exact hq.1 | (unfold I64; dsimp only; omega) | (unfold I64; omega)))))
theorem mw_hPush (r : Int) (hr : 8 ≤ r ∧ r ≤ 170) : MwOk w0 6 r (bs [112, 117, 115, 104], 2, true) := by
 have hr2 := hr
 have hr : 0 ≤ r ∧ r ≤ 4096 := by omega
 exact mw_pg (m := (_, 240)) (fun x y _ => (⟨awP, r⟩ : He).push x y) (fun q => q) (fun _ _ _ => len_bd (He.bd_push _ _ _) (by decide))
   (fun sh p s l a c hs hl hR => by
     have hl : (l.length : Int) = 2 := hl
     exact clo_hPush w0 sh p awP r (l.getD 0 0) (l.getD 1 0) l a c hR (getD_some (by omega)) (getD_some (by omega)) s _ _ (fnL (hePush w0 p _ (okH r hr) (l.getD 0 0) (l.getD 1 0)) (He.bd_push _ _ _) (by decide) s hs))
   (fun x y z hx hy hz => Nx.conv (nx_hPush (by omega) (by omega) hx hy) (fun q h => by rcases h with h | h <;> first|exact h|exact absurd rfl h|exact trivial | cases h) (fun q hq => by first|exact hq|exact hq.1|exact hq.2 | (unfold I64; dsimp only; omega) | ((repeat' split) <;> first|exact hq|exact hq.1 | (unfold I64; dsimp only; omega) | (unfold I64; omega))))
theorem mw_hPop (r : Int) (hr : 8 ≤ r ∧ r ≤ 170) : MwOk w0 6 r (bs [112, 111, 112], 0, true) := by
 have hr2 := hr
 have hr : 0 ≤ r ∧ r ≤ 4096 := by omega
 exact mw_pg (m := (_, 242)) (fun _ _ _ => (⟨awP, r⟩ : He).pop) (fun q => (q.1.2, q.2)) (fun _ _ _ => len_bd (He.bd_pop _) (by decide))
   (fun sh p s l a c hs _ _ => clo_hPop w0 sh p awP r _ s _ _ _ _ (fnL (hePop w0 p _ (okH r hr)) (He.bd_pop _) (by decide) s hs))
   (fun x y z hx hy hz => Nx.conv (nx_hPop (by omega) (by omega)) (fun q h => by rcases h with h | h <;> first|exact h|exact absurd rfl h|exact trivial | cases h) (fun q hq => by first|exact hq|exact hq.1|exact hq.2 | (unfold I64; dsimp only; omega) | ((repeat' split) <;> first|exact hq|exact hq.1 | (unfold I64; dsimp only; omega) | (unfold I64; omega))))
theorem mw_hMin (r : Int) (hr : 8 ≤ r ∧ r ≤ 170) : MwOk w0 6 r (bs [109, 105, 110], 0, false) := by
 have hr2 := hr
 have hr : 0 ≤ r ∧ r ≤ 4096 := by omega
 exact mw_pg (m := (_, 243)) (fun _ _ _ => (⟨awP, r⟩ : He).min) (fun q => (q.1.2, q.2)) (fun _ _ _ => len_bd (He.bd_min _) (by decide))
   (fun sh p s l a c hs _ _ => clo_hMin w0 sh p awP r _ s _ _ _ _ (fnL (heMin w0 p _ (okH r hr)) (He.bd_min _) (by decide) s hs))
   (fun x y z hx hy hz => Rg.nx (Rg.mono (rg_hMin (by omega) (by omega)) (fun q hq => by first|exact hq|exact hq.1|exact hq.2 | (unfold I64; dsimp only; omega) | ((repeat' split) <;> first|exact hq|exact hq.1 | (unfold I64; dsimp only; omega) | (unfold I64; omega)))))
theorem mw_hLeast (r : Int) (hr : 8 ≤ r ∧ r ≤ 170) : MwOk w0 6 r (bs [108, 101, 97, 115, 116], 0, false) := by
 have hr2 := hr
 have hr : 0 ≤ r ∧ r ≤ 4096 := by omega
 exact mw_pg (m := (_, 244)) (fun _ _ _ => (⟨awP, r⟩ : He).min) (fun q => (q.1.1, q.2)) (fun _ _ _ => len_bd (He.bd_min _) (by decide))
   (fun sh p s l a c hs _ _ => clo_hLeast w0 sh p awP r _ s _ _ _ _ (fnL (heMin w0 p _ (okH r hr)) (He.bd_min _) (by decide) s hs))
   (fun x y z hx hy hz => Rg.nx (Rg.mono (rg_hMin (by omega) (by omega)) (fun q hq => by first|exact hq|exact hq.1|exact hq.2 | (unfold I64; dsimp only; omega) | ((repeat' split) <;> first|exact hq|exact hq.1 | (unfold I64; dsimp only; omega) | (unfold I64; omega)))))
theorem mw_hLower (r : Int) (hr : 8 ≤ r ∧ r ≤ 170) : MwOk w0 6 r (bs [108, 111, 119, 101, 114], 2, true) := by
 have hr2 := hr
 have hr : 0 ≤ r ∧ r ≤ 4096 := by omega
 exact mw_pg (m := (_, 245)) (fun x y _ => (⟨awP, r⟩ : He).lower x y) (fun e => (0, e)) (fun _ _ _ => len_bd (He.bd_lower _ _ _) (by decide))
   (fun sh p s l a c hs hl hR => by
     have hl : (l.length : Int) = 2 := hl
     exact clo_hLower w0 sh p awP r (l.getD 0 0) (l.getD 1 0) l a c hR (getD_some (by omega)) (getD_some (by omega)) s _ _ (fnL (heLower w0 p _ (okH r hr) (l.getD 0 0) (l.getD 1 0)) (He.bd_lower _ _ _) (by decide) s hs))
   (fun x y z hx hy hz => Nx.conv (nx_hLower (by omega) (by omega) hx hy) (fun q h => by rcases h with h | h <;> first|exact h|exact absurd rfl h|exact trivial | cases h) (fun q hq => by first|exact hq|exact hq.1|exact hq.2 | (unfold I64; dsimp only; omega) | ((repeat' split) <;> first|exact hq|exact hq.1 | (unfold I64; dsimp only; omega) | (unfold I64; omega))))
theorem mw_hDrop (r : Int) (hr : 8 ≤ r ∧ r ≤ 170) : MwOk w0 6 r (bs [100, 114, 111, 112], 1, true) := by
 have hr2 := hr
 have hr : 0 ≤ r ∧ r ≤ 4096 := by omega
 exact mw_pg (m := (_, 246)) (fun x _ _ => (⟨awP, r⟩ : He).drop x) (fun q => q) (fun _ _ _ => len_bd (He.bd_drop _ _) (by decide))
   (fun sh p s l a c hs hl hR => by
     have hl : (l.length : Int) = 1 := hl
     exact clo_hDrop w0 sh p awP r (l.getD 0 0) l a c hR (getD_some (by omega)) s _ _ (fnL (heDrop w0 p _ (okH r hr) (l.getD 0 0)) (He.bd_drop _ _) (by decide) s hs))
   (fun x y z hx hy hz => Nx.conv (nx_hDrop (by omega) (by omega) hx) (fun q h => by rcases h with h | h <;> first|exact h|exact absurd rfl h|exact trivial | cases h) (fun q hq => by first|exact hq|exact hq.1|exact hq.2 | (unfold I64; dsimp only; omega) | ((repeat' split) <;> first|exact hq|exact hq.1 | (unfold I64; dsimp only; omega) | (unfold I64; omega))))
theorem mw_hLen (r : Int) (hr : 8 ≤ r ∧ r ≤ 170) : MwOk w0 6 r (bs [108, 101, 110], 0, false) := by
 have hr2 := hr
 have hr : 0 ≤ r ∧ r ≤ 4096 := by omega
 exact mw_pg (m := (_, 247)) (fun _ _ _ => (⟨awP, r⟩ : He).len) (fun v => (v, 0)) (fun _ _ _ => len_bd (Pg.bd_gt0 _) (by decide))
   (fun sh p s l a c hs _ _ => clo_hLen w0 sh p awP r _ s _ _ (fnL (heLen w0 p ⟨awP, r⟩) (Pg.bd_gt0 _) (by decide) s hs))
   (fun x y z hx hy hz => Rg.nx (Rg.mono (Rg.gt1 _) (fun q hq => by first|exact hq|exact hq.1|exact hq.2 | (unfold I64; dsimp only; omega) | ((repeat' split) <;> first|exact hq|exact hq.1 | (unfold I64; dsimp only; omega) | (unfold I64; omega)))))
theorem mw_gAdd (r : Int) (hr : 8 ≤ r ∧ r ≤ 170) : MwOk w0 8 r (bs [97, 100, 100], 1, true) := by
 have hr2 := hr
 have hr : 0 ≤ r ∧ r ≤ 4096 := by omega
 exact mw_pg (m := (_, 248)) (fun x _ _ => (⟨awP, r⟩ : Gh).add x) (fun q => q) (fun _ _ _ => len_bd (Gh.bd_add _ _) (by decide))
   (fun sh p s l a c hs hl hR => by
     have hl : (l.length : Int) = 1 := hl
     exact clo_gAdd w0 sh p awP r (l.getD 0 0) l a c hR (getD_some (by omega)) s _ _ (fnL (ghAdd w0 p _ (okG r hr) (l.getD 0 0)) (Gh.bd_add _ _) (by decide) s hs))
   (fun x y z hx hy hz => Nx.conv (nx_gAdd (by omega) (by omega) hx) (fun q h => by rcases h with h | h <;> first|exact h|exact absurd rfl h|exact trivial | cases h) (fun q hq => by first|exact hq|exact hq.1|exact hq.2 | (unfold I64; dsimp only; omega) | ((repeat' split) <;> first|exact hq|exact hq.1 | (unfold I64; dsimp only; omega) | (unfold I64; omega))))
theorem mw_gLink (r : Int) (hr : 8 ≤ r ∧ r ≤ 170) : MwOk w0 8 r (bs [108, 105, 110, 107], 3, true) := by
 have hr2 := hr
 have hr : 0 ≤ r ∧ r ≤ 4096 := by omega
 exact mw_pg (m := (_, 250)) (fun x y z => (⟨awP, r⟩ : Gh).lnk x y z) (fun q => q) (fun _ _ _ => len_bd (Gh.bd_lnk _ _ _ _) (by decide))
   (fun sh p s l a c hs hl hR => by
     have hl : (l.length : Int) = 3 := hl
     exact clo_gLink w0 sh p awP r (l.getD 0 0) (l.getD 1 0) (l.getD 2 0) l a c hR (getD_some (by omega)) (getD_some (by omega)) (getD_some (by omega)) s _ _ (fnL (ghLnk w0 p _ (okG r hr) (l.getD 0 0) (l.getD 1 0) (l.getD 2 0)) (Gh.bd_lnk _ _ _ _) (by decide) s hs))
   (fun x y z hx hy hz => Nx.conv (nx_gLink (by omega) (by omega) hx hy hz) (fun q h => by rcases h with h | h <;> first|exact h|exact absurd rfl h|exact trivial | cases h) (fun q hq => by first|exact hq|exact hq.1|exact hq.2 | (unfold I64; dsimp only; omega) | ((repeat' split) <;> first|exact hq|exact hq.1 | (unfold I64; dsimp only; omega) | (unfold I64; omega))))
theorem mw_gCut (r : Int) (hr : 8 ≤ r ∧ r ≤ 170) : MwOk w0 8 r (bs [99, 117, 116], 1, true) := by
 have hr2 := hr
 have hr : 0 ≤ r ∧ r ≤ 4096 := by omega
 exact mw_pg (m := (_, 251)) (fun x _ _ => (⟨awP, r⟩ : Gh).cut x) (fun e => (0, e)) (fun _ _ _ => len_bd (Gh.bd_cut _ _) (by decide))
   (fun sh p s l a c hs hl hR => by
     have hl : (l.length : Int) = 1 := hl
     exact clo_gCut w0 sh p awP r (l.getD 0 0) l a c hR (getD_some (by omega)) s _ _ (fnL (ghCut w0 p _ (okG r hr) (l.getD 0 0)) (Gh.bd_cut _ _) (by decide) s hs))
   (fun x y z hx hy hz => Nx.conv (nx_gCut (by omega) (by omega) hx) (fun q h => by rcases h with h | h <;> first|exact h|exact absurd rfl h|exact trivial | cases h) (fun q hq => by first|exact hq|exact hq.1|exact hq.2 | (unfold I64; dsimp only; omega) | ((repeat' split) <;> first|exact hq|exact hq.1 | (unfold I64; dsimp only; omega) | (unfold I64; omega))))
theorem mw_gDrop (r : Int) (hr : 8 ≤ r ∧ r ≤ 170) : MwOk w0 8 r (bs [100, 114, 111, 112], 1, true) := by
 have hr2 := hr
 have hr : 0 ≤ r ∧ r ≤ 4096 := by omega
 exact mw_pg (m := (_, 252)) (fun x _ _ => (⟨awP, r⟩ : Gh).drop x) (fun q => q) (fun _ _ _ => len_bd (Gh.bd_drop _ (okG r hr) _) (by decide))
   (fun sh p s l a c hs hl hR => by
     have hl : (l.length : Int) = 1 := hl
     exact clo_gDrop w0 sh p awP r (l.getD 0 0) l a c hR (getD_some (by omega)) s _ _ (fnL (ghDrop w0 p _ (okG r hr) (l.getD 0 0)) (Gh.bd_drop _ (okG r hr) _) (by decide) s hs))
   (fun x y z hx hy hz => Nx.conv (nx_gDrop (by omega) (by omega) hx) (fun q h => by rcases h with h | h <;> first|exact h|exact absurd rfl h|exact trivial | cases h) (fun q hq => by first|exact hq|exact hq.1|exact hq.2 | (unfold I64; dsimp only; omega) | ((repeat' split) <;> first|exact hq|exact hq.1 | (unfold I64; dsimp only; omega) | (unfold I64; omega))))
theorem mw_gWeight (r : Int) (hr : 8 ≤ r ∧ r ≤ 170) : MwOk w0 8 r (bs [119, 101, 105, 103, 104, 116], 2, false) := by
 have hr2 := hr
 have hr : 0 ≤ r ∧ r ≤ 4096 := by omega
 exact mw_pg (m := (_, 253)) (fun x y _ => (⟨awP, r⟩ : Gh).weigh x y) (fun q => if q.2 = true then (q.1, 0) else (0, 10)) (fun _ _ _ => len_bd (Gh.bd_weigh _ _ _) (by decide))
   (fun sh p s l a c hs hl hR => by
     have hl : (l.length : Int) = 2 := hl
     exact clo_gWeight w0 sh p awP r (l.getD 0 0) (l.getD 1 0) l a c hR (getD_some (by omega)) (getD_some (by omega)) s _ _ _ (fnL (ghWeight w0 p _ (okG r hr) (l.getD 0 0) (l.getD 1 0)) (Gh.bd_weigh _ _ _) (by decide) s hs))
   (fun x y z hx hy hz => Rg.nx (Rg.mono (rg_gWeight hx hy) (fun q hq => by first|exact hq|exact hq.1|exact hq.2 | (unfold I64; dsimp only; omega) | ((repeat' split) <;> first|exact hq|exact hq.1 | (unfold I64; dsimp only; omega) | (unfold I64; omega)))))
theorem mw_gLabel (r : Int) (hr : 8 ≤ r ∧ r ≤ 170) : MwOk w0 8 r (bs [108, 97, 98, 101, 108], 1, false) := by
 have hr2 := hr
 have hr : 0 ≤ r ∧ r ≤ 4096 := by omega
 exact mw_pg (m := (_, 254)) (fun x _ _ => (⟨awP, r⟩ : Gh).label x) (fun q => q) (fun _ _ _ => len_bd (Gh.bd_label _ _) (by decide))
   (fun sh p s l a c hs hl hR => by
     have hl : (l.length : Int) = 1 := hl
     exact clo_gLabel w0 sh p awP r (l.getD 0 0) l a c hR (getD_some (by omega)) s _ _ (fnL (ghLabel w0 p _ (okG r hr) (l.getD 0 0)) (Gh.bd_label _ _) (by decide) s hs))
   (fun x y z hx hy hz => Rg.nx (Rg.mono (rg_gLabel hx) (fun q hq => by first|exact hq|exact hq.1|exact hq.2 | (unfold I64; dsimp only; omega) | ((repeat' split) <;> first|exact hq|exact hq.1 | (unfold I64; dsimp only; omega) | (unfold I64; omega)))))
theorem mw_gOuts (r : Int) (hr : 8 ≤ r ∧ r ≤ 170) : MwOk w0 8 r (bs [111, 117, 116, 115], 1, false) := by
 have hr2 := hr
 have hr : 0 ≤ r ∧ r ≤ 4096 := by omega
 exact mw_pg (m := (_, 255)) (fun x _ _ => (⟨awP, r⟩ : Gh).ends x (Gh.out x) 2) (fun q => if q.2 ≠ 0 then (0, q.2) else ((q.1.length : Int), q.2)) (fun _ _ _ => len_bd (Gh.bd_ends _ _ _ _) (by decide))
   (fun sh p s l a c hs hl hR => by
     have hl : (l.length : Int) = 1 := hl
     exact clo_gOuts w0 sh p awP r (l.getD 0 0) l a c hR (getD_some (by omega)) s _ _ _ ((ghOuts w0 p _ (okG r hr) (l.getD 0 0) s (hs.fits (Gh.bd_ends _ _ _ _) (by decide))).mono fun v Γ ⟨ad, cap, e1, e2⟩ => ⟨ad, _, cap, e1, rfl, e2⟩))
   (fun x y z hx hy hz => Rg.nx (Rg.mono (rg_gEnds hx _ (fun h2 h3 => lok_out h2 h3) 2 (by omega)) (fun q hq => by first|exact hq|exact hq.1|exact hq.2 | (unfold I64; dsimp only; omega) | ((repeat' split) <;> first|exact hq|exact hq.1 | (unfold I64; dsimp only; omega) | (unfold I64; omega)))))
theorem mw_gIns (r : Int) (hr : 8 ≤ r ∧ r ≤ 170) : MwOk w0 8 r (bs [105, 110, 115], 1, false) := by
 have hr2 := hr
 have hr : 0 ≤ r ∧ r ≤ 4096 := by omega
 exact mw_pg (m := (_, 257)) (fun x _ _ => (⟨awP, r⟩ : Gh).ends x (Gh.inn x) 1) (fun q => if q.2 ≠ 0 then (0, q.2) else ((q.1.length : Int), q.2)) (fun _ _ _ => len_bd (Gh.bd_ends _ _ _ _) (by decide))
   (fun sh p s l a c hs hl hR => by
     have hl : (l.length : Int) = 1 := hl
     exact clo_gIns w0 sh p awP r (l.getD 0 0) l a c hR (getD_some (by omega)) s _ _ _ ((ghIns w0 p _ (okG r hr) (l.getD 0 0) s (hs.fits (Gh.bd_ends _ _ _ _) (by decide))).mono fun v Γ ⟨ad, cap, e1, e2⟩ => ⟨ad, _, cap, e1, rfl, e2⟩))
   (fun x y z hx hy hz => Rg.nx (Rg.mono (rg_gEnds hx _ (fun h2 h3 => lok_inn h2 h3) 1 (by omega)) (fun q hq => by first|exact hq|exact hq.1|exact hq.2 | (unfold I64; dsimp only; omega) | ((repeat' split) <;> first|exact hq|exact hq.1 | (unfold I64; dsimp only; omega) | (unfold I64; omega)))))
theorem mw_gVerts (r : Int) (hr : 8 ≤ r ∧ r ≤ 170) : MwOk w0 8 r (bs [118, 101, 114, 116, 105, 99, 101, 115], 0, false) := by
 have hr2 := hr
 have hr : 0 ≤ r ∧ r ≤ 4096 := by omega
 exact mw_pg (m := (_, 258)) (fun _ _ _ => (⟨awP, r⟩ : Gh).verts) (fun q => ((q.1.length : Int), q.2)) (fun _ _ _ => len_bd (Gh.bd_verts _) (by decide))
   (fun sh p s l a c hs _ _ => clo_gVerts w0 sh p awP r _ s _ _ _ ((ghVerts w0 p _ (okG r hr) s (hs.fits (Gh.bd_verts _) (by decide))).mono fun v Γ ⟨ad, cap, e1, e2⟩ => ⟨ad, _, cap, e1, rfl, e2⟩))
   (fun x y z hx hy hz => Rg.nx (Rg.mono (rg_gVerts (by omega) (by omega)) (fun q hq => by first|exact hq|exact hq.1|exact hq.2 | (unfold I64; dsimp only; omega) | ((repeat' split) <;> first|exact hq|exact hq.1 | (unfold I64; dsimp only; omega) | (unfold I64; omega)))))
theorem mw_gEdges (r : Int) (hr : 8 ≤ r ∧ r ≤ 170) : MwOk w0 8 r (bs [101, 100, 103, 101, 115], 0, false) := by
 have hr2 := hr
 have hr : 0 ≤ r ∧ r ≤ 4096 := by omega
 exact mw_pg (m := (_, 259)) (fun _ _ _ => (⟨awP, r⟩ : Gh).edges) (fun v => (v, 0)) (fun _ _ _ => len_bd (Pg.bd_gt0 _) (by decide))
   (fun sh p s l a c hs _ _ => clo_gEdges w0 sh p awP r _ s _ _ (fnL (ghEdges w0 p ⟨awP, r⟩) (Pg.bd_gt0 _) (by decide) s hs))
   (fun x y z hx hy hz => Rg.nx (Rg.mono (Rg.gt1 _) (fun q hq => by first|exact hq|exact hq.1|exact hq.2 | (unfold I64; dsimp only; omega) | ((repeat' split) <;> first|exact hq|exact hq.1 | (unfold I64; dsimp only; omega) | (unfold I64; omega)))))
theorem mw_fMake (r : Int) (hr : 8 ≤ r ∧ r ≤ 170) : MwOk w0 9 r (bs [109, 97, 107, 101], 0, true) := by
 have hr2 := hr
 have hr : 0 ≤ r ∧ r ≤ 4096 := by omega
 exact mw_pg (m := (_, 260)) (fun _ _ _ => (⟨awP, r⟩ : Fo).make) (fun q => q) (fun _ _ _ => len_bd (Fo.bd_make _) (by decide))
   (fun sh p s l a c hs _ _ => clo_fMake w0 sh p awP r _ s _ _ (fnL (foMake w0 p _ (okF r hr)) (Fo.bd_make _) (by decide) s hs))
   (fun x y z hx hy hz => Nx.conv (nx_fMake (by omega) (by omega)) (fun q h => by rcases h with h | h <;> first|exact h|exact absurd rfl h|exact trivial | cases h) (fun q hq => by first|exact hq|exact hq.1|exact hq.2 | (unfold I64; dsimp only; omega) | ((repeat' split) <;> first|exact hq|exact hq.1 | (unfold I64; dsimp only; omega) | (unfold I64; omega))))
theorem mw_fFind (r : Int) (hr : 8 ≤ r ∧ r ≤ 170) : MwOk w0 9 r (bs [102, 105, 110, 100], 1, false) := by
 have hr2 := hr
 have hr : 0 ≤ r ∧ r ≤ 4096 := by omega
 exact mw_pg (m := (_, 262)) (fun x _ _ => (⟨awP, r⟩ : Fo).find x) (fun q => q) (fun _ _ _ => len_bd (Fo.bd_find _ _) (by decide))
   (fun sh p s l a c hs hl hR => by
     have hl : (l.length : Int) = 1 := hl
     exact clo_fFind w0 sh p awP r (l.getD 0 0) l a c hR (getD_some (by omega)) s _ _ (fnL (foFindT w0 p _ (okF r hr) (l.getD 0 0)) (Fo.bd_find _ _) (by decide) s hs))
   (fun x y z hx hy hz => Rg.nx (Rg.mono (rg_fFind hx) (fun q hq => by first|exact hq|exact hq.1|exact hq.2 | (unfold I64; dsimp only; omega) | ((repeat' split) <;> first|exact hq|exact hq.1 | (unfold I64; dsimp only; omega) | (unfold I64; omega)))))
theorem mw_fUnion (r : Int) (hr : 8 ≤ r ∧ r ≤ 170) : MwOk w0 9 r (bs [117, 110, 105, 111, 110], 2, true) := by
 have hr2 := hr
 have hr : 0 ≤ r ∧ r ≤ 4096 := by omega
 exact mw_pg (m := (_, 263)) (fun x y _ => (⟨awP, r⟩ : Fo).union x y) (fun q => if q.2 = 0 ∧ q.1 = true then (1, q.2) else (0, q.2)) (fun _ _ _ => len_bd (Fo.bd_union _ _ _) (by decide))
   (fun sh p s l a c hs hl hR => by
     have hl : (l.length : Int) = 2 := hl
     exact clo_fUnion w0 sh p awP r (l.getD 0 0) (l.getD 1 0) l a c hR (getD_some (by omega)) (getD_some (by omega)) s _ _ _ (fnL (foUnionT w0 p _ (okF r hr) (l.getD 0 0) (l.getD 1 0)) (Fo.bd_union _ _ _) (by decide) s hs))
   (fun x y z hx hy hz => Nx.conv (nx_fUnion (by omega) (by omega) hx hy) (fun q h => truth_bad h) (fun q hq => by first|exact hq|exact hq.1|exact hq.2 | (unfold I64; dsimp only; omega) | ((repeat' split) <;> first|exact hq|exact hq.1 | (unfold I64; dsimp only; omega) | (unfold I64; omega))))
theorem mw_fUndo (r : Int) (hr : 8 ≤ r ∧ r ≤ 170) : MwOk w0 9 r (bs [117, 110, 100, 111], 0, true) := by
 have hr2 := hr
 have hr : 0 ≤ r ∧ r ≤ 4096 := by omega
 exact mw_pg (m := (_, 264)) (fun _ _ _ => (⟨awP, r⟩ : Fo).undo) (fun q => if q.2 = 0 ∧ q.1 = true then (1, q.2) else (0, q.2)) (fun _ _ _ => len_bd (Fo.bd_undo _) (by decide))
   (fun sh p s l a c hs _ _ => clo_fUndo w0 sh p awP r _ s _ _ _ (fnL (foUndo w0 p _ (okF r hr)) (Fo.bd_undo _) (by decide) s hs))
   (fun x y z hx hy hz => Nx.conv (nx_fUndo (by omega) (by omega)) (fun q h => truth_bad h) (fun q hq => by first|exact hq|exact hq.1|exact hq.2 | (unfold I64; dsimp only; omega) | ((repeat' split) <;> first|exact hq|exact hq.1 | (unfold I64; dsimp only; omega) | (unfold I64; omega))))
theorem mw_fSame (r : Int) (hr : 8 ≤ r ∧ r ≤ 170) : MwOk w0 9 r (bs [115, 97, 109, 101], 2, false) := by
 have hr2 := hr
 have hr : 0 ≤ r ∧ r ≤ 4096 := by omega
 exact mw_pg (m := (_, 265)) (fun x y _ => (⟨awP, r⟩ : Fo).same x y) (fun q => if q.2 = 0 ∧ q.1 = true then (1, q.2) else (0, q.2)) (fun _ _ _ => len_bd (Fo.bd_same _ _ _) (by decide))
   (fun sh p s l a c hs hl hR => by
     have hl : (l.length : Int) = 2 := hl
     exact clo_fSame w0 sh p awP r (l.getD 0 0) (l.getD 1 0) l a c hR (getD_some (by omega)) (getD_some (by omega)) s _ _ _ (fnL (foSameT w0 p _ (okF r hr) (l.getD 0 0) (l.getD 1 0)) (Fo.bd_same _ _ _) (by decide) s hs))
   (fun x y z hx hy hz => Rg.nx (Rg.mono (rg_fSame hx hy) (fun q hq => by first|exact hq|exact hq.1|exact hq.2 | (unfold I64; dsimp only; omega) | ((repeat' split) <;> first|exact hq|exact hq.1 | (unfold I64; dsimp only; omega) | (unfold I64; omega)))))
theorem mw_fSize (r : Int) (hr : 8 ≤ r ∧ r ≤ 170) : MwOk w0 9 r (bs [115, 105, 122, 101], 1, false) := by
 have hr2 := hr
 have hr : 0 ≤ r ∧ r ≤ 4096 := by omega
 exact mw_pg (m := (_, 266)) (fun x _ _ => (⟨awP, r⟩ : Fo).sizeOf x) (fun q => q) (fun _ _ _ => len_bd (Fo.bd_sizeOf _ _) (by decide))
   (fun sh p s l a c hs hl hR => by
     have hl : (l.length : Int) = 1 := hl
     exact clo_fSize w0 sh p awP r (l.getD 0 0) l a c hR (getD_some (by omega)) s _ _ (fnL (foSizeT w0 p _ (okF r hr) (l.getD 0 0)) (Fo.bd_sizeOf _ _) (by decide) s hs))
   (fun x y z hx hy hz => Rg.nx (Rg.mono (rg_fSize hx) (fun q hq => by first|exact hq|exact hq.1|exact hq.2 | (unfold I64; dsimp only; omega) | ((repeat' split) <;> first|exact hq|exact hq.1 | (unfold I64; dsimp only; omega) | (unfold I64; omega)))))
theorem mw_fSets (r : Int) (hr : 8 ≤ r ∧ r ≤ 170) : MwOk w0 9 r (bs [115, 101, 116, 115], 0, false) := by
 have hr2 := hr
 have hr : 0 ≤ r ∧ r ≤ 4096 := by omega
 exact mw_pg (m := (_, 267)) (fun _ _ _ => (⟨awP, r⟩ : Fo).sets) (fun v => (v, 0)) (fun _ _ _ => len_bd (Pg.bd_gt0 _) (by decide))
   (fun sh p s l a c hs _ _ => clo_fSets w0 sh p awP r _ s _ _ (fnL (foSets w0 p _ (okF r hr)) (Pg.bd_gt0 _) (by decide) s hs))
   (fun x y z hx hy hz => Rg.nx (Rg.mono (rg_fSets) (fun q hq => by first|exact hq|exact hq.1|exact hq.2 | (unfold I64; dsimp only; omega) | ((repeat' split) <;> first|exact hq|exact hq.1 | (unfold I64; dsimp only; omega) | (unfold I64; omega)))))
end Go.Proofs.YtgdhcgnmffgkiaaGreatDoor
