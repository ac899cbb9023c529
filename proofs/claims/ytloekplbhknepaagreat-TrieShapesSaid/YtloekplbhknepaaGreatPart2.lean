import Derived.Test.YtloekplbhknepaaGreatPart1
import Derived.Test.YtloekplbhknepaaGreatKit
/- Lemmas and walks for the claims of this seat (own work): Tw0 Tw1 Po2 Tw2 Tw3 Tw4 Tw5 Tw6 Tl7 Rg3 Rg4 Rg5. -/
namespace Sim
open Go Go.Vc
open Pg
theorem dig_tmod {h : Int} (h0 : 0 ≤ h) (d : Nat) : (h / 2 ^ (3 * d)).tmod 8 = dig h d := by
  have e : (2 : Int) ^ (3 * d) = 8 ^ d := by rw [Int.pow_mul]; rfl
  rw [e, Int.tmod_eq_emod_of_nonneg (Int.ediv_nonneg h0 (Int.le_of_lt (Int.pow_pos (by decide))))]; rfl
theorem dig_bd8 (h : Int) (d : Nat) : 0 ≤ dig h d ∧ dig h d < 8 := by unfold dig; omega
namespace Tr
variable (T : Tr)
theorem bd_add (c n : Int) : Bd 1 (T.add c n) := by unfold Tr.add; repeat' first | exact bd_pure _ | with_reducible refine bd_ite ?_ ?_ | with_reducible refine bd_then (bd_gt0 _) ?_ (by decide) | with_reducible refine bd_then (bd_pt _ _) ?_ (by decide) | with_reducible refine bd_then bd_mk0 ?_ (by decide) | with_reducible refine bd_then (bd_bk0 _) ?_ (by decide) | intro _
theorem bd_downK (h : Int) : ∀ (k : Nat) (w : TWay), Bd 0 (T.downK h k w)
  | 0, _ => trivial
  | k + 1, w => by unfold Tr.downK; repeat' first | exact bd_downK h k _ | exact bd_pure _ | with_reducible refine bd_ite ?_ ?_ | with_reducible refine bd_then (bd_gt0 _) ?_ (by decide) | with_reducible refine bd_then (bd_pt _ _) ?_ (by decide) | with_reducible refine bd_then bd_mk0 ?_ (by decide) | with_reducible refine bd_then (bd_bk0 _) ?_ (by decide) | intro _
theorem bd_down (h : Int) : Bd 0 (T.down h) := T.bd_downK h _ _
theorem bd_leafK (n : Int) (d : Nat) : ∀ (k : Nat) (c : Int), Bd 0 (T.leafK n d k c)
  | 0, _ => by unfold Tr.leafK; repeat' first | exact bd_pure _ | with_reducible refine bd_ite ?_ ?_ | with_reducible refine bd_then (bd_gt0 _) ?_ (by decide) | with_reducible refine bd_then (bd_pt _ _) ?_ (by decide) | with_reducible refine bd_then bd_mk0 ?_ (by decide) | with_reducible refine bd_then (bd_bk0 _) ?_ (by decide) | intro _
  | k + 1, c => by unfold Tr.leafK; repeat' first | exact bd_leafK n d k _ | exact bd_pure _ | with_reducible refine bd_ite ?_ ?_ | with_reducible refine bd_then (bd_gt0 _) ?_ (by decide) | with_reducible refine bd_then (bd_pt _ _) ?_ (by decide) | with_reducible refine bd_then bd_mk0 ?_ (by decide) | with_reducible refine bd_then (bd_bk0 _) ?_ (by decide) | intro _
theorem bd_leaf (w : TWay) (n : Int) : Bd 0 (T.leaf w n) := T.bd_leafK _ _ _ _
theorem bd_get (n h : Int) : Bd 0 (T.get n h) := by unfold Tr.get; repeat' first | with_reducible refine bd_then (T.bd_down _) ?_ (by decide) | with_reducible refine bd_then (T.bd_leaf _ _) ?_ (by decide) | exact bd_pure _ | with_reducible refine bd_ite ?_ ?_ | with_reducible refine bd_then (bd_gt0 _) ?_ (by decide) | with_reducible refine bd_then (bd_pt _ _) ?_ (by decide) | with_reducible refine bd_then bd_mk0 ?_ (by decide) | with_reducible refine bd_then (bd_bk0 _) ?_ (by decide) | intro _
theorem bd_putsL (a : Int) : ∀ (l : List Int) (i : Int), Bd l.length (putsL a i l)
  | [], _ => bd_pure _
  | v :: l, i => by
    unfold putsL
    refine bd_then (bd_pt _ _) (fun _ => ?_) (by simp)
    rw [List.length_cons, Nat.add_sub_cancel]
    exact bd_putsL a l (i + 1)
theorem bd_take (l : List Int) (hl : l.length ≤ 8) : Bd 11 (T.take l) := by
  unfold Tr.take
  repeat' first | with_reducible refine bd_then (bd_takeP _) ?_ (by decide) | with_reducible refine bd_then ((bd_putsL _ l _).mono hl) ?_ (by decide) | with_reducible refine bd_then (T.bd_add _ _) ?_ (by decide) | exact bd_pure _ | with_reducible refine bd_ite ?_ ?_ | with_reducible refine bd_then (bd_gt0 _) ?_ (by decide) | with_reducible refine bd_then (bd_pt _ _) ?_ (by decide) | with_reducible refine bd_then bd_mk0 ?_ (by decide) | with_reducible refine bd_then (bd_bk0 _) ?_ (by decide) | intro _
theorem bd_splitK (h : Int) : ∀ (k : Nat) (w : TWay), Bd (13 * k) (T.splitK h k w)
  | 0, _ => bd_pure _
  | k + 1, w => by
    unfold Tr.splitK
    refine bd_then (bd_gt0 _) (fun _ => bd_ite (bd_pure _) (bd_then (bd_gt0 _) (fun _ => bd_ite (bd_then (bd_gt0 _) (fun _ => bd_ite (bd_then (T.bd_take _ (by decide)) (fun _ => bd_ite (bd_pure _) (bd_then (bd_pt _ _) (fun _ => bd_then (bd_pt _ _) (fun _ => (bd_splitK h k _).mono (by omega)) (by omega)) (by omega))) (by omega)) (bd_pure _)) (by omega)) (bd_pure _)) (by omega))) (by omega)
theorem bd_split (w : TWay) (h : Int) : Bd 52 (T.split w h) := (T.bd_splitK h _ w).mono (by omega)
theorem bd_newIn (n v : Int) (w : TWay) : Bd 13 (T.newIn n v w) := by
  unfold Tr.newIn
  repeat' first | with_reducible refine bd_then (T.bd_take _ (Nat.le_of_ble_eq_true rfl)) ?_ (by decide) | with_reducible refine bd_then (T.bd_add _ _) ?_ (by decide) | exact bd_pure _ | with_reducible refine bd_ite ?_ ?_ | with_reducible refine bd_then (bd_gt0 _) ?_ (by decide) | with_reducible refine bd_then (bd_pt _ _) ?_ (by decide) | with_reducible refine bd_then bd_mk0 ?_ (by decide) | with_reducible refine bd_then (bd_bk0 _) ?_ (by decide) | intro _
theorem bd_putIn (n h v : Int) : Bd 65 (T.putIn n h v) := by
  unfold Tr.putIn
  repeat' first | exact T.bd_newIn _ _ _ | with_reducible refine bd_then (T.bd_down _) ?_ (by decide) | with_reducible refine bd_then (T.bd_leaf _ _) ?_ (by decide) | with_reducible refine bd_then (T.bd_split _ _) ?_ (by decide) | exact bd_pure _ | with_reducible refine bd_ite ?_ ?_ | with_reducible refine bd_then (bd_gt0 _) ?_ (by decide) | with_reducible refine bd_then (bd_pt _ _) ?_ (by decide) | with_reducible refine bd_then bd_mk0 ?_ (by decide) | with_reducible refine bd_then (bd_bk0 _) ?_ (by decide) | intro _
theorem bd_afterP (m : Nat) (r : (Int × Bool) × Int) : Bd 0 (afterP m r) := by unfold Tr.afterP; repeat' first | exact bd_pure _ | with_reducible refine bd_ite ?_ ?_ | with_reducible refine bd_then (bd_gt0 _) ?_ (by decide) | with_reducible refine bd_then (bd_pt _ _) ?_ (by decide) | with_reducible refine bd_then bd_mk0 ?_ (by decide) | with_reducible refine bd_then (bd_bk0 _) ?_ (by decide) | intro _
theorem bd_put (n h v : Int) : Bd 65 (T.put n h v) := by
  unfold Tr.put
  repeat' first | exact (bd_afterP _ _).mono (by decide) | with_reducible refine bd_then (T.bd_putIn _ _ _) ?_ (by decide) | exact bd_pure _ | with_reducible refine bd_ite ?_ ?_ | with_reducible refine bd_then (bd_gt0 _) ?_ (by decide) | with_reducible refine bd_then (bd_pt _ _) ?_ (by decide) | with_reducible refine bd_then bd_mk0 ?_ (by decide) | with_reducible refine bd_then (bd_bk0 _) ?_ (by decide) | intro _
theorem bd_give (a : Int) : Bd 4 (T.give a) := by
  unfold Tr.give
  repeat' first | with_reducible refine bd_then (bd_giveP _ _) ?_ (by decide) | with_reducible refine bd_then (T.bd_add _ _) ?_ (by decide) | exact bd_pure _ | with_reducible refine bd_ite ?_ ?_ | with_reducible refine bd_then (bd_gt0 _) ?_ (by decide) | with_reducible refine bd_then (bd_pt _ _) ?_ (by decide) | with_reducible refine bd_then bd_mk0 ?_ (by decide) | with_reducible refine bd_then (bd_bk0 _) ?_ (by decide) | intro _
theorem bd_aloneK (b : Int) : ∀ (k : Nat) (i one : Int), Bd 0 (T.aloneK b k i one)
  | 0, _, _ => by unfold Tr.aloneK; repeat' first | exact bd_pure _ | with_reducible refine bd_ite ?_ ?_ | with_reducible refine bd_then (bd_gt0 _) ?_ (by decide) | with_reducible refine bd_then (bd_pt _ _) ?_ (by decide) | with_reducible refine bd_then bd_mk0 ?_ (by decide) | with_reducible refine bd_then (bd_bk0 _) ?_ (by decide) | intro _
  | k + 1, i, one => by unfold Tr.aloneK; repeat' first | exact bd_aloneK b k _ _ | exact bd_pure _ | with_reducible refine bd_ite ?_ ?_ | with_reducible refine bd_then (bd_gt0 _) ?_ (by decide) | with_reducible refine bd_then (bd_pt _ _) ?_ (by decide) | with_reducible refine bd_then bd_mk0 ?_ (by decide) | with_reducible refine bd_then (bd_bk0 _) ?_ (by decide) | intro _
theorem bd_alone (b : Int) : Bd 0 (T.alone b) := T.bd_aloneK _ _ _ _
theorem bd_fold (was : Int) : ∀ (l : List (Int × Int)), Bd (5 * l.length) (T.fold was l)
  | [] => bd_pure _
  | (b, c) :: l => by
    unfold Tr.fold
    rw [List.length_cons]
    refine bd_then (T.bd_alone _) (fun _ => bd_ite (bd_then (bd_pt _ _) (fun _ => bd_then (T.bd_give _) (fun _ => bd_ite (bd_pure _) ((bd_fold was l).mono (by omega))) (by omega)) (by omega)) (bd_pure _)) (by omega)
def WayOk (w : TWay) : Prop := w.bs.length = w.depth ∧ w.cs.length = w.depth ∧ w.depth ≤ 4 ∧ 0 ≤ w.cell ∧ w.cell ≤ 5000 ∧ (∀ b ∈ w.bs, 0 ≤ b ∧ b ≤ 5000)
theorem nodeN_bd (v : Int) : 0 ≤ nodeN v ∧ nodeN v ≤ 4096 := by unfold nodeN; split <;> omega
theorem wayOk_next {w : TWay} (hw : WayOk w) (h4 : w.depth ≠ 4) (v h : Int) : WayOk ⟨w.bs ++ [nodeN v], w.cs ++ [w.cell], nodeN v + dig h w.depth, w.depth + 1⟩ := by
  obtain ⟨h1, h2, h3, h5, h6, h7⟩ := hw
  have := nodeN_bd v
  have := dig_bd8 h w.depth
  refine ⟨by simp [h1], by simp [h2], by dsimp only; omega, by dsimp only; omega, by dsimp only; omega, fun b hb => ?_⟩
  rcases List.mem_append.1 hb with hb | hb
  · exact h7 b hb
  · simp at hb; subst hb; omega
theorem all_downK (h : Int) : ∀ (k : Nat) (w : TWay), WayOk w → All (fun r => WayOk r.1) (T.downK h k w)
  | 0, w, hw => all_pure hw
  | k + 1, w, hw => by
    unfold Tr.downK
    refine all_then fun x => ?_
    refine all_ite (fun _ => ?_) fun _ => all_pure hw
    refine all_then fun y => ?_
    refine all_ite (fun _ => ?_) fun _ => all_pure hw
    refine all_ite (fun _ => all_pure hw) fun h4 => ?_
    exact all_downK h k _ (wayOk_next hw h4 _ h)
theorem all_down (hT : T.Ok) (h : Int) : All (fun r => WayOk r.1) (T.down h) := T.all_downK h 5 _ ⟨rfl, rfl, Nat.zero_le 4, hT.r0, by have := hT.r1; dsimp only; omega, fun b hb => by cases hb⟩
def LeafOk (r : (Int × Int) × Bool) : Prop := 0 ≤ r.1.1 ∧ r.1.1 ≤ 5000 ∧ 0 ≤ r.1.2 ∧ r.1.2 ≤ 5000
theorem leafOk0 : LeafOk ((0, 0), false) := ⟨Int.le_refl 0, by decide, Int.le_refl 0, by decide⟩
theorem leafOk1 {c : Int} (hc : 0 ≤ c ∧ c ≤ 5000) : LeafOk ((c, 0), true) := ⟨hc.1, hc.2, Int.le_refl 0, (by decide : (0 : Int) ≤ 5000)⟩
theorem all_leafK (n : Int) (d : Nat) : ∀ (k : Nat) (c : Int), 0 ≤ c ∧ c ≤ 5000 → All LeafOk (T.leafK n d k c)
  | 0, c, hc => by
    unfold Tr.leafK
    refine all_then fun x => ?_
    refine all_ite (fun _ => all_pure (leafOk1 hc)) fun _ => ?_
    exact all_then fun _ => all_pure leafOk0
  | k + 1, c, hc => by
    unfold Tr.leafK
    refine all_then fun x => ?_
    refine all_ite (fun _ => all_pure (leafOk1 hc)) fun _ => ?_
    refine all_then fun y => ?_
    have := nodeN_bd y
    refine all_ite (fun _ => ?_) fun _ => all_pure leafOk0
    refine all_then fun z => ?_
    refine all_ite (fun _ => all_pure ⟨hc.1, hc.2, by dsimp only; omega, by dsimp only; omega⟩) fun _ => ?_
    exact all_ite (fun _ => all_pure (leafOk1 hc)) fun _ => all_leafK n d k _ (by omega)
theorem all_leaf (w : TWay) (hw : WayOk w) (n : Int) : All LeafOk (T.leaf w n) := T.all_leafK _ _ _ _ ⟨hw.2.2.2.1, hw.2.2.2.2.1⟩
end Tr
end Sim
namespace Go.Proofs.YtloekplbhknepaaGreat
open Go.Vc Sim
set_option maxHeartbeats 4000000
abbrev FnX {α : Type} (w0 : World) (sh : Shared) (f : FuncId) (args : List Value) (p : Nat) (g : Pg α) (Γ0 : List Asn) (R : α → Value → List Asn → Prop) : Prop :=
  ∀ s, Pg.Fits g s → Vc.Fn PP w0 sh f args (SpaceA p s :: Γ0) fun v Γ => ∃ Γ1, Γ = SpaceA p (Pg.run g s).2 :: Γ1 ∧ R (Pg.run g s).1 v Γ1
section
variable {w0 : World} {n : Nat} {sh shf : Shared} {Q : Exit → Env → List Deferred → List Asn → Prop} {k : List Item} {ρ : Env} {df : List Deferred} {Γ Γr Γ0 : List Asn}
variable {ops : Array Oper} {l : List (Fl × Nat × Oper)} {i : Nat} {ty : TypeId} {pos : String} {aft : Array Edge} {dst : Option Tmp}
variable {f : FuncId} {args : List Value} {fo : Operand} {cargs : Array Operand} {ats : Array TypeId} {first cap : Array Value}
theorem reg_callX (is : List Nat) {α β : Type} {R : β × Sp} {g : Pg α} {kk : α → Pg β} {s : Sp} {p : Nat} {RR : α → Value → List Asn → Prop} {φ : α → Prop} (hG : At R (g >>= kk) s) (hφ : Pg.All φ g) (spec : FnX w0 shf f args p g Γ0 RR)
    (hfo : ev ρ fo = .func (.func f) first cap) (hargs : first.toList ++ cargs.toList.map (ev ρ) ++ cap.toList = args)
    (hp : pick is Γ = some (SpaceA p s :: Γ0, Γr)) (hsh : ∀ p ∈ shf, p ∈ sh) (h : ∀ x s' v Γ1, φ x → RR x v Γ1 → At R (kk x) s' → Reg PP w0 n sh Q ops l k (ρ.setO dst v) df (SpaceA p s' :: Γ1 ++ Γr)) :
    Reg PP w0 n sh Q ops ((Fl.loud, i, ⟨dst, .call ⟨.value fo, cargs, ats⟩, ty, pos, aft, none⟩) :: l) k ρ df Γ :=
  zai is (spec s hG.step.1) hfo hargs hp hsh (fun v Γ' ⟨Γ1, e1, e2⟩ => by subst e1; exact h _ _ v Γ1 (Pg.all_run hφ) e2 hG.step.2)
theorem reg_dig {b : Fl} {x y : Operand} {t t2 : TypeId} {d : Tmp} {h : Int} {q : Nat} {l : List (Fl × Nat × Oper)} (hh : 0 ≤ h) (hx : ev ρ x = .int .u64 (h / 2 ^ (3 * q))) (hy : ev ρ y = .int .u64 8) (hr : Reg PP w0 n sh Q ops l k (ρ.set d (.int .u64 (dig h q))) df Γ) :
    Reg PP w0 n sh Q ops ((b, i, ⟨some d, .binOp .rem t x y t2, ty, pos, aft, none⟩) :: l) k ρ df Γ :=
  reg_rem hx hy (by decide) (by rw [dig_tmod hh]; exact hr)
end
instance : TMeth PP 57 (.agg #[]) "Num" 14 := ⟨fun w => by kernel_rfl⟩
instance : TMeth PP 57 (.agg #[]) "Key" 15 := ⟨fun w => by kernel_rfl⟩
instance : TMeth PP 57 (.agg #[]) "Hash" 16 := ⟨fun w => by kernel_rfl⟩
def kV : Value := .iface 57 (.agg #[])
def trV (T : Tr) : Value := .agg #[kV, .int .i64 T.pool.root, .int .i64 T.pool.frm, .int .i64 T.pool.nodes, .int .i64 T.root]
theorem trNode (w0 : World) (T : Tr) (hT : T.Ok) (v : Int) : FnE PP w0 [] 86 [trV T, .int .i64 v] [] (.tuple #[.int .i64 (Tr.nodeN v), .bool (T.nodeB v)]) [] := by
  refine fn_of_run en86 fn86 rfl rfl rfl ?_
  repeat (first | refine zck ?_ | refine zcl ?_ | refine zcm ?_ | refine zcn ?_)
  first | refine zcp (by kernel_rfl) ?_ | refine zcq PP_mixed (by kernel_rfl) (by kernel_rfl) ?_
  repeat' (refine zap rfl ?_; first | refine zan rfl ?_ | refine zaq (cs := [_, _, _, _, _]) rfl (fun nb => ?_))
  all_goals refine zch ?_
  all_goals repeat (first | refine zck ?_ | refine zcl ?_ | refine zcm ?_ | refine zcn ?_)
  refine run_share [0] rfl ?_
  repeat' (first | refine zck ?_ | refine zcp (by kernel_rfl) ?_ | refine zcm ?_ | (refine zap rfl ?_; first | refine zaj rfl ?_ | refine zak rfl ?_ | refine zam rfl rfl (fun _ => ?_) (fun _ => ?_) | refine zan rfl ?_ | refine zan rfl ?_ | refine zaa 0 rfl rfl rfl ?_ | refine zah [] (node_spec w0 T.pool hT.pool _) rfl rfl rfl sub_nil rfl ?_ | refine zao rfl ?_ | refine zan rfl ?_ | refine zbr rfl rfl ?_ | refine zbs rfl rfl ?_ | refine zbu rfl ?_ | refine zbv rfl ?_) | refine zch ?_ | refine zci rfl ?_ | refine run_cond rfl (fun _ => ?_) (fun _ => ?_))
  all_goals refine ret_tmp2 rfl ⟨?_, rfl⟩
  all_goals unfold Tr.nodeN Tr.nodeB
  all_goals first | rw [if_pos (by omega), if_pos (by omega)] | rw [if_neg (by omega), if_neg (by omega)]
  all_goals rfl
theorem trAdd (w0 : World) (p : Nat) (T : Tr) (hT : T.Ok) (c m : Int) (hc : 0 ≤ c ∧ c ≤ 7) : FnG w0 [] 55 [trV T, spP p, .int .i64 c, .int .i64 m] p (T.add c m) encU := by
  have h1 := hT.r0
  have h2 := hT.r1
  intro s hS; have hG := At.start hS; generalize Pg.run _ s = R at hG ⊢
  refine fn_of_run en55 fn55 rfl rfl rfl ?_
  repeat (first | refine zck ?_ | refine zcl ?_ | refine zcm ?_ | refine zcn ?_)
  first | refine zcp (by kernel_rfl) ?_ | refine zcq PP_mixed (by kernel_rfl) (by kernel_rfl) ?_
  repeat' (refine zap rfl ?_; first | refine zaq (cs := [_, _, _, _, _]) rfl (fun nb => ?_))
  all_goals refine zch ?_
  all_goals repeat (first | refine zck ?_ | refine zcl ?_ | refine zcm ?_ | refine zcn ?_)
  refine run_share [1] rfl ?_
  repeat' (first | refine zcq PP_mixed (by kernel_rfl) (by kernel_rfl) ?_ | (refine zap rfl ?_; first | refine reg_add (t := 2) rfl rfl ?_ | refine zan rfl ?_ | refine zaa 0 rfl rfl rfl ?_ | refine reg_callG [0] hG (getG w0 p _) rfl rfl rfl sub_nil (fun u s hG => ?_) | refine reg_callG [0] hG (putG w0 p _ _) rfl rfl rfl sub_nil (fun u s hG => ?_) | refine zao rfl ?_ | refine zau rfl rfl (by omega) ?_) | refine zch ?_)
  rw [hG.done]
  exact end_tmp0 rfl ⟨rfl, rfl⟩
def wayV (a1 : Option Addr) (c1 : Nat) (a2 : Option Addr) (c2 : Nat) (w : TWay) : Value := .agg #[.slice a1 w.bs.length c1, .slice a2 w.cs.length c2, .int .i64 w.cell, .int .i64 (w.depth : Int)]
def WayA (a1 : Option Addr) (c1 : Nat) (a2 : Option Addr) (c2 : Nat) (w : TWay) : List Asn := [SlA 28 1 a1 w.bs.length c1 (intsV w.bs), SlA 28 1 a2 w.cs.length c2 (intsV w.cs)]
def wayR (r : TWay × Bool) (v : Value) (Γ : List Asn) : Prop := ∃ a1 c1 a2 c2, v = .tuple #[wayV a1 c1 a2 c2 r.1, .bool r.2] ∧ Γ = WayA a1 c1 a2 c2 r.1
theorem trDown (w0 : World) (p : Nat) (T : Tr) (hT : T.Ok) (h : Int) (hh : 0 ≤ h) : FnX w0 [] 51 [trV T, spP p, .int .u64 h] p (T.down h) [] wayR := by
  have h1 := hT.r0
  have h2 := hT.r1
  intro s hS; have hG := At.start hS; generalize Pg.run _ s = R at hG ⊢
  unfold Tr.down at hG
  refine fn_of_run en51 fn51 rfl rfl rfl ?_
  repeat (first | refine zck ?_ | refine zcl ?_ | refine zcm ?_ | refine zcn ?_)
  first | refine zcp (by kernel_rfl) ?_ | refine zcq PP_mixed (by kernel_rfl) (by kernel_rfl) ?_
  repeat' (refine zap rfl ?_; first | refine zan rfl ?_ | refine zaq (cs := [_, _, _, _, _]) rfl (fun nb => ?_) | refine zar (fun nb => ?_))
  all_goals refine zch ?_
  all_goals repeat (first | refine zck ?_ | refine zcl ?_ | refine zcm ?_ | refine zcn ?_)
  rename_i tb
  revert nb; intro rb
  refine run_share [1] rfl ?_
  repeat (first | refine zck ?_ | refine zcl ?_ | refine zcm ?_ | refine zcn ?_)
  first | refine zcp (by kernel_rfl) ?_ | refine zcq PP_mixed (by kernel_rfl) (by kernel_rfl) ?_
  repeat' (refine zap rfl ?_; first | refine zaa 0 rfl rfl rfl ?_ | refine zao rfl ?_ | refine zae 2 rfl rfl rfl rfl rfl rfl rfl ?_ | refine zar (fun nb => ?_) | refine zcb rfl ?_)
  all_goals refine zch ?_
  all_goals repeat (first | refine zck ?_ | refine zcl ?_ | refine zcm ?_ | refine zcn ?_)
  refine run_nilslice 28 1 ?_
  refine run_nilslice 28 1 ?_
  refine run_loop (S := Nat × TWay × Sp × (Option Addr × Nat) × (Option Addr × Nat)) (fun st => [(1, spP p), (2, .int .u64 h), (3, .pointer (some ⟨tb, 0, none⟩)), (6, .pointer (some ⟨rb, 0, none⟩)), (8, .pointer (some ⟨nb, 0, none⟩))])
    (fun st Γ => Γ = [SpaceA p st.2.2.1, pt rb (.cells (List.toArray [.slice none 0 0, .slice none 0 0, .int .i64 0, .int .i64 0]) 115 (0, 0)), pt nb (.cells (List.toArray [.slice st.2.2.2.1.1 st.2.1.bs.length st.2.2.2.1.2, .slice st.2.2.2.2.1 st.2.1.cs.length st.2.2.2.2.2, .int .i64 st.2.1.cell, .int .i64 (st.2.1.depth : Int)]) 115 (0, 0)), SlA 28 1 st.2.2.2.1.1 st.2.1.bs.length st.2.2.2.1.2 (intsV st.2.1.bs), SlA 28 1 st.2.2.2.2.1 st.2.1.cs.length st.2.2.2.2.2 (intsV st.2.1.cs)] ∧ At R (T.downK h st.1 st.2.1) st.2.2.1 ∧ st.1 + st.2.1.depth = 5 ∧ Tr.WayOk st.2.1)
    (fun st => st.1) (5, ⟨[], [], T.root, 0⟩, s, (none, 0), (none, 0)) ⟨rfl, rfl, rfl, rfl, rfl, trivial⟩ ⟨rfl, hG, rfl, ⟨rfl, rfl, Nat.zero_le 4, h1, by dsimp only; omega, fun b hb => by cases hb⟩⟩ ?_
  rintro ⟨k, w, s, ⟨a1, c1⟩, ⟨a2, c2⟩⟩ Γ junk ⟨rfl, hG, hk, hw⟩
  dsimp only at hG hk hw ⊢
  obtain ⟨k, rfl⟩ : ∃ q, k = q + 1 := ⟨k - 1, by have := hw.2.2.1; omega⟩
  rw [Tr.downK] at hG
  repeat (first | refine zck ?_ | refine zcl ?_ | refine zcm ?_ | refine zcn ?_)
  first | refine zcp (by kernel_rfl) ?_ | refine zcq PP_mixed (by kernel_rfl) (by kernel_rfl) ?_
  repeat' (refine zap rfl ?_; first | refine zan rfl ?_ | refine zab 2 rfl rfl rfl ?_ | refine reg_callG [0] hG (getG w0 p _) rfl rfl rfl sub_nil (fun u s hG => ?_) | refine zao rfl ?_ | refine zbq rfl rfl ?_)
  all_goals refine zch ?_
  all_goals repeat (first | refine zck ?_ | refine zcl ?_ | refine zcm ?_ | refine zcn ?_)
  refine run_cond rfl (fun hx => ?_) (fun hx => ?_)
  · rw [if_pos hx] at hG
    repeat (first | refine zck ?_ | refine zcl ?_ | refine zcm ?_ | refine zcn ?_)
    first | refine zcp (by kernel_rfl) ?_ | refine zcr [(.quiet, 0), (.quiet, 1), (.quiet, 2), (.read, 3), (.loud, 4), (.quiet, 5), (.loud, 6), (.quiet, 7), (.quiet, 8), (.quiet, 9), (.quiet, 10), (.quiet, 11)] PP_mixed (by kernel_rfl) (by kernel_rfl) ?_ | refine run_drawR PP_mixed (by kernel_rfl) (by kernel_rfl) ?_
    repeat' (refine zap rfl ?_; first | refine reg_neg rfl ?_ | refine zan rfl ?_ | refine zan rfl ?_ | refine zaa 0 rfl rfl rfl ?_ | refine zab 2 rfl rfl rfl ?_ | refine reg_callG [0] hG (getG w0 p _) rfl rfl rfl sub_nil (fun v s hG => ?_) | refine zah [] (trNode w0 T hT _) rfl rfl rfl sub_nil rfl ?_ | refine zao rfl ?_ | refine zan rfl ?_)
    all_goals refine zch ?_
    all_goals repeat (first | refine zck ?_ | refine zcl ?_ | refine zcm ?_ | refine zcn ?_)
    generalize hb : T.nodeB (w64 (0 - v)) = b at hG
    have hb' : T.nodeB (IntKind.i64.wrap (0 - v)) = b := hb
    rw [hb']
    have hnb := Tr.nodeN_bd (IntKind.i64.wrap (0 - v))
    cases b with
    | false =>
      simp only [Bool.false_eq_true, if_false] at hG
      rw [hG.done]
      repeat' (first | refine zck ?_ | refine zcp (by kernel_rfl) ?_ | (refine zap rfl ?_; first | refine zak rfl ?_ | refine zan rfl ?_ | refine zan rfl ?_ | refine zab 2 rfl rfl rfl ?_ | refine zbx rfl ?_ | refine zbu rfl ?_ | refine zae 1 rfl rfl rfl rfl rfl rfl rfl ?_) | refine zch ?_ | refine zci rfl ?_)
      exact qret rfl (fun _ _ h => h) (leaves_nil (ends_take [0, 2, 2] rfl (ends_two rfl (resOk_pt 1 rfl rfl rfl) rfl ⟨rfl, _, rfl, a1, c1, a2, c2, rfl, rfl⟩)))
    | true =>
      simp only [if_true] at hG
      by_cases h4 : w.depth = 4
      · rw [if_pos h4] at hG
        rw [hG.done]
        repeat' (first | refine zck ?_ | refine zcp (by kernel_rfl) ?_ | (refine zap rfl ?_; first | refine zaj rfl ?_ | refine zan rfl ?_ | refine zan rfl ?_ | refine zab 2 rfl rfl rfl ?_ | refine zao rfl ?_ | refine zbc rfl rfl (by omega) ?_ | refine zbx rfl ?_ | refine zbv rfl ?_ | refine zae 1 rfl rfl rfl rfl rfl rfl rfl ?_) | refine zch ?_ | refine zci rfl ?_)
        exact qret rfl (fun _ _ h => h) (leaves_nil (ends_take [0, 2, 2] rfl (ends_two rfl (resOk_pt 1 rfl rfl rfl) rfl ⟨rfl, _, rfl, a1, c1, a2, c2, rfl, rfl⟩)))
      · rw [if_neg h4] at hG
        have hdb := dig_bd8 h w.depth
        obtain ⟨hw1, hw2, hwd, hw4, hw5, hw6⟩ := id hw
        repeat (first | refine zck ?_ | refine zcl ?_ | refine zcm ?_ | refine zcn ?_)
        first | refine zcp (by kernel_rfl) ?_ | refine zcq PP_mixed (by kernel_rfl) (by kernel_rfl) ?_
        repeat' (refine zap rfl ?_; first | refine zaj rfl ?_ | refine zan rfl ?_ | refine zab 2 rfl rfl rfl ?_ | refine zao rfl ?_ | refine zbd rfl rfl (by omega) ?_ | refine zbx rfl ?_ | refine zbv rfl ?_)
        all_goals refine zch ?_
        all_goals repeat (first | refine zck ?_ | refine zcl ?_ | refine zcm ?_ | refine zcn ?_)
        refine zcj rfl ?_
        repeat (first | refine zck ?_ | refine zcl ?_ | refine zcm ?_ | refine zcn ?_)
        refine run_drawT [2] [(.quiet, 0), (.quiet, 1), (.quiet, 2), (.loud, 3), (.loud, 4), (.quiet, 5), (.quiet, 6), (.quiet, 7), (.quiet, 8), (.loud, 9), (.loud, 10), (.quiet, 11)] [(.loud, 12), (.quiet, 13), (.loud, 14)] PP_mixed (by kernel_rfl) (by kernel_rfl) rfl ?_
        repeat' (refine zap rfl ?_; first | refine reg_buildSlice rfl rfl rfl rfl rfl rfl (fun nb2 => ?_) | refine reg_append 2 4 rfl rfl rfl rfl rfl rfl rfl rfl (by first | omega | (dsimp only; omega)) (fun _ _ => rfl) (fun a1' c1' => ?_) | refine reg_append 3 5 rfl rfl rfl rfl rfl rfl rfl rfl (by first | omega | (dsimp only; omega)) (fun _ _ => rfl) (fun a2' c2' => ?_) | refine zan rfl ?_ | refine zaa 0 rfl rfl rfl ?_ | refine zao rfl ?_)
        all_goals refine reg_turn ?_
        all_goals repeat' (refine zap rfl ?_; first | refine zao rfl ?_ | refine zae 0 rfl rfl rfl rfl rfl rfl rfl ?_)
        all_goals refine zch ?_
        all_goals repeat (first | refine zck ?_ | refine zcl ?_ | refine zcm ?_ | refine zcn ?_)
        repeat' (first | refine zcp (by kernel_rfl) ?_ | refine zcn ?_ | (refine zap rfl ?_; first | refine reg_shr (q := 3 * w.depth) rfl (int_eq (by omega)) (by show 3 * w.depth ≤ 64; omega) ?_ | refine reg_dig (q := w.depth) hh rfl rfl ?_ | refine zab 0 rfl rfl rfl ?_ | refine zae 0 rfl rfl rfl rfl rfl rfl rfl ?_ | refine zan rfl ?_ | refine zao rfl ?_ | refine zau rfl rfl (by omega) ?_ | refine zaw rfl rfl (by omega) ?_ | refine zbz rfl (by omega) ?_) | refine zch ?_)
        refine run_take [1, 1, 0, 0, 0] rfl ?_
        have e1 : intsV (w.bs ++ [Tr.nodeN (w64 (0 - v))]) = intsV w.bs ++ [.int .i64 (Tr.nodeN (w64 (0 - v)))] := by simp [intsV]
        have e2 : intsV (w.cs ++ [w.cell]) = intsV w.cs ++ [.int .i64 w.cell] := by simp [intsV]
        have e3 : ((w.depth + 1 : Nat) : Int) = (w.depth : Int) + 1 := by omega
        refine cut_end ⟨rfl, (k, ⟨w.bs ++ [Tr.nodeN (w64 (0 - v))], w.cs ++ [w.cell], Tr.nodeN (w64 (0 - v)) + dig h w.depth, w.depth + 1⟩, s, (a1', c1'), (a2', c2')), ⟨rfl, rfl, rfl, rfl, rfl, trivial⟩, ⟨?_, hG, by dsimp only; omega, Tr.wayOk_next hw h4 _ h⟩, Nat.lt_succ_self k⟩
        dsimp only
        rw [e1, e2, e3, List.length_append, List.length_append]
        rfl
  · rw [if_neg hx] at hG
    rw [hG.done]
    refine cut_exit rfl rfl ?_
    repeat (first | refine zck ?_ | refine zcl ?_ | refine zcm ?_ | refine zcn ?_)
    first | refine zcp (by kernel_rfl) ?_ | refine zcq PP_mixed (by kernel_rfl) (by kernel_rfl) ?_
    repeat' (refine zap rfl ?_; first | refine zan rfl ?_ | refine zab 2 rfl rfl rfl ?_ | refine zae 1 rfl rfl rfl rfl rfl rfl rfl ?_)
    all_goals refine zch ?_
    all_goals repeat (first | refine zck ?_ | refine zcl ?_ | refine zcm ?_ | refine zcn ?_)
    exact run_ret (leaves_nil (ends_take [0, 2, 2] rfl (ends_two rfl (resOk_pt 1 rfl rfl rfl) rfl ⟨rfl, _, rfl, a1, c1, a2, c2, rfl, rfl⟩)))
end Go.Proofs.YtloekplbhknepaaGreat

namespace Sim
open Go
def hsI (n : Int) : Int := IntKind.u64.wrap ((BitVec.ofInt 64 (IntKind.u64.wrap (IntKind.u64.wrap n * 11400714819323198485)) ^^^ BitVec.ofInt 64 (IntKind.u64.wrap (IntKind.u64.wrap n * 11400714819323198485) / 2 ^ 32)).toNat : Nat)
theorem hsI_in (n : Int) : 0 ≤ hsI n ∧ hsI n ≤ 18446744073709551615 := by unfold hsI; rw [IntKind.wrap_u64]; omega
structure Tr.IsI (T : Tr) : Prop where
  hash : T.hash = hsI
  has : ∀ n, T.has n = true
end Sim
namespace Go.Proofs.YtloekplbhknepaaGreat
open Go.Vc Sim
set_option maxHeartbeats 4000000
def encVB (r : Int × Bool) : Value := .tuple #[.int .i64 r.1, .bool r.2]
def encLf (r : (Int × Int) × Bool) : Value := .tuple #[.int .i64 r.1.1, .int .i64 r.1.2, .bool r.2]
theorem trLeaf (w0 : World) (p : Nat) (T : Tr) (hT : T.Ok) (w : TWay) (hw : Tr.WayOk w) (a1 : Option Addr) (c1 : Nat) (a2 : Option Addr) (c2 : Nat) (n : Int) : FnG w0 [] 52 [trV T, spP p, wayV a1 c1 a2 c2 w, .int .i64 n] p (T.leaf w n) encLf := by
  obtain ⟨hw1, hw2, hw3, hw4, hw5, hw6⟩ := id hw
  have hN0 := hT.pool.2.2.2.2.2.1
  have hN1 := hT.nodes
  obtain ⟨N, hN⟩ : ∃ N : Nat, T.pool.nodes = (N : Int) := ⟨T.pool.nodes.toNat, by omega⟩
  have hNt : T.pool.nodes.toNat = N := by omega
  intro s hS; have hG := At.start hS; generalize Pg.run _ s = R at hG ⊢
  unfold Tr.leaf at hG
  rw [hNt] at hG
  refine fn_of_run en52 fn52 rfl rfl rfl ?_
  repeat (first | refine zck ?_ | refine zcl ?_ | refine zcm ?_ | refine zcn ?_)
  first | refine zcp (by kernel_rfl) ?_ | refine zcq PP_mixed (by kernel_rfl) (by kernel_rfl) ?_
  repeat' (refine zap rfl ?_; first | refine zan rfl ?_ | refine zaq (cs := [_, _, _, _]) rfl (fun nb => ?_) | refine zaq (cs := [_, _, _, _, _]) rfl (fun nb => ?_))
  all_goals refine zch ?_
  all_goals repeat (first | refine zck ?_ | refine zcl ?_ | refine zcm ?_ | refine zcn ?_)
  rename_i tb
  revert nb; intro wb
  refine run_share [1] rfl ?_
  refine run_share [1] rfl ?_
  repeat (first | refine zck ?_ | refine zcl ?_ | refine zcm ?_ | refine zcn ?_)
  first | refine zcp (by kernel_rfl) ?_ | refine zcq PP_mixed (by kernel_rfl) (by kernel_rfl) ?_
  repeat' (refine zap rfl ?_; first | refine zan rfl ?_ | refine zaa 0 rfl rfl rfl ?_ | refine zao rfl ?_)
  all_goals refine zch ?_
  all_goals repeat (first | refine zck ?_ | refine zcl ?_ | refine zcm ?_ | refine zcn ?_)
  repeat (first | refine zck ?_ | refine zcl ?_ | refine zcm ?_ | refine zcn ?_)
  first | refine zcp (by kernel_rfl) ?_ | refine zcq PP_mixed (by kernel_rfl) (by kernel_rfl) ?_
  repeat' (refine zap rfl ?_; first | refine zan rfl ?_)
  all_goals refine zch ?_
  all_goals repeat (first | refine zck ?_ | refine zcl ?_ | refine zcm ?_ | refine zcn ?_)
  refine run_loop (S := Nat × Int × Sp) (fun st => [(1, spP p), (3, .int .i64 n), (4, .pointer (some ⟨tb, 0, none⟩)), (6, .pointer (some ⟨wb, 0, none⟩)), (11, .int .i64 st.2.1), (12, .int .i64 (st.1 : Int))])
    (fun st Γ => Γ = [SpaceA p st.2.2] ∧ At R (T.leafK n w.depth (N - st.1) st.2.1) st.2.2 ∧ st.1 ≤ N)
    (fun st => N - st.1) (0, w.cell, s) ⟨rfl, rfl, rfl, rfl, rfl, rfl, trivial⟩ ⟨rfl, hG, Nat.zero_le _⟩ ?_
  rintro ⟨i, c, s⟩ Γ junk ⟨rfl, hG, hi⟩
  dsimp only at hG hi ⊢
  by_cases hlt : i < N
  · obtain ⟨k, hk⟩ : ∃ k, N - i = k + 1 := ⟨N - i - 1, by omega⟩
    rw [hk, Tr.leafK] at hG
    repeat (first | refine zck ?_ | refine zcl ?_ | refine zcm ?_ | refine zcn ?_)
    first | refine zcp (by kernel_rfl) ?_ | refine zcq PP_mixed (by kernel_rfl) (by kernel_rfl) ?_
    repeat' (refine zap rfl ?_; first | refine zan rfl ?_ | refine reg_callG [0] hG (getG w0 p _) rfl rfl rfl sub_nil (fun x s hG => ?_) | refine zbp rfl rfl ?_)
    all_goals refine zch ?_
    all_goals repeat (first | refine zck ?_ | refine zcl ?_ | refine zcm ?_ | refine zcn ?_)
    refine run_cond rfl (fun hx => ?_) (fun hx => ?_)
    · rw [if_neg hx] at hG
      repeat (first | refine zck ?_ | refine zcl ?_ | refine zcm ?_ | refine zcn ?_)
      first | refine zcp (by kernel_rfl) ?_ | refine zcq PP_mixed (by kernel_rfl) (by kernel_rfl) ?_
      repeat' (refine zap rfl ?_; first | refine zan rfl ?_ | refine zan rfl ?_ | refine zaa 1 rfl rfl rfl ?_ | refine reg_callG [0] hG (getG w0 p _) rfl rfl rfl sub_nil (fun v s hG => ?_) | refine zah [] (trNode w0 T hT _) rfl rfl rfl sub_nil rfl ?_ | refine zan rfl ?_)
      all_goals refine zch ?_
      all_goals repeat (first | refine zck ?_ | refine zcl ?_ | refine zcm ?_ | refine zcn ?_)
      have hnb := Tr.nodeN_bd v
      generalize hb : T.nodeB v = b at hG ⊢
      cases b with
      | false =>
        simp only [Bool.false_eq_true, if_false] at hG
        rw [hG.done]
        repeat' (first | refine zck ?_ | refine zcp (by kernel_rfl) ?_ | (refine zap rfl ?_; first | refine zak rfl ?_ | refine zan rfl ?_ | refine zan rfl ?_ | refine zbx rfl ?_ | refine zbu rfl ?_) | refine zch ?_ | refine zci rfl ?_)
        exact qret3 (fun _ _ h => h) rfl ⟨rfl, rfl⟩
      | true =>
        simp only [if_true] at hG
        repeat (first | refine zck ?_ | refine zcl ?_ | refine zcm ?_ | refine zcn ?_)
        first | refine zcp (by kernel_rfl) ?_ | refine zcq PP_mixed (by kernel_rfl) (by kernel_rfl) ?_
        repeat' (refine zap rfl ?_; first | refine zaj rfl ?_ | refine zan rfl ?_ | refine zaa 1 rfl rfl rfl ?_ | refine zao rfl ?_ | refine zbn rfl rfl (by omega) ?_ | refine zbx rfl ?_ | refine zbv rfl ?_)
        all_goals refine zch ?_
        all_goals repeat (first | refine zck ?_ | refine zcl ?_ | refine zcm ?_ | refine zcn ?_)
        refine zcj rfl ?_
        repeat (first | refine zck ?_ | refine zcl ?_ | refine zcm ?_ | refine zcn ?_)
        first | refine zcp (by kernel_rfl) ?_ | refine zcq PP_mixed (by kernel_rfl) (by kernel_rfl) ?_
        repeat' (refine zap rfl ?_; first | refine zan rfl ?_ | refine reg_callG [0] hG (getG w0 p _) rfl rfl rfl sub_nil (fun u s hG => ?_) | refine zbo rfl rfl ?_)
        all_goals refine zch ?_
        all_goals repeat (first | refine zck ?_ | refine zcl ?_ | refine zcm ?_ | refine zcn ?_)
        refine run_cond rfl (fun hz => ?_) (fun hz => ?_)
        · rw [if_pos hz] at hG
          rw [hG.done]
          repeat' (first | refine zck ?_ | refine zcp (by kernel_rfl) ?_ | (refine zap rfl ?_; first | refine zan rfl ?_ | refine zan rfl ?_) | refine zch ?_)
          exact qret3 (fun _ _ h => h) rfl ⟨rfl, rfl⟩
        · rw [if_neg hz] at hG
          by_cases h4 : w.depth < 4
          · rw [if_pos h4] at hG
            rw [hG.done]
            repeat (first | refine zck ?_ | refine zcl ?_ | refine zcm ?_ | refine zcn ?_)
            first | refine zcp (by kernel_rfl) ?_ | refine zcq PP_mixed (by kernel_rfl) (by kernel_rfl) ?_
            repeat' (refine zap rfl ?_; first | refine zaa 0 rfl rfl rfl ?_ | refine zao rfl ?_ | refine zbg rfl rfl (by omega) ?_)
            all_goals refine zch ?_
            all_goals repeat (first | refine zck ?_ | refine zcl ?_ | refine zcm ?_ | refine zcn ?_)
            refine zci rfl ?_
            refine cut_exit rfl rfl ?_
            repeat' (first | refine zck ?_ | refine zcp (by kernel_rfl) ?_ | (refine zap rfl ?_; first | refine zan rfl ?_ | refine zan rfl ?_) | refine zch ?_)
            exact ret_tmp3 rfl ⟨rfl, rfl⟩
          · rw [if_neg h4] at hG
            repeat (first | refine zck ?_ | refine zcl ?_ | refine zcm ?_ | refine zcn ?_)
            first | refine zcp (by kernel_rfl) ?_ | refine zcq PP_mixed (by kernel_rfl) (by kernel_rfl) ?_
            repeat' (refine zap rfl ?_; first | refine zaa 0 rfl rfl rfl ?_ | refine zao rfl ?_ | refine zbh rfl rfl (by omega) ?_)
            all_goals refine zch ?_
            all_goals repeat (first | refine zck ?_ | refine zcl ?_ | refine zcm ?_ | refine zcn ?_)
            refine zcj rfl ?_
            repeat' (first | refine zcp (by kernel_rfl) ?_ | refine zcm ?_ | refine zcn ?_ | (refine zap rfl ?_; first | refine zan rfl ?_ | refine zan rfl ?_ | refine zau rfl rfl (by omega) ?_) | refine zch ?_)
            exact cut_end ⟨rfl, (i + 1, _, s), ⟨rfl, rfl, rfl, rfl, rfl, int_eq (by dsimp only; omega), trivial⟩, ⟨rfl, by dsimp only; rw [show N - (i + 1) = k by omega]; exact hG, hlt⟩, by dsimp only; omega⟩
    · have hx0 : x = 0 := by simpa using hx
      rw [if_pos hx0] at hG
      rw [hG.done]
      refine cut_exit rfl rfl ?_
      repeat' (first | refine zck ?_ | refine zcp (by kernel_rfl) ?_ | (refine zap rfl ?_; first | refine zan rfl ?_ | refine zan rfl ?_) | refine zch ?_)
      exact ret_tmp3 rfl ⟨rfl, rfl⟩
  · have hk : N - i = 0 := by omega
    rw [hk, Tr.leafK] at hG
    repeat (first | refine zck ?_ | refine zcl ?_ | refine zcm ?_ | refine zcn ?_)
    first | refine zcp (by kernel_rfl) ?_ | refine zcq PP_mixed (by kernel_rfl) (by kernel_rfl) ?_
    repeat' (refine zap rfl ?_; first | refine zan rfl ?_ | refine reg_callG [0] hG (getG w0 p _) rfl rfl rfl sub_nil (fun x s hG => ?_) | refine zbp rfl rfl ?_)
    all_goals refine zch ?_
    all_goals repeat (first | refine zck ?_ | refine zcl ?_ | refine zcm ?_ | refine zcn ?_)
    refine run_cond rfl (fun hx => ?_) (fun hx => ?_)
    · rw [if_neg hx] at hG
      repeat (first | refine zck ?_ | refine zcl ?_ | refine zcm ?_ | refine zcn ?_)
      first | refine zcp (by kernel_rfl) ?_ | refine zcq PP_mixed (by kernel_rfl) (by kernel_rfl) ?_
      repeat' (refine zap rfl ?_; first | refine zan rfl ?_ | refine zan rfl ?_ | refine zaa 1 rfl rfl rfl ?_ | refine reg_callG [0] hG (getG w0 p _) rfl rfl rfl sub_nil (fun v s hG => ?_) | refine zah [] (trNode w0 T hT _) rfl rfl rfl sub_nil rfl ?_ | refine zan rfl ?_)
      all_goals refine zch ?_
      all_goals repeat (first | refine zck ?_ | refine zcl ?_ | refine zcm ?_ | refine zcn ?_)
      rw [hG.done]
      generalize hb : T.nodeB v = b
      cases b with
      | false =>
        repeat' (first | refine zck ?_ | refine zcp (by kernel_rfl) ?_ | (refine zap rfl ?_; first | refine zak rfl ?_ | refine zan rfl ?_ | refine zan rfl ?_ | refine zbx rfl ?_ | refine zbu rfl ?_) | refine zch ?_ | refine zci rfl ?_)
        exact qret3 (fun _ _ h => h) rfl ⟨rfl, rfl⟩
      | true =>
        repeat' (first | refine zck ?_ | refine zcp (by kernel_rfl) ?_ | (refine zap rfl ?_; first | refine zaj rfl ?_ | refine zan rfl ?_ | refine zan rfl ?_ | refine zaa 1 rfl rfl rfl ?_ | refine zao rfl ?_ | refine zbm rfl rfl (by omega) ?_ | refine zbx rfl ?_ | refine zbv rfl ?_) | refine zch ?_ | refine zci rfl ?_)
        exact qret3 (fun _ _ h => h) rfl ⟨rfl, rfl⟩
    · have hx0 : x = 0 := by simpa using hx
      rw [if_pos hx0] at hG
      rw [hG.done]
      refine cut_exit rfl rfl ?_
      repeat' (first | refine zck ?_ | refine zcp (by kernel_rfl) ?_ | (refine zap rfl ?_; first | refine zan rfl ?_ | refine zan rfl ?_) | refine zch ?_)
      exact ret_tmp3 rfl ⟨rfl, rfl⟩
theorem trNum (w0 : World) (n : Int) : FnE PP w0 [] 14 [.agg #[], .int .i64 n] [] (.tuple #[.int .i64 n, .bool true]) [] := by
  refine fn_of_run en14 fn14 rfl rfl rfl ?_
  repeat' (first | refine zck ?_ | refine zcp (by kernel_rfl) ?_ | (refine zap rfl ?_; first | refine zan rfl ?_ | refine zan rfl ?_ | refine zaq (cs := []) rfl (fun nb => ?_)) | refine zch ?_)
  refine run_take [] rfl ?_
  exact ret_tmp2 rfl ⟨rfl, rfl⟩
theorem trKey (w0 : World) (n : Int) : FnE PP w0 [] 15 [.agg #[], .int .i64 n] [] (.tuple #[.int .i64 n, .bool true]) [] := by
  refine fn_of_run en15 fn15 rfl rfl rfl ?_
  repeat' (first | refine zck ?_ | refine zcp (by kernel_rfl) ?_ | (refine zap rfl ?_; first | refine zan rfl ?_ | refine zan rfl ?_ | refine zaq (cs := []) rfl (fun nb => ?_)) | refine zch ?_)
  refine run_take [] rfl ?_
  exact ret_tmp2 rfl ⟨rfl, rfl⟩
theorem trHash (w0 : World) (n : Int) : FnE PP w0 [] 16 [.agg #[], .int .i64 n] [] (.int .u64 (hsI n)) [] := by
  refine fn_of_run en16 fn16 rfl rfl rfl ?_
  repeat' (first | refine zck ?_ | refine zcp (by kernel_rfl) ?_ | (refine zap rfl ?_; first | refine reg_shr (q := 32) rfl rfl (by decide) ?_ | refine reg_xor rfl rfl ?_ | refine reg_mul (t := 59) rfl rfl ?_ | refine zan rfl ?_ | refine zan rfl ?_ | refine zaq (cs := []) rfl (fun nb => ?_) | refine zca rfl ?_) | refine zch ?_)
  refine run_take [] rfl ?_
  exact ret_tmp1 rfl ⟨rfl, rfl⟩
theorem trGet (w0 : World) (p : Nat) (T : Tr) (hT : T.Ok) (hI : T.IsI) (n : Int) : FnG w0 [] 24 [trV T, spP p, .int .i64 n] p (T.get n (hsI n)) encVB := by
  intro s hS; have hG := At.start hS; generalize Pg.run _ s = R at hG ⊢
  unfold Tr.get at hG
  refine fn_of_run en24 fn24 rfl rfl rfl ?_
  repeat (first | refine zck ?_ | refine zcl ?_ | refine zcm ?_ | refine zcn ?_)
  first | refine zcp (by kernel_rfl) ?_ | refine zcq PP_mixed (by kernel_rfl) (by kernel_rfl) ?_
  repeat' (refine zap rfl ?_; first | refine zan rfl ?_ | refine zaq (cs := [_, _, _, _, _]) rfl (fun nb => ?_))
  all_goals refine zch ?_
  all_goals repeat (first | refine zck ?_ | refine zcl ?_ | refine zcm ?_ | refine zcn ?_)
  refine run_share [1] rfl ?_
  repeat (first | refine zck ?_ | refine zcl ?_ | refine zcm ?_ | refine zcn ?_)
  first | refine zcp (by kernel_rfl) ?_ | refine zcq PP_mixed (by kernel_rfl) (by kernel_rfl) ?_
  repeat' (refine zap rfl ?_; first | refine zan rfl ?_ | refine zan rfl ?_ | refine zaa 0 rfl rfl rfl ?_ | refine reg_invokeE [] (trNum w0 n) rfl rfl rfl sub_nil rfl ?_ | refine zao rfl ?_ | refine zan rfl ?_)
  all_goals refine zch ?_
  all_goals repeat (first | refine zck ?_ | refine zcl ?_ | refine zcm ?_ | refine zcn ?_)
  repeat (first | refine zck ?_ | refine zcl ?_ | refine zcm ?_ | refine zcn ?_)
  first | refine zcp (by kernel_rfl) ?_ | refine zcq PP_mixed (by kernel_rfl) (by kernel_rfl) ?_
  repeat' (refine zap rfl ?_; first | refine zan rfl ?_ | refine zbx rfl ?_)
  all_goals refine zch ?_
  all_goals repeat (first | refine zck ?_ | refine zcl ?_ | refine zcm ?_ | refine zcn ?_)
  refine zcj rfl ?_
  repeat (first | refine zck ?_ | refine zcl ?_ | refine zcm ?_ | refine zcn ?_)
  first | refine zcp (by kernel_rfl) ?_ | refine zcq PP_mixed (by kernel_rfl) (by kernel_rfl) ?_
  repeat' (refine zap rfl ?_; first | refine zan rfl ?_ | refine zan rfl ?_ | refine zaa 0 rfl rfl rfl ?_ | refine reg_invokeE [] (trHash w0 n) rfl rfl rfl sub_nil rfl ?_ | (refine reg_callX [0] hG (T.all_down hT _) (trDown w0 p T hT _ (hsI_in n).1) rfl rfl rfl sub_nil ?_; rintro w s v Γ1 hw ⟨a1, c1, a2, c2, rfl, rfl⟩ hG) | refine zao rfl ?_ | refine zan rfl ?_ | refine zae 3 rfl rfl rfl rfl rfl rfl rfl ?_ | refine zar (fun nb => ?_))
  all_goals refine zch ?_
  all_goals repeat (first | refine zck ?_ | refine zcl ?_ | refine zcm ?_ | refine zcn ?_)
  obtain ⟨w, ok⟩ := w
  dsimp only at hG hw
  cases ok with
  | false =>
    simp only [Bool.false_eq_true, if_false] at hG
    rw [hG.done]
    repeat' (first | refine zck ?_ | refine zcp (by kernel_rfl) ?_ | (refine zap rfl ?_; first | refine zan rfl ?_ | refine zan rfl ?_ | refine zbx rfl ?_) | refine zch ?_ | refine zci rfl ?_)
    refine run_take [0] rfl ?_
    exact ret_tmp2 rfl ⟨rfl, rfl⟩
  | true =>
    simp only [if_true] at hG
    repeat (first | refine zck ?_ | refine zcl ?_ | refine zcm ?_ | refine zcn ?_)
    first | refine zcp (by kernel_rfl) ?_ | refine zcq PP_mixed (by kernel_rfl) (by kernel_rfl) ?_
    repeat' (refine zap rfl ?_; first | refine zan rfl ?_ | refine zbx rfl ?_)
    all_goals refine zch ?_
    all_goals repeat (first | refine zck ?_ | refine zcl ?_ | refine zcm ?_ | refine zcn ?_)
    refine zcj rfl ?_
    repeat (first | refine zck ?_ | refine zcl ?_ | refine zcm ?_ | refine zcn ?_)
    first | refine zcp (by kernel_rfl) ?_ | refine zcq PP_mixed (by kernel_rfl) (by kernel_rfl) ?_
    repeat' (refine zap rfl ?_; first | refine zan rfl ?_ | refine zan rfl ?_ | refine zaa 0 rfl rfl rfl ?_ | refine zab 3 rfl rfl rfl ?_ | (refine reg_callGP [0] hG (T.all_leaf w hw n) (trLeaf w0 p T hT w hw a1 c1 a2 c2 n) rfl rfl rfl sub_nil (fun l s hl hG => ?_)) | refine zan rfl ?_)
    all_goals refine zch ?_
    all_goals repeat (first | refine zck ?_ | refine zcl ?_ | refine zcm ?_ | refine zcn ?_)
    obtain ⟨⟨c, a⟩, ok⟩ := l
    obtain ⟨hk1, hk2, hk3, hk4⟩ := id hl
    obtain ⟨hl1, hl2, hl3, hl4⟩ := hl
    dsimp only at hG hl1 hl2 hl3 hl4
    cases ok with
    | false =>
      simp only [Bool.false_eq_true, if_false] at hG
      rw [hG.done]
      repeat' (first | refine zck ?_ | refine zcp (by kernel_rfl) ?_ | (refine zap rfl ?_; first | refine zak rfl ?_ | refine zan rfl ?_ | refine zan rfl ?_ | refine zbx rfl ?_ | refine zbu rfl ?_) | refine zch ?_ | refine zci rfl ?_)
      refine run_take [0] rfl ?_
      exact ret_tmp2 rfl ⟨rfl, rfl⟩
    | true =>
      simp only [if_true] at hG
      by_cases ha : a = 0
      · rw [if_pos ha] at hG
        rw [hG.done]
        repeat' (first | refine zck ?_ | refine zcp (by kernel_rfl) ?_ | (refine zap rfl ?_; first | refine zaj rfl ?_ | refine zan rfl ?_ | refine zan rfl ?_ | refine zbc rfl rfl (by omega) ?_ | refine zbx rfl ?_ | refine zbv rfl ?_) | refine zch ?_ | refine zci rfl ?_)
        refine run_take [0] rfl ?_
        exact ret_tmp2 rfl ⟨rfl, rfl⟩
      · rw [if_neg ha] at hG
        repeat' (first | refine zck ?_ | refine zcp (by kernel_rfl) ?_ | refine zcm ?_ | (refine zap rfl ?_; first | refine zaj rfl ?_ | refine zan rfl ?_ | refine zan rfl ?_ | refine reg_callG [0] hG (getG w0 p _) rfl rfl rfl sub_nil (fun u s hG => ?_) | refine zbd rfl rfl (by omega) ?_ | refine zau rfl rfl (by omega) ?_ | refine zbx rfl ?_ | refine zbv rfl ?_) | refine zch ?_ | refine zcj rfl ?_)
        rw [hG.done]
        refine run_take [0] rfl ?_
        exact ret_tmp2 rfl ⟨rfl, rfl⟩
end Go.Proofs.YtloekplbhknepaaGreat

namespace Go.Proofs.YtloekplbhknepaaGreat
open Go.Vc Sim
theorem giveG (w0 : World) (p : Nat) (P : Pl) (hP : P.Ok) (a : Int) : FnG w0 [] 87 [poolV P, spP p, .int .i64 a] p (P.giveP a) (.int .i64) := by
  obtain ⟨_, h1, h2, h3, h4, h5, h6⟩ := id hP
  intro s hF; have hG := At.start hF; generalize Pg.run _ s = R at hG ⊢
  refine fn_of_run en87 fn87 rfl rfl rfl ?_
  repeat (first | refine zck ?_ | refine zcl ?_ | refine zcm ?_ | refine zcn ?_)
  first | refine zcp (by kernel_rfl) ?_ | refine zcq PP_mixed (by kernel_rfl) (by kernel_rfl) ?_
  repeat' (refine zap rfl ?_; first | refine zan rfl ?_ | refine zaq (cs := [_, _, _]) rfl (fun nb => ?_))
  all_goals refine zch ?_
  all_goals repeat (first | refine zck ?_ | refine zcl ?_ | refine zcm ?_ | refine zcn ?_)
  refine run_share [1] rfl ?_
  repeat' (first | refine zck ?_ | refine zcp (by kernel_rfl) ?_ | (refine zap rfl ?_; first | refine zan rfl ?_ | refine zan rfl ?_ | refine zaa 0 rfl rfl rfl ?_ | refine zah [] (node_spec w0 P hP _) rfl rfl rfl sub_nil rfl ?_ | refine zan rfl ?_ | refine zbx rfl ?_) | refine zch ?_)
  refine run_condV rfl (fun hE => ?_) (fun hE => ?_)
  · have hE : P.node a = false := by simpa using hE
    simp only [Pl.giveP, hE, Bool.false_eq_true, if_false] at hG
    repeat' (first | refine zck ?_ | refine zcp (by kernel_rfl) ?_ | (refine zap rfl ?_; first | refine zan rfl ?_) | refine zch ?_)
    rw [hG.done]
    exact ret_tmp1 rfl ⟨rfl, rfl⟩
  · have hE : P.node a = true := by simpa using hE
    simp only [Pl.giveP, hE, if_true] at hG
    repeat' (first | refine zck ?_ | refine zcp (by kernel_rfl) ?_ | refine zcm ?_ | (refine zap rfl ?_; first | refine zan rfl ?_ | refine zan rfl ?_ | refine zaa 0 rfl rfl rfl ?_ | refine reg_callG [0] hG (getG w0 p _) rfl rfl rfl sub_nil (fun x s hG => ?_) | refine reg_callG [0] hG (putG w0 p _ _) rfl rfl rfl sub_nil (fun x s hG => ?_) | refine reg_callG [0] hG (addG w0 p P hP _ _ (by decide)) rfl rfl rfl sub_nil (fun x s hG => ?_) | refine zao rfl ?_) | refine zch ?_)
    rw [hG.done]
    exact ret_tmp1 rfl ⟨rfl, rfl⟩
end Go.Proofs.YtloekplbhknepaaGreat

namespace Go.Proofs.YtloekplbhknepaaGreat
open Go.Vc Sim
set_option maxHeartbeats 4000000
theorem trTake (w0 : World) (p lb : Nat) (T : Tr) (hT : T.Ok) (l : List Int) (hl : l.length ≤ 100) : FnX w0 [] 59 [trV T, spP p, .slice (some ⟨lb, 0, none⟩) l.length l.length] p (T.take l) [pt lb (.cells (List.toArray (intsV l)) 2 (0, 0))] (fun r v Γ => v = encI2 r ∧ Γ = []) := by
  intro s hS; have hG := At.start hS; generalize Pg.run _ s = R at hG ⊢
  unfold Tr.take at hG
  refine fn_of_run en59 fn59 rfl rfl rfl ?_
  refine run_share [1] rfl ?_
  repeat (first | refine zck ?_ | refine zcl ?_ | refine zcm ?_ | refine zcn ?_)
  first | refine zcp (by kernel_rfl) ?_ | refine zcq PP_mixed (by kernel_rfl) (by kernel_rfl) ?_
  repeat' (refine zap rfl ?_; first | refine zan rfl ?_ | refine zaq (cs := [_, _, _, _, _]) rfl (fun nb => ?_))
  all_goals refine zch ?_
  all_goals repeat (first | refine zck ?_ | refine zcl ?_ | refine zcm ?_ | refine zcn ?_)
  refine run_share [1] rfl ?_
  have hR := RdSl.ints (w0 := w0) (sh := (nb, .cells (List.toArray [kV, .int .i64 T.pool.root, .int .i64 T.pool.frm, .int .i64 T.pool.nodes, .int .i64 T.root]) 32 (0, 0)) :: [(lb, .cells (List.toArray (intsV l ++ [])) 2 (0, 0))]) (l := l) (cap := l.length) (spare := []) (.tail _ (.head _)) (Nat.le_refl _)
  rw [List.append_nil] at hR
  repeat (first | refine zck ?_ | refine zcl ?_ | refine zcm ?_ | refine zcn ?_)
  first | refine zcp (by kernel_rfl) ?_ | refine zcq PP_mixed (by kernel_rfl) (by kernel_rfl) ?_
  repeat' (refine zap rfl ?_; first | refine zan rfl ?_ | refine zan rfl ?_ | refine zaa 0 rfl rfl rfl ?_ | refine reg_callG [0] hG (takeG w0 p T.pool hT.pool) rfl rfl rfl sub_nil (fun t s hG => ?_) | refine zao rfl ?_ | refine zan rfl ?_)
  all_goals refine zch ?_
  all_goals repeat (first | refine zck ?_ | refine zcl ?_ | refine zcm ?_ | refine zcn ?_)
  repeat (first | refine zck ?_ | refine zcl ?_ | refine zcm ?_ | refine zcn ?_)
  first | refine zcp (by kernel_rfl) ?_ | refine zcq PP_mixed (by kernel_rfl) (by kernel_rfl) ?_
  repeat' (refine zap rfl ?_; first | refine zan rfl ?_ | refine zbp rfl rfl ?_)
  all_goals refine zch ?_
  all_goals repeat (first | refine zck ?_ | refine zcl ?_ | refine zcm ?_ | refine zcn ?_)
  refine run_cond rfl (fun hE => ?_) (fun hE => ?_)
  · rw [if_pos hE] at hG
    rw [hG.done]
    repeat' (first | refine zck ?_ | refine zcp (by kernel_rfl) ?_ | (refine zap rfl ?_; first | refine zan rfl ?_ | refine zan rfl ?_) | refine zch ?_)
    exact ret_tmp2 rfl ⟨[], rfl, rfl, rfl⟩
  · rw [if_neg hE] at hG
    repeat (first | refine zck ?_ | refine zcl ?_ | refine zcm ?_ | refine zcn ?_)
    first | refine zcp (by kernel_rfl) ?_ | refine zcq PP_mixed (by kernel_rfl) (by kernel_rfl) ?_
    repeat' (refine zap rfl ?_; first | refine zan rfl ?_ | refine zce rfl ?_)
    all_goals refine zch ?_
    all_goals repeat (first | refine zck ?_ | refine zcl ?_ | refine zcm ?_ | refine zcn ?_)
    refine run_loop (S := Nat × Sp) (fun st => [(1, spP p), (3, .pointer (some ⟨nb, 0, none⟩)), (8, .int .i64 t.1), (22, .slice (some ⟨lb, 0, none⟩) l.length l.length), (23, .int .i64 (l.length : Int)), (24, .int .i64 (st.1 : Int))])
      (fun st Γ => Γ = [SpaceA p st.2] ∧ At R (Tr.putsL t.1 (st.1 : Int) (l.drop st.1) >>= fun _ => T.add 7 1 >>= fun _ => Pg.ret (t.1, 0)) st.2 ∧ st.1 ≤ l.length)
      (fun st => l.length - st.1) (0, s) ⟨rfl, rfl, rfl, rfl, rfl, rfl, trivial⟩ ⟨rfl, hG, Nat.zero_le _⟩ ?_
    rintro ⟨i, s⟩ Γ junk ⟨rfl, hG, hi⟩
    dsimp only at hG hi ⊢
    by_cases hlt : i < l.length
    · obtain ⟨v, hv⟩ : ∃ v, l[i]? = some v := ⟨l[i], List.getElem?_eq_getElem hlt⟩
      rw [show l.drop i = v :: l.drop (i + 1) by rw [List.drop_eq_getElem_cons hlt]; congr 1; exact (Option.some.inj ((List.getElem?_eq_getElem hlt).symm.trans hv))] at hG
      unfold Tr.putsL at hG
      rw [Pg.bind_assoc] at hG
      obtain ⟨bb, off, cc, TT, fr, e2, hm, hr⟩ := hR.at hv
      cases e2
      repeat' (first | refine zck ?_ | refine zcp (by kernel_rfl) ?_ | refine zcm ?_ | refine zcl ?_ | refine zcn ?_ | (refine zap rfl ?_; first | refine zad rfl hm (hr _ (by omega)) ?_ | refine reg_add (t := 28) rfl rfl ?_ | refine zan rfl ?_ | refine zan rfl ?_ | refine reg_callG [0] hG (putG w0 p _ _) rfl rfl rfl sub_nil (fun u s hG => ?_) | refine zbg rfl rfl (by omega) ?_ | refine zau rfl rfl (by omega) ?_ | refine zas rfl rfl (by omega) ?_) | refine zch ?_ | refine zci rfl ?_)
      exact cut_end ⟨rfl, (i + 1, s), ⟨rfl, rfl, rfl, rfl, rfl, int_eq (by dsimp only; omega), trivial⟩, ⟨rfl, by dsimp only; rw [show ((i + 1 : Nat) : Int) = (i : Int) + 1 by omega]; exact hG, hlt⟩, by dsimp only; omega⟩
    · have hi2 : i = l.length := by omega
      rw [hi2, List.drop_length] at hG
      unfold Tr.putsL at hG
      rw [Pg.pure_bind] at hG
      repeat' (first | refine zck ?_ | refine zcp (by kernel_rfl) ?_ | (refine zap rfl ?_; first | refine zbh rfl rfl (by omega) ?_) | refine zch ?_ | refine zcj rfl ?_)
      refine cut_exit rfl rfl ?_
      repeat' (first | refine zck ?_ | refine zcp (by kernel_rfl) ?_ | (refine zap rfl ?_; first | refine zan rfl ?_ | refine zan rfl ?_ | refine zaa 0 rfl rfl rfl ?_ | refine reg_callG [0] hG (trAdd w0 p T hT _ _ (by decide)) rfl rfl rfl sub_nil (fun u s hG => ?_)) | refine zch ?_)
      rw [hG.done]
      exact ret_tmp2 rfl ⟨[], rfl, rfl, rfl⟩
theorem trGive (w0 : World) (p : Nat) (T : Tr) (hT : T.Ok) (a : Int) : FnG w0 [] 54 [trV T, spP p, .int .i64 a] p (T.give a) (.int .i64) := by
  intro s hS; have hG := At.start hS; generalize Pg.run _ s = R at hG ⊢
  unfold Tr.give at hG
  refine fn_of_run en54 fn54 rfl rfl rfl ?_
  repeat (first | refine zck ?_ | refine zcl ?_ | refine zcm ?_ | refine zcn ?_)
  first | refine zcp (by kernel_rfl) ?_ | refine zcq PP_mixed (by kernel_rfl) (by kernel_rfl) ?_
  repeat' (refine zap rfl ?_; first | refine zan rfl ?_ | refine zaq (cs := [_, _, _, _, _]) rfl (fun nb => ?_))
  all_goals refine zch ?_
  all_goals repeat (first | refine zck ?_ | refine zcl ?_ | refine zcm ?_ | refine zcn ?_)
  refine run_share [1] rfl ?_
  repeat (first | refine zck ?_ | refine zcl ?_ | refine zcm ?_ | refine zcn ?_)
  first | refine zcp (by kernel_rfl) ?_ | refine zcq PP_mixed (by kernel_rfl) (by kernel_rfl) ?_
  repeat' (refine zap rfl ?_; first | refine zan rfl ?_ | refine zan rfl ?_ | refine zaa 0 rfl rfl rfl ?_ | refine reg_callG [0] hG (giveG w0 p T.pool hT.pool a) rfl rfl rfl sub_nil (fun t s hG => ?_) | refine zao rfl ?_)
  all_goals refine zch ?_
  all_goals repeat (first | refine zck ?_ | refine zcl ?_ | refine zcm ?_ | refine zcn ?_)
  repeat (first | refine zck ?_ | refine zcl ?_ | refine zcm ?_ | refine zcn ?_)
  first | refine zcp (by kernel_rfl) ?_ | refine zcq PP_mixed (by kernel_rfl) (by kernel_rfl) ?_
  repeat' (refine zap rfl ?_; first | refine zan rfl ?_ | refine zbp rfl rfl ?_)
  all_goals refine zch ?_
  all_goals repeat (first | refine zck ?_ | refine zcl ?_ | refine zcm ?_ | refine zcn ?_)
  refine run_cond rfl (fun hE => ?_) (fun hE => ?_)
  · rw [if_pos hE] at hG
    rw [hG.done]
    repeat' (first | refine zck ?_ | refine zcp (by kernel_rfl) ?_ | (refine zap rfl ?_; first | refine zan rfl ?_ | refine zan rfl ?_) | refine zch ?_)
    exact ret_tmp1 rfl ⟨rfl, rfl⟩
  · rw [if_neg hE] at hG
    repeat' (first | refine zck ?_ | refine zcp (by kernel_rfl) ?_ | refine zcm ?_ | (refine zap rfl ?_; first | refine zan rfl ?_ | refine zan rfl ?_ | refine zaa 0 rfl rfl rfl ?_ | refine reg_callG [0] hG (trAdd w0 p T hT _ _ (by decide)) rfl rfl rfl sub_nil (fun u s hG => ?_)) | refine zch ?_)
    rw [hG.done]
    exact ret_tmp1 rfl ⟨rfl, rfl⟩
theorem trAlone (w0 : World) (p : Nat) (T : Tr) (hT : T.Ok) (b : Int) (hb : 0 ≤ b ∧ b ≤ 5000) : FnG w0 [] 56 [trV T, spP p, .int .i64 b] p (T.alone b) encVB := by
  intro s hS; have hG := At.start hS; generalize Pg.run _ s = R at hG ⊢
  unfold Tr.alone at hG
  refine fn_of_run en56 fn56 rfl rfl rfl ?_
  repeat (first | refine zck ?_ | refine zcl ?_ | refine zcm ?_ | refine zcn ?_)
  first | refine zcp (by kernel_rfl) ?_ | refine zcq PP_mixed (by kernel_rfl) (by kernel_rfl) ?_
  repeat' (refine zap rfl ?_; first | refine zan rfl ?_ | refine zaq (cs := [_, _, _, _, _]) rfl (fun nb => ?_))
  all_goals refine zch ?_
  all_goals repeat (first | refine zck ?_ | refine zcl ?_ | refine zcm ?_ | refine zcn ?_)
  refine run_share [1] rfl ?_
  repeat (first | refine zck ?_ | refine zcl ?_ | refine zcm ?_ | refine zcn ?_)
  first | refine zcp (by kernel_rfl) ?_ | refine zcq PP_mixed (by kernel_rfl) (by kernel_rfl) ?_
  repeat' (refine zap rfl ?_; first | refine zan rfl ?_)
  all_goals refine zch ?_
  all_goals repeat (first | refine zck ?_ | refine zcl ?_ | refine zcm ?_ | refine zcn ?_)
  repeat (first | refine zck ?_ | refine zcl ?_ | refine zcm ?_ | refine zcn ?_)
  first | refine zcp (by kernel_rfl) ?_ | refine zcq PP_mixed (by kernel_rfl) (by kernel_rfl) ?_
  repeat' (refine zap rfl ?_; first | refine zan rfl ?_)
  all_goals refine zch ?_
  all_goals repeat (first | refine zck ?_ | refine zcl ?_ | refine zcm ?_ | refine zcn ?_)
  refine run_loop (S := Nat × Int × Sp) (fun st => [(1, spP p), (2, .int .i64 b), (3, .pointer (some ⟨nb, 0, none⟩)), (8, .int .i64 st.2.1), (13, .int .i64 (st.1 : Int))])
    (fun st Γ => Γ = [SpaceA p st.2.2] ∧ At R (T.aloneK b (8 - st.1) (st.1 : Int) st.2.1) st.2.2 ∧ st.1 ≤ 8)
    (fun st => 8 - st.1) (0, 0, s) ⟨rfl, rfl, rfl, rfl, rfl, trivial⟩ ⟨rfl, hG, Nat.zero_le 8⟩ ?_
  rintro ⟨i, one, s⟩ Γ junk ⟨rfl, hG, hi⟩
  dsimp only at hG hi ⊢
  by_cases hlt : i < 8
  · obtain ⟨k, hk⟩ : ∃ k, 8 - i = k + 1 := ⟨7 - i, by omega⟩
    rw [hk, Tr.aloneK] at hG
    repeat (first | refine zck ?_ | refine zcl ?_ | refine zcm ?_ | refine zcn ?_)
    first | refine zcp (by kernel_rfl) ?_ | refine zcq PP_mixed (by kernel_rfl) (by kernel_rfl) ?_
    repeat' (refine zap rfl ?_; first | refine zbg rfl rfl (by omega) ?_)
    all_goals refine zch ?_
    all_goals repeat (first | refine zck ?_ | refine zcl ?_ | refine zcm ?_ | refine zcn ?_)
    refine zci rfl ?_
    repeat (first | refine zck ?_ | refine zcl ?_ | refine zcm ?_ | refine zcn ?_)
    first | refine zcp (by kernel_rfl) ?_ | refine zcq PP_mixed (by kernel_rfl) (by kernel_rfl) ?_
    repeat' (refine zap rfl ?_; first | refine zan rfl ?_ | refine zan rfl ?_)
    all_goals refine zch ?_
    all_goals repeat (first | refine zck ?_ | refine zcl ?_ | refine zcm ?_ | refine zcn ?_)
    repeat (first | refine zck ?_ | refine zcl ?_ | refine zcm ?_ | refine zcn ?_)
    first | refine zcp (by kernel_rfl) ?_ | refine zcq PP_mixed (by kernel_rfl) (by kernel_rfl) ?_
    repeat' (refine zap rfl ?_; first | refine zan rfl ?_ | refine zan rfl ?_ | refine reg_callG [0] hG (getG w0 p _) rfl rfl rfl sub_nil (fun x s hG => ?_) | refine zau rfl rfl (by omega) ?_)
    all_goals refine zch ?_
    all_goals repeat (first | refine zck ?_ | refine zcl ?_ | refine zcm ?_ | refine zcn ?_)
    by_cases h1 : x < 0
    · rw [if_pos h1] at hG
      rw [hG.done]
      repeat' (first | refine zck ?_ | refine zcp (by kernel_rfl) ?_ | (refine zap rfl ?_; first | refine zak rfl ?_ | refine zal rfl ?_ | refine zan rfl ?_ | refine zan rfl ?_ | refine zbg rfl rfl (by omega) ?_ | refine zbu rfl ?_) | refine zch ?_ | refine zci rfl ?_)
      exact qret2 (fun _ _ h => h) rfl ⟨rfl, rfl⟩
    · rw [if_neg h1] at hG
      by_cases h2 : x = 0
      · rw [if_pos h2] at hG
        repeat' (first | refine zck ?_ | refine zcp (by kernel_rfl) ?_ | refine zcm ?_ | refine zcn ?_ | (refine zap rfl ?_; first | refine zaj rfl ?_ | refine zak rfl ?_ | refine zan rfl ?_ | refine zbf rfl rfl (by omega) ?_ | refine zbh rfl rfl (by omega) ?_ | refine zau rfl rfl (by omega) ?_ | refine zbv rfl ?_) | refine zch ?_ | refine zcj rfl ?_)
        exact cut_end ⟨rfl, (i + 1, one, s), ⟨rfl, rfl, rfl, rfl, int_eq (by dsimp only; omega), trivial⟩, ⟨rfl, by dsimp only; rw [show 8 - (i + 1) = k by omega, show ((i + 1 : Nat) : Int) = (i : Int) + 1 by omega]; exact hG, hlt⟩, by dsimp only; omega⟩
      · rw [if_neg h2] at hG
        by_cases h3 : one = 0
        · rw [if_pos h3] at hG
          repeat' (first | refine zck ?_ | refine zcp (by kernel_rfl) ?_ | refine zcm ?_ | refine zcn ?_ | (refine zap rfl ?_; first | refine zaj rfl ?_ | refine zan rfl ?_ | refine zan rfl ?_ | refine zbe rfl rfl (by omega) ?_ | refine zbf rfl rfl (by omega) ?_ | refine zbh rfl rfl (by omega) ?_ | refine zau rfl rfl (by omega) ?_ | refine zbu rfl ?_ | refine zbv rfl ?_) | refine zch ?_ | refine zci rfl ?_ | refine zcj rfl ?_)
          exact cut_end ⟨rfl, (i + 1, x, s), ⟨rfl, rfl, rfl, rfl, int_eq (by dsimp only; omega), trivial⟩, ⟨rfl, by dsimp only; rw [show 8 - (i + 1) = k by omega, show ((i + 1 : Nat) : Int) = (i : Int) + 1 by omega]; exact hG, hlt⟩, by dsimp only; omega⟩
        · rw [if_neg h3] at hG
          rw [hG.done]
          repeat' (first | refine zck ?_ | refine zcp (by kernel_rfl) ?_ | (refine zap rfl ?_; first | refine zaj rfl ?_ | refine zan rfl ?_ | refine zan rfl ?_ | refine zbe rfl rfl (by omega) ?_ | refine zbh rfl rfl (by omega) ?_ | refine zbu rfl ?_ | refine zbv rfl ?_) | refine zch ?_ | refine zci rfl ?_)
          exact qret2 (fun _ _ h => h) rfl ⟨rfl, rfl⟩
  · have hk : 8 - i = 0 := by omega
    rw [hk, Tr.aloneK] at hG
    repeat (first | refine zck ?_ | refine zcl ?_ | refine zcm ?_ | refine zcn ?_)
    first | refine zcp (by kernel_rfl) ?_ | refine zcq PP_mixed (by kernel_rfl) (by kernel_rfl) ?_
    repeat' (refine zap rfl ?_; first | refine zbh rfl rfl (by omega) ?_)
    all_goals refine zch ?_
    all_goals repeat (first | refine zck ?_ | refine zcl ?_ | refine zcm ?_ | refine zcn ?_)
    refine zcj rfl ?_
    refine cut_exit rfl rfl ?_
    repeat (first | refine zck ?_ | refine zcl ?_ | refine zcm ?_ | refine zcn ?_)
    first | refine zcp (by kernel_rfl) ?_ | refine zcq PP_mixed (by kernel_rfl) (by kernel_rfl) ?_
    repeat' (refine zap rfl ?_; first | refine zan rfl ?_ | refine zbo rfl rfl ?_)
    all_goals refine zch ?_
    all_goals repeat (first | refine zck ?_ | refine zcl ?_ | refine zcm ?_ | refine zcn ?_)
    refine run_cond rfl (fun h0 => ?_) (fun h0 => ?_)
    · rw [if_pos h0] at hG
      rw [hG.done]
      repeat' (first | refine zck ?_ | refine zcp (by kernel_rfl) ?_ | (refine zap rfl ?_; first | refine zan rfl ?_) | refine zch ?_)
      exact ret_tmp2 rfl ⟨rfl, rfl⟩
    · rw [if_neg h0] at hG
      repeat (first | refine zck ?_ | refine zcl ?_ | refine zcm ?_ | refine zcn ?_)
      first | refine zcp (by kernel_rfl) ?_ | refine zcq PP_mixed (by kernel_rfl) (by kernel_rfl) ?_
      repeat' (refine zap rfl ?_; first | refine zan rfl ?_ | refine zan rfl ?_ | refine zaa 0 rfl rfl rfl ?_ | refine zah [] (trNode w0 T hT _) rfl rfl rfl sub_nil rfl ?_ | refine zan rfl ?_)
      all_goals refine zch ?_
      all_goals repeat (first | refine zck ?_ | refine zcl ?_ | refine zcm ?_ | refine zcn ?_)
      have hnb := Tr.nodeN_bd one
      generalize hbb : T.nodeB one = bb at hG ⊢
      cases bb with
      | false =>
        simp only [Bool.false_eq_true, if_false] at hG
        rw [hG.done]
        repeat' (first | refine zcp (by kernel_rfl) ?_ | (refine zap rfl ?_; first | refine zak rfl ?_ | refine zan rfl ?_ | refine zan rfl ?_ | refine zbv rfl ?_) | refine zch ?_)
        exact ret_tmp2 rfl ⟨rfl, rfl⟩
      | true =>
        simp only [if_true] at hG
        repeat' (first | refine zcp (by kernel_rfl) ?_ | (refine zap rfl ?_; first | refine zaj rfl ?_ | refine zan rfl ?_ | refine zan rfl ?_ | refine reg_callG [0] hG (getG w0 p _) rfl rfl rfl sub_nil (fun x s hG => ?_) | refine zau rfl rfl (by omega) ?_ | refine zbo rfl rfl ?_ | refine zbu rfl ?_) | refine zch ?_)
        rw [hG.done]
        exact ret_tmp2 rfl ⟨rfl, rfl⟩
end Go.Proofs.YtloekplbhknepaaGreat

namespace Sim.Pg
theorem all_triv {α : Type} : ∀ (g : Pg α), All (fun _ => True) g
  | ret _ => trivial
  | get _ k => fun v => all_triv (k v)
  | put _ _ k => all_triv k
  | mark k => fun m => all_triv (k m)
  | back _ k => all_triv k
end Sim.Pg
namespace Go.Proofs.YtloekplbhknepaaGreat
open Go.Vc Sim
set_option maxHeartbeats 4000000
theorem trSplit (w0 : World) (p : Nat) (T : Tr) (hT : T.Ok) (hI : T.IsI) (w : TWay) (hw : w.depth ≤ 4) (a1 : Option Addr) (c1 : Nat) (a2 : Option Addr) (c2 : Nat) (h : Int) (hh : 0 ≤ h) :
    FnX w0 [] 58 [trV T, spP p, wayV a1 c1 a2 c2 w, .int .u64 h] p (T.split w h) [] (fun r v Γ => v = .tuple #[wayV a1 c1 a2 c2 r.1, .int .i64 r.2] ∧ Γ = []) := by
  intro s hS; have hG := At.start hS; generalize Pg.run _ s = R at hG ⊢
  unfold Tr.split at hG
  refine fn_of_run en58 fn58 rfl rfl rfl ?_
  repeat (first | refine zck ?_ | refine zcl ?_ | refine zcm ?_ | refine zcn ?_)
  first | refine zcp (by kernel_rfl) ?_ | refine zcq PP_mixed (by kernel_rfl) (by kernel_rfl) ?_
  repeat' (refine zap rfl ?_; first | refine zan rfl ?_ | refine zaq (cs := [_, _, _, _]) rfl (fun nb => ?_) | refine zaq (cs := [_, _, _, _, _]) rfl (fun nb => ?_) | refine zar (fun nb => ?_))
  all_goals refine zch ?_
  all_goals repeat (first | refine zck ?_ | refine zcl ?_ | refine zcm ?_ | refine zcn ?_)
  rename_i tb wb
  revert nb; intro rb
  refine run_share [1] rfl ?_
  refine run_loop (S := TWay × Sp) (fun st => [(1, spP p), (3, .int .u64 h), (4, .pointer (some ⟨tb, 0, none⟩)), (6, .pointer (some ⟨wb, 0, none⟩)), (8, .pointer (some ⟨rb, 0, none⟩))])
    (fun st Γ => Γ = [SpaceA p st.2, pt wb (.cells (List.toArray [.slice a1 w.bs.length c1, .slice a2 w.cs.length c2, .int .i64 st.1.cell, .int .i64 (st.1.depth : Int)]) 115 (0, 0)), pt rb (.cells (List.toArray [.slice none 0 0, .slice none 0 0, .int .i64 0, .int .i64 0]) 115 (0, 0))] ∧ At R (T.splitK h (4 - st.1.depth) st.1) st.2 ∧ st.1.depth ≤ 4 ∧ st.1.bs = w.bs ∧ st.1.cs = w.cs)
    (fun st => 4 - st.1.depth) (w, s) ⟨rfl, rfl, rfl, rfl, rfl, trivial⟩ ⟨rfl, hG, hw, rfl, rfl⟩ ?_
  rintro ⟨⟨bs, cs, cell, d⟩, s⟩ Γ junk ⟨rfl, hG, hd, rfl, rfl⟩
  dsimp only at hG hd ⊢
  by_cases h4 : d < 4
  · obtain ⟨k, hk⟩ : ∃ k, 4 - d = k + 1 := ⟨3 - d, by omega⟩
    rw [hk, Tr.splitK] at hG
    dsimp only at hG
    repeat (first | refine zck ?_ | refine zcl ?_ | refine zcm ?_ | refine zcn ?_)
    first | refine zcp (by kernel_rfl) ?_ | refine zcq PP_mixed (by kernel_rfl) (by kernel_rfl) ?_
    repeat' (refine zap rfl ?_; first | refine zaj rfl ?_ | refine zan rfl ?_ | refine zab 1 rfl rfl rfl ?_ | refine reg_callG [0] hG (getG w0 p _) rfl rfl rfl sub_nil (fun x s hG => ?_) | refine zao rfl ?_ | refine zbg rfl rfl (by omega) ?_ | refine zbp rfl rfl ?_ | refine zbu rfl ?_)
    all_goals refine zch ?_
    all_goals repeat (first | refine zck ?_ | refine zcl ?_ | refine zcm ?_ | refine zcn ?_)
    refine run_cond rfl (fun hx => ?_) (fun hx => ?_)
    · rw [if_neg hx] at hG
      repeat (first | refine zck ?_ | refine zcl ?_ | refine zcm ?_ | refine zcn ?_)
      first | refine zcp (by kernel_rfl) ?_ | refine zcq PP_mixed (by kernel_rfl) (by kernel_rfl) ?_
      repeat' (refine zap rfl ?_; first | refine zan rfl ?_ | refine zan rfl ?_ | refine zab 1 rfl rfl rfl ?_ | refine reg_callG [0] hG (getG w0 p _) rfl rfl rfl sub_nil (fun v s hG => ?_) | refine zao rfl ?_)
      all_goals refine zch ?_
      all_goals repeat (first | refine zck ?_ | refine zcl ?_ | refine zcm ?_ | refine zcn ?_)
      repeat (first | refine zck ?_ | refine zcl ?_ | refine zcm ?_ | refine zcn ?_)
      first | refine zcp (by kernel_rfl) ?_ | refine zcq PP_mixed (by kernel_rfl) (by kernel_rfl) ?_
      repeat' (refine zap rfl ?_; first | refine zan rfl ?_ | refine zan rfl ?_ | refine zaa 0 rfl rfl rfl ?_ | refine zah [] (trNode w0 T hT _) rfl rfl rfl sub_nil rfl ?_ | refine zan rfl ?_)
      all_goals refine zch ?_
      all_goals repeat (first | refine zck ?_ | refine zcl ?_ | refine zcm ?_ | refine zcn ?_)
      generalize hb : T.nodeB v = b at hG ⊢
      cases b with
      | false =>
        simp only [Bool.false_eq_true, if_false] at hG
        rw [hG.done]
        repeat' (first | refine zck ?_ | refine zcp (by kernel_rfl) ?_ | (refine zap rfl ?_; first | refine zan rfl ?_ | refine zan rfl ?_ | refine zab 1 rfl rfl rfl ?_ | refine zbx rfl ?_ | refine zae 2 rfl rfl rfl rfl rfl rfl rfl ?_) | refine zch ?_ | refine zci rfl ?_)
        exact qret rfl (fun _ _ h => h) (leaves_nil (ends_take [0] rfl (ends_two rfl (resOk_pt 2 rfl rfl rfl) rfl ⟨rfl, [], rfl, rfl, rfl⟩)))
      | true =>
        simp only [if_true] at hG
        repeat (first | refine zck ?_ | refine zcl ?_ | refine zcm ?_ | refine zcn ?_)
        first | refine zcp (by kernel_rfl) ?_ | refine zcq PP_mixed (by kernel_rfl) (by kernel_rfl) ?_
        repeat' (refine zap rfl ?_; first | refine zan rfl ?_ | refine zbx rfl ?_)
        all_goals refine zch ?_
        all_goals repeat (first | refine zck ?_ | refine zcl ?_ | refine zcm ?_ | refine zcn ?_)
        refine zcj rfl ?_
        repeat (first | refine zck ?_ | refine zcl ?_ | refine zcm ?_ | refine zcn ?_)
        first | refine zcp (by kernel_rfl) ?_ | refine zcq PP_mixed (by kernel_rfl) (by kernel_rfl) ?_
        repeat' (refine zap rfl ?_; first | refine reg_nilI rfl ?_ | refine zan rfl ?_ | refine zan rfl ?_ | refine zaa 0 rfl rfl rfl ?_ | refine reg_callG [0] hG (getG w0 p _) rfl rfl rfl sub_nil (fun o s hG => ?_) | refine reg_invokeE [] (trKey w0 _) rfl rfl rfl sub_nil rfl ?_ | refine zao rfl ?_ | refine zan rfl ?_)
        all_goals refine zch ?_
        all_goals repeat (first | refine zck ?_ | refine zcl ?_ | refine zcm ?_ | refine zcn ?_)
        rw [if_pos (hI.has o)] at hG
        repeat (first | refine zck ?_ | refine zcl ?_ | refine zcm ?_ | refine zcn ?_)
        first | refine zcp (by kernel_rfl) ?_ | refine zcq PP_mixed (by kernel_rfl) (by kernel_rfl) ?_
        repeat' (refine zap rfl ?_; first | refine zan rfl ?_ | refine zbx rfl ?_)
        all_goals refine zch ?_
        all_goals repeat (first | refine zck ?_ | refine zcl ?_ | refine zcm ?_ | refine zcn ?_)
        refine zcj rfl ?_
        repeat (first | refine zck ?_ | refine zcl ?_ | refine zcm ?_ | refine zcn ?_)
        first | refine zcp (by kernel_rfl) ?_ | refine zcq PP_mixed (by kernel_rfl) (by kernel_rfl) ?_
        repeat' (refine zap rfl ?_; first | refine reg_makeSlice rfl rfl rfl (by decide) (by decide) (fun lb => ?_) | refine zan rfl ?_ | refine zan rfl ?_ | refine zaa 0 rfl rfl rfl ?_ | (refine reg_callX [0, 2] hG (Pg.all_triv _) (trTake w0 p _ T hT (List.replicate 8 0) (by decide)) rfl rfl rfl sub_nil ?_; rintro b s v' Γ1 _ ⟨rfl, rfl⟩ hG) | refine zan rfl ?_)
        all_goals refine zch ?_
        all_goals repeat (first | refine zck ?_ | refine zcl ?_ | refine zcm ?_ | refine zcn ?_)
        repeat (first | refine zck ?_ | refine zcl ?_ | refine zcm ?_ | refine zcn ?_)
        first | refine zcp (by kernel_rfl) ?_ | refine zcq PP_mixed (by kernel_rfl) (by kernel_rfl) ?_
        repeat' (refine zap rfl ?_; first | refine zan rfl ?_ | refine zbp rfl rfl ?_)
        all_goals refine zch ?_
        all_goals repeat (first | refine zck ?_ | refine zcl ?_ | refine zcm ?_ | refine zcn ?_)
        refine run_cond rfl (fun hE => ?_) (fun hE => ?_)
        · rw [if_pos hE] at hG
          rw [hG.done]
          repeat' (first | refine zck ?_ | refine zcp (by kernel_rfl) ?_ | (refine zap rfl ?_; first | refine zan rfl ?_ | refine zan rfl ?_ | refine zab 1 rfl rfl rfl ?_ | refine zae 2 rfl rfl rfl rfl rfl rfl rfl ?_) | refine zch ?_)
          exact qret rfl (fun _ _ h => h) (leaves_nil (ends_take [0] rfl (ends_two rfl (resOk_pt 2 rfl rfl rfl) rfl ⟨rfl, [], rfl, rfl, rfl⟩)))
        · rw [if_neg hE] at hG
          have ho := hT.h0 o
          have hsp : FnE PP w0 [] 16 [.agg #[], .int .i64 o] [] (.int .u64 (T.hash o)) [] := by rw [hI.hash]; exact trHash w0 o
          repeat (first | refine zck ?_ | refine zcl ?_ | refine zcm ?_ | refine zcn ?_)
          refine run_drawT [1] [(.quiet, 0), (.quiet, 1), (.quiet, 2), (.quiet, 3), (.quiet, 4), (.loud, 5), (.quiet, 6), (.quiet, 7), (.quiet, 8), (.quiet, 9), (.quiet, 10), (.quiet, 11), (.quiet, 12), (.quiet, 13)] [(.loud, 14)] PP_mixed (by kernel_rfl) (by kernel_rfl) rfl ?_
          repeat' (refine zap rfl ?_; first | refine reg_shr (q := 3 * d) rfl (int_eq (by omega)) (by show 3 * d ≤ 64; omega) ?_ | refine reg_dig (q := d) ho rfl rfl ?_ | refine zbz rfl (by have := dig_bd8 (T.hash o) d; omega) ?_ | refine reg_add (t := 28) rfl rfl ?_ | refine zan rfl ?_ | refine zaa 0 rfl rfl rfl ?_ | refine zaa 1 rfl rfl rfl ?_ | refine reg_invokeE [] hsp rfl rfl rfl sub_nil rfl ?_ | refine zao rfl ?_ | refine zaw rfl rfl (by omega) ?_)
          all_goals refine reg_turn ?_
          all_goals repeat' (refine zap rfl ?_; first | refine reg_callG [1] hG (putG w0 p _ _) rfl rfl rfl sub_nil (fun u s hG => ?_))
          all_goals refine zch ?_
          all_goals repeat (first | refine zck ?_ | refine zcl ?_ | refine zcm ?_ | refine zcn ?_)
          repeat' (first | refine zck ?_ | refine zcp (by kernel_rfl) ?_ | refine zcn ?_ | (refine zap rfl ?_; first | refine reg_neg rfl ?_ | refine reg_shr (q := 3 * d) rfl (int_eq (by omega)) (by show 3 * d ≤ 64; omega) ?_ | refine reg_dig (q := d) hh rfl rfl ?_ | refine zbz rfl (by have := dig_bd8 h d; omega) ?_ | refine reg_add (t := 28) rfl rfl ?_ | refine zan rfl ?_ | refine zab 1 rfl rfl rfl ?_ | refine reg_callG [0] hG (putG w0 p _ _) rfl rfl rfl sub_nil (fun u s hG => ?_) | refine zao rfl ?_ | refine zau rfl rfl (by omega) ?_ | refine zaw rfl rfl (by omega) ?_ | refine zae 1 rfl rfl rfl rfl rfl rfl rfl ?_) | refine zch ?_)
          have e3 : ((d + 1 : Nat) : Int) = (d : Int) + 1 := by omega
          refine cut_end ?_
          refine ⟨rfl, ?_⟩
          refine ⟨(⟨w.bs, w.cs, w64 (b.1 + dig h d), d + 1⟩, s), ?_⟩
          refine ⟨⟨rfl, rfl, rfl, rfl, rfl, trivial⟩, ⟨?_, ?_, h4, rfl, rfl⟩, ?_⟩
          · exact Eq.trans (b := [SpaceA p s, pt wb (.cells (List.toArray [.slice a1 w.bs.length c1, .slice a2 w.cs.length c2, .int .i64 (w64 (b.1 + dig h d)), .int .i64 ((d : Int) + 1)]) 115 (0, 0)), pt rb (.cells (List.toArray [.slice none 0 0, .slice none 0 0, .int .i64 0, .int .i64 0]) 115 (0, 0))]) rfl (by rw [← e3])
          · dsimp only; rw [show 4 - (d + 1) = k by omega]; exact hG
          · dsimp only; omega
    · have hx0 : x = 0 := by simpa using hx
      rw [if_pos hx0] at hG
      rw [hG.done]
      refine cut_exit rfl rfl ?_
      repeat' (first | refine zck ?_ | refine zcp (by kernel_rfl) ?_ | (refine zap rfl ?_; first | refine zan rfl ?_ | refine zab 1 rfl rfl rfl ?_ | refine zae 2 rfl rfl rfl rfl rfl rfl rfl ?_) | refine zch ?_)
      exact run_ret (leaves_nil (ends_take [0] rfl (ends_two rfl (resOk_pt 2 rfl rfl rfl) rfl ⟨rfl, [], rfl, rfl, rfl⟩)))
  · have hk : 4 - d = 0 := by omega
    rw [hk, Tr.splitK] at hG
    rw [hG.done]
    repeat (first | refine zck ?_ | refine zcl ?_ | refine zcm ?_ | refine zcn ?_)
    first | refine zcp (by kernel_rfl) ?_ | refine zcq PP_mixed (by kernel_rfl) (by kernel_rfl) ?_
    repeat' (refine zap rfl ?_; first | refine zak rfl ?_ | refine zan rfl ?_ | refine zab 1 rfl rfl rfl ?_ | refine zao rfl ?_ | refine zbh rfl rfl (by omega) ?_ | refine zbv rfl ?_)
    all_goals refine zch ?_
    all_goals repeat (first | refine zck ?_ | refine zcl ?_ | refine zcm ?_ | refine zcn ?_)
    refine zcj rfl ?_
    refine cut_exit rfl rfl ?_
    repeat' (first | refine zck ?_ | refine zcp (by kernel_rfl) ?_ | (refine zap rfl ?_; first | refine zan rfl ?_ | refine zab 1 rfl rfl rfl ?_ | refine zae 2 rfl rfl rfl rfl rfl rfl rfl ?_) | refine zch ?_)
    exact run_ret (leaves_nil (ends_take [0] rfl (ends_two rfl (resOk_pt 2 rfl rfl rfl) rfl ⟨rfl, [], rfl, rfl, rfl⟩)))
end Go.Proofs.YtloekplbhknepaaGreat

namespace Go.Proofs.YtloekplbhknepaaGreat
open Go.Vc Sim
set_option maxHeartbeats 4000000
abbrev celT (b : Nat) (v : Value) (T : TypeId) : Asn := pt b (.cells (List.toArray [v]) T (0, 0))
theorem trPut1 (w0 : World) (p : Nat) (s : Sp) (m : Nat) (e : Int) (eb sb mb : Nat) :
    FnD PP w0 [] 57 [.pointer (some ⟨eb, 0, none⟩), .pointer (some ⟨sb, 0, none⟩), .pointer (some ⟨mb, 0, none⟩)]
    [SpaceA p s, celT eb (.int .i64 e) 69, celT mb (.int .i64 m) 3, celT sb (spP p) 73]
    fun v Γ' => v = .tuple #[] ∧ Γ' = [SpaceA p (if e ≠ 0 then s.back m else s), celT eb (.int .i64 e) 69, celT mb (.int .i64 m) 3, celT sb (spP p) 73] := by
  refine fnD_of_run en57 fn57 rfl rfl rfl ?_
 
  repeat' (first | refine zck ?_ | refine zcp (by kernel_rfl) ?_ | (refine zap rfl ?_; first | refine zab 1 rfl rfl rfl ?_ | refine zbp rfl rfl ?_) | refine zch ?_)
  refine run_cond rfl (fun hE => ?_) (fun hE => ?_)
  · repeat' (first | refine zcp (by kernel_rfl) ?_ | (refine zap rfl ?_; first | refine zab 2 rfl rfl rfl ?_ | refine zab 3 rfl rfl rfl ?_ | refine zah [0] (back_spec w0 p s m) rfl rfl rfl sub_nil rfl ?_) | refine zch ?_)
    refine run_nil ⟨rfl, ends_none rfl ?_⟩
    rw [if_pos hE]; exact ⟨rfl, rfl⟩
  · repeat' (first | refine zcm ?_ | (refine zap rfl ?_; first | refine zaj rfl ?_ | refine zak rfl ?_ | refine zal rfl ?_ | refine zam rfl rfl (fun _ => ?_) (fun _ => ?_)) | refine zch ?_)
    refine run_nil ⟨rfl, ends_none rfl ?_⟩
    rw [if_neg hE]; exact ⟨rfl, rfl⟩
def putD (eb sb mb : Nat) : Deferred := { target := .fn (.func 57) (List.toArray [.pointer (some ⟨eb, 0, none⟩), .pointer (some ⟨sb, 0, none⟩), .pointer (some ⟨mb, 0, none⟩)]), args := #[] }
def encPR (r : (Int × Bool) × Int) : Value := .tuple #[.int .i64 r.1.1, .bool r.1.2, .int .i64 r.2]
theorem put_fin (w0 : World) (p eb sb mb : Nat) (m : Nat) (R : ((Int × Bool) × Int) × Sp) (was : Int) (had : Bool) (e : Int) (s : Sp) (ρ : Env) (h8 : ρ 8 = .int .i64 was) (h9 : ρ 9 = .bool had) (h10 : ρ 10 = .pointer (some ⟨eb, 0, none⟩)) (hG : At R (Tr.afterP m ((was, had), e)) s) :
    LeavesS PP w0 [] Tryz.f22 ρ [putD eb sb mb] [SpaceA p s, celT eb (.int .i64 e) 69, celT mb (.int .i64 m) 3, celT sb (spP p) 73] (fun v Γ => v = encPR R.1 ∧ Γ = [SpaceA p R.2]) := by
  refine leaves_defer1 [0, 0, 0, 0] (trPut1 w0 p s m e eb sb mb) rfl rfl sub_nil ?_
  refine leaves_nil (ends_take [0] rfl (ends_three rfl h8 h9 (resOk_pt 1 h10 rfl rfl) ?_))
  refine ⟨rfl, ?_⟩
  unfold Tr.afterP at hG
  by_cases hE : e ≠ 0
  · dsimp only at hG
    rw [if_pos hE] at hG
    rw [hG.step.2.done, if_pos hE]
    exact ⟨rfl, rfl⟩
  · dsimp only at hG
    rw [if_neg hE] at hG
    rw [hG.done, if_neg hE]
    exact ⟨rfl, rfl⟩
theorem trPut (w0 : World) (p : Nat) (T : Tr) (hT : T.Ok) (hI : T.IsI) (n v : Int) : FnG w0 [] 22 [trV T, spP p, .int .i64 n, .int .i64 v] p (T.put n (hsI n) v) encPR := by
  have hH := hsI_in n
  have hsp := trHash w0 n
  intro s hS
  have hG := At.start hS
  generalize Pg.run _ s = R at hG ⊢
  generalize hsI n = H at hH hsp hG
  simp only [Tr.put, Tr.putIn, Tr.newIn, Pg.bind_assoc, Pg.ite_bind, Pg.pure_bind] at hG
  refine fn_of_run en22 fn22 rfl rfl rfl ?_
  repeat (first | refine zck ?_ | refine zcl ?_ | refine zcm ?_ | refine zcn ?_)
  first | refine zcp (by kernel_rfl) ?_ | refine zcq PP_mixed (by kernel_rfl) (by kernel_rfl) ?_
  repeat' (refine zap rfl ?_; first | refine zan rfl ?_ | refine zaq (cs := [_]) rfl (fun nb => ?_) | refine zaq (cs := [_, _, _, _, _]) rfl (fun nb => ?_) | refine zar (fun nb => ?_))
  all_goals refine zch ?_
  all_goals repeat (first | refine zck ?_ | refine zcl ?_ | refine zcm ?_ | refine zcn ?_)
  rename_i tb sb
  revert nb; intro eb
  refine run_share [1] rfl ?_
  refine run_share_keep [1] rfl ?_
  repeat (first | refine zck ?_ | refine zcl ?_ | refine zcm ?_ | refine zcn ?_)
  first | refine zcp (by kernel_rfl) ?_ | refine zcq PP_mixed (by kernel_rfl) (by kernel_rfl) ?_
  repeat' (refine zap rfl ?_; first | refine zan rfl ?_ | refine zan rfl ?_ | refine zaa 1 rfl rfl rfl ?_ | refine reg_invokeE [] (trNum w0 n) rfl rfl rfl sub_nil rfl ?_ | refine zao rfl ?_ | refine zan rfl ?_)
  all_goals refine zch ?_
  all_goals repeat (first | refine zck ?_ | refine zcl ?_ | refine zcm ?_ | refine zcn ?_)
  repeat (first | refine zck ?_ | refine zcl ?_ | refine zcm ?_ | refine zcn ?_)
  first | refine zcp (by kernel_rfl) ?_ | refine zcq PP_mixed (by kernel_rfl) (by kernel_rfl) ?_
  repeat' (refine zap rfl ?_; first | refine zan rfl ?_ | refine zbx rfl ?_)
  all_goals refine zch ?_
  all_goals repeat (first | refine zck ?_ | refine zcl ?_ | refine zcm ?_ | refine zcn ?_)
  refine zcj rfl ?_
  repeat (first | refine zck ?_ | refine zcl ?_ | refine zcm ?_ | refine zcn ?_)
  first | refine zcp (by kernel_rfl) ?_ | refine zcq PP_mixed (by kernel_rfl) (by kernel_rfl) ?_
  repeat' (refine zap rfl ?_; first | refine zaa 0 rfl rfl rfl ?_ | refine reg_callG [0] hG (markG w0 p) rfl rfl rfl sub_nil (fun m s hG => ?_) | refine zae 2 rfl rfl rfl rfl rfl rfl rfl ?_ | refine zar (fun nb => ?_))
  all_goals refine zch ?_
  all_goals repeat (first | refine zck ?_ | refine zcl ?_ | refine zcm ?_ | refine zcn ?_)
  revert nb; intro mb
  refine run_share_keep [2] rfl ?_
  repeat (first | refine zck ?_ | refine zcl ?_ | refine zcm ?_ | refine zcn ?_)
  first | refine zcp (by kernel_rfl) ?_ | refine zcq PP_mixed (by kernel_rfl) (by kernel_rfl) ?_
  repeat' (refine zap rfl ?_; first | refine zan rfl ?_ | refine zcd rfl rfl ?_)
  all_goals refine zch ?_
  all_goals repeat (first | refine zck ?_ | refine zcl ?_ | refine zcm ?_ | refine zcn ?_)
  repeat (first | refine zck ?_ | refine zcl ?_ | refine zcm ?_ | refine zcn ?_)
  first | refine zcp (by kernel_rfl) ?_ | refine zcq PP_mixed (by kernel_rfl) (by kernel_rfl) ?_
  repeat' (refine zap rfl ?_; first | refine zan rfl ?_ | refine zan rfl ?_ | refine zaa 2 rfl rfl rfl ?_ | refine reg_invokeE [] hsp rfl rfl rfl sub_nil rfl ?_ | refine zao rfl ?_)
  all_goals refine zch ?_
  all_goals repeat (first | refine zck ?_ | refine zcl ?_ | refine zcm ?_ | refine zcn ?_)
  repeat (first | refine zck ?_ | refine zcl ?_ | refine zcm ?_ | refine zcn ?_)
  first | refine zcp (by kernel_rfl) ?_ | refine zcq PP_mixed (by kernel_rfl) (by kernel_rfl) ?_
  repeat' (refine zap rfl ?_; first | refine zan rfl ?_ | refine zan rfl ?_ | refine zaa 1 rfl rfl rfl ?_ | refine zaa 2 rfl rfl rfl ?_ | (refine reg_callX [0] hG (T.all_down hT _) (trDown w0 p T hT _ hH.1) rfl rfl rfl sub_nil ?_; rintro w s v' Γ1 hw ⟨a1, c1, a2, c2, rfl, rfl⟩ hG) | refine zan rfl ?_ | refine zae 4 rfl rfl rfl rfl rfl rfl rfl ?_ | refine zar (fun nb => ?_))
  all_goals refine zch ?_
  all_goals repeat (first | refine zck ?_ | refine zcl ?_ | refine zcm ?_ | refine zcn ?_)
  obtain ⟨w, ok⟩ := w
  dsimp only at hG hw
  refine run_take [0, 2, 2] rfl ?_
  cases ok with
  | false =>
    simp only [Bool.false_eq_true, if_false] at hG
    repeat' (first | refine zck ?_ | refine zcp (by kernel_rfl) ?_ | (refine zap rfl ?_; first | refine zan rfl ?_ | refine zan rfl ?_ | refine zbx rfl ?_ | refine zae 1 rfl rfl rfl rfl rfl rfl rfl ?_) | refine zch ?_ | refine zci rfl ?_)
    refine run_take [0, 0] rfl ?_
    exact run_ret (put_fin w0 p eb sb mb m R 0 false 24 s _ rfl rfl rfl hG)
  | true =>
    simp only [if_true] at hG
    repeat (first | refine zck ?_ | refine zcl ?_ | refine zcm ?_ | refine zcn ?_)
    first | refine zcp (by kernel_rfl) ?_ | refine zcq PP_mixed (by kernel_rfl) (by kernel_rfl) ?_
    repeat' (refine zap rfl ?_; first | refine zan rfl ?_ | refine zbx rfl ?_)
    all_goals refine zch ?_
    all_goals repeat (first | refine zck ?_ | refine zcl ?_ | refine zcm ?_ | refine zcn ?_)
    refine zcj rfl ?_
    repeat (first | refine zck ?_ | refine zcl ?_ | refine zcm ?_ | refine zcn ?_)
    first | refine zcp (by kernel_rfl) ?_ | refine zcq PP_mixed (by kernel_rfl) (by kernel_rfl) ?_
    repeat' (refine zap rfl ?_; first | refine zan rfl ?_ | refine zan rfl ?_ | refine zaa 1 rfl rfl rfl ?_ | refine zaa 2 rfl rfl rfl ?_ | refine zab 2 rfl rfl rfl ?_ | (refine reg_callGP [0] hG (T.all_leaf w hw n) (trLeaf w0 p T hT w hw a1 c1 a2 c2 n) rfl rfl rfl sub_nil (fun l s hl hG => ?_)) | refine zan rfl ?_)
    all_goals refine zch ?_
    all_goals repeat (first | refine zck ?_ | refine zcl ?_ | refine zcm ?_ | refine zcn ?_)
    obtain ⟨⟨c, a⟩, ok⟩ := l
    obtain ⟨hk1, hk2, hk3, hk4⟩ := id hl
    obtain ⟨hl1, hl2, hl3, hl4⟩ := hl
    dsimp only at hG hl1 hl2 hl3 hl4
    cases ok with
    | false =>
      simp only [Bool.false_eq_true, if_false] at hG
      repeat' (first | refine zck ?_ | refine zcp (by kernel_rfl) ?_ | (refine zap rfl ?_; first | refine zan rfl ?_ | refine zan rfl ?_ | refine zbx rfl ?_ | refine zae 1 rfl rfl rfl rfl rfl rfl rfl ?_) | refine zch ?_ | refine zci rfl ?_)
      refine run_take [0, 0] rfl ?_
      exact run_ret (put_fin w0 p eb sb mb m R 0 false 24 s _ rfl rfl rfl hG)
    | true =>
      simp only [if_true] at hG
      repeat (first | refine zck ?_ | refine zcl ?_ | refine zcm ?_ | refine zcn ?_)
      first | refine zcp (by kernel_rfl) ?_ | refine zcq PP_mixed (by kernel_rfl) (by kernel_rfl) ?_
      repeat' (refine zap rfl ?_; first | refine zan rfl ?_ | refine zbx rfl ?_)
      all_goals refine zch ?_
      all_goals repeat (first | refine zck ?_ | refine zcl ?_ | refine zcm ?_ | refine zcn ?_)
      refine zcj rfl ?_
      by_cases ha : a = 0
      · rw [if_pos ha] at hG
        repeat (first | refine zck ?_ | refine zcl ?_ | refine zcm ?_ | refine zcn ?_)
        first | refine zcp (by kernel_rfl) ?_ | refine zcq PP_mixed (by kernel_rfl) (by kernel_rfl) ?_
        repeat' (refine zap rfl ?_; first | refine zan rfl ?_ | refine zbf rfl rfl (by omega) ?_)
        all_goals refine zch ?_
        all_goals repeat (first | refine zck ?_ | refine zcl ?_ | refine zcm ?_ | refine zcn ?_)
        refine zcj rfl ?_
        repeat (first | refine zck ?_ | refine zcl ?_ | refine zcm ?_ | refine zcn ?_)
        first | refine zcp (by kernel_rfl) ?_ | refine zcq PP_mixed (by kernel_rfl) (by kernel_rfl) ?_
        repeat' (refine zap rfl ?_; first | refine zan rfl ?_ | refine zaa 1 rfl rfl rfl ?_ | refine zaa 2 rfl rfl rfl ?_ | refine zab 2 rfl rfl rfl ?_ | (refine reg_callX [0] hG (Pg.all_triv _) (trSplit w0 p T hT hI w hw.2.2.1 a1 c1 a2 c2 H hH.1) rfl rfl rfl sub_nil ?_; rintro ⟨w2, e2⟩ s v' Γ1 _ ⟨rfl, rfl⟩ hG) | refine zan rfl ?_ | refine zae 1 rfl rfl rfl rfl rfl rfl rfl ?_ | refine zae 2 rfl rfl rfl rfl rfl rfl rfl ?_)
        all_goals refine zch ?_
        all_goals repeat (first | refine zck ?_ | refine zcl ?_ | refine zcm ?_ | refine zcn ?_)
        dsimp only at hG
        repeat (first | refine zck ?_ | refine zcl ?_ | refine zcm ?_ | refine zcn ?_)
        first | refine zcp (by kernel_rfl) ?_ | refine zcq PP_mixed (by kernel_rfl) (by kernel_rfl) ?_
        repeat' (refine zap rfl ?_; first | refine zab 1 rfl rfl rfl ?_ | refine zbp rfl rfl ?_)
        all_goals refine zch ?_
        all_goals repeat (first | refine zck ?_ | refine zcl ?_ | refine zcm ?_ | refine zcn ?_)
        refine run_cond rfl (fun hE => ?_) (fun hE => ?_)
        · rw [if_pos hE] at hG
          repeat (first | refine zck ?_ | refine zcl ?_ | refine zcm ?_ | refine zcn ?_)
          first | refine zcp (by kernel_rfl) ?_ | refine zcr [(.read, 0), (.quiet, 1), (.quiet, 2), (.loud, 3)] PP_mixed (by kernel_rfl) (by kernel_rfl) ?_ | refine run_drawR PP_mixed (by kernel_rfl) (by kernel_rfl) ?_
          repeat' (refine zap rfl ?_; first | refine zan rfl ?_ | refine zab 1 rfl rfl rfl ?_ | refine zae 1 rfl rfl rfl rfl rfl rfl rfl ?_)
          all_goals refine zch ?_
          all_goals repeat (first | refine zck ?_ | refine zcl ?_ | refine zcm ?_ | refine zcn ?_)
          refine run_take [0, 0] rfl ?_
          exact run_ret (put_fin w0 p eb sb mb m R 0 false e2 s _ rfl rfl rfl hG)
        · rw [if_neg hE] at hG
          repeat (first | refine zck ?_ | refine zcl ?_ | refine zcm ?_ | refine zcn ?_)
          first | refine zcp (by kernel_rfl) ?_ | refine zcr [(.quiet, 0), (.quiet, 1), (.quiet, 2), (.quiet, 3), (.read, 4), (.quiet, 5), (.read, 6), (.loud, 7), (.loud, 8), (.loud, 9), (.quiet, 10), (.quiet, 11), (.quiet, 12), (.quiet, 13), (.loud, 14)] PP_mixed (by kernel_rfl) (by kernel_rfl) ?_ | refine run_drawR PP_mixed (by kernel_rfl) (by kernel_rfl) ?_
          repeat' (refine zap rfl ?_; first | refine reg_buildSlice rfl rfl rfl rfl rfl rfl (fun lb => ?_) | refine zan rfl ?_ | refine zan rfl ?_ | refine zaa 1 rfl rfl rfl ?_ | refine zaa 2 rfl rfl rfl ?_ | refine zab 2 rfl rfl rfl ?_ | refine reg_callG [0] hG (getG w0 p _) rfl rfl rfl sub_nil (fun x s hG => ?_) | (refine reg_callX [0, 2] hG (Pg.all_triv _) (trTake w0 p _ T hT [n, v, x] (Nat.le_of_ble_eq_true rfl)) rfl rfl rfl sub_nil ?_; rintro b s v' Γ1 _ ⟨rfl, rfl⟩ hG) | refine zao rfl ?_ | refine zan rfl ?_ | refine zae 1 rfl rfl rfl rfl rfl rfl rfl ?_)
          all_goals refine zch ?_
          all_goals repeat (first | refine zck ?_ | refine zcl ?_ | refine zcm ?_ | refine zcn ?_)
          repeat (first | refine zck ?_ | refine zcl ?_ | refine zcm ?_ | refine zcn ?_)
          first | refine zcp (by kernel_rfl) ?_ | refine zcq PP_mixed (by kernel_rfl) (by kernel_rfl) ?_
          repeat' (refine zap rfl ?_; first | refine zab 1 rfl rfl rfl ?_ | refine zbp rfl rfl ?_)
          all_goals refine zch ?_
          all_goals repeat (first | refine zck ?_ | refine zcl ?_ | refine zcm ?_ | refine zcn ?_)
          refine run_cond rfl (fun hE => ?_) (fun hE => ?_)
          · rw [if_pos hE] at hG
            repeat (first | refine zck ?_ | refine zcl ?_ | refine zcm ?_ | refine zcn ?_)
            first | refine zcp (by kernel_rfl) ?_ | refine zcr [(.read, 0), (.quiet, 1), (.quiet, 2), (.loud, 3)] PP_mixed (by kernel_rfl) (by kernel_rfl) ?_ | refine run_drawR PP_mixed (by kernel_rfl) (by kernel_rfl) ?_
            repeat' (refine zap rfl ?_; first | refine zan rfl ?_ | refine zab 1 rfl rfl rfl ?_ | refine zae 1 rfl rfl rfl rfl rfl rfl rfl ?_)
            all_goals refine zch ?_
            all_goals repeat (first | refine zck ?_ | refine zcl ?_ | refine zcm ?_ | refine zcn ?_)
            refine run_take [0, 0] rfl ?_
            exact run_ret (put_fin w0 p eb sb mb m R 0 false b.2 s _ rfl rfl rfl hG)
          · rw [if_neg hE] at hG
            repeat' (first | refine zck ?_ | refine zcp (by kernel_rfl) ?_ | refine zcm ?_ | (refine zap rfl ?_; first | refine zan rfl ?_ | refine zan rfl ?_ | refine zaa 1 rfl rfl rfl ?_ | refine zaa 2 rfl rfl rfl ?_ | refine zab 2 rfl rfl rfl ?_ | refine reg_callG [0] hG (putG w0 p _ _) rfl rfl rfl sub_nil (fun u s hG => ?_) | refine reg_callG [0] hG (trAdd w0 p T hT _ _ (by decide)) rfl rfl rfl sub_nil (fun u s hG => ?_) | refine zao rfl ?_ | refine zae 1 rfl rfl rfl rfl rfl rfl rfl ?_) | refine zch ?_)
            refine run_take [0, 0] rfl ?_
            exact run_ret (put_fin w0 p eb sb mb m R 0 false 0 s _ rfl rfl rfl hG)
      · rw [if_neg ha] at hG
        repeat' (first | refine zck ?_ | refine zcp (by kernel_rfl) ?_ | refine zcm ?_ | (refine zap rfl ?_; first | refine zan rfl ?_ | refine zan rfl ?_ | refine zaa 1 rfl rfl rfl ?_ | refine reg_callG [0] hG (getG w0 p _) rfl rfl rfl sub_nil (fun x s hG => ?_) | refine reg_callG [0] hG (putG w0 p _ _) rfl rfl rfl sub_nil (fun u s hG => ?_) | refine zbe rfl rfl (by omega) ?_ | refine zau rfl rfl (by omega) ?_ | refine zae 1 rfl rfl rfl rfl rfl rfl rfl ?_) | refine zch ?_ | refine zci rfl ?_)
        refine run_take [0, 0] rfl ?_
        exact run_ret (put_fin w0 p eb sb mb m R x true 0 s _ rfl rfl rfl hG)
end Go.Proofs.YtloekplbhknepaaGreat

namespace Go.Proofs.YtloekplbhknepaaGreat
open Go.Vc Sim
set_option maxHeartbeats 4000000
theorem zipL_succ {bs cs : List Int} {q : Nat} {b c : Int} (hb : bs[q]? = some b) (hc : cs[q]? = some c) : ((bs.take (q + 1)).zip (cs.take (q + 1))).reverse = (b, c) :: ((bs.take q).zip (cs.take q)).reverse := by
  have h1 := (List.getElem?_eq_some_iff.1 hb).1
  have h2 := (List.getElem?_eq_some_iff.1 hc).1
  rw [List.take_add_one, List.take_add_one, hb, hc, List.zip_append (by simp; omega)]
  simp
theorem trDrop1 (w0 : World) (p : Nat) (s : Sp) (m : Nat) (e was : Int) (had : Bool) (eb sb mb xb yb : Nat) :
    FnD PP w0 [] 49 [.pointer (some ⟨eb, 0, none⟩), .pointer (some ⟨sb, 0, none⟩), .pointer (some ⟨mb, 0, none⟩), .pointer (some ⟨xb, 0, none⟩), .pointer (some ⟨yb, 0, none⟩)]
    [SpaceA p s, celT xb (.int .i64 was) 2, celT yb (.bool had) 4, celT eb (.int .i64 e) 69, celT mb (.int .i64 m) 3, celT sb (spP p) 73]
    fun v Γ' => v = .tuple #[] ∧ Γ' = [SpaceA p (if e ≠ 0 then s.back m else s), celT xb (.int .i64 (if e ≠ 0 then 0 else was)) 2, celT yb (.bool (if e ≠ 0 then false else had)) 4, celT eb (.int .i64 e) 69, celT mb (.int .i64 m) 3, celT sb (spP p) 73] := by
  refine fnD_of_run en49 fn49 rfl rfl rfl ?_
 
  repeat' (first | refine zck ?_ | refine zcp (by kernel_rfl) ?_ | (refine zap rfl ?_; first | refine zab 3 rfl rfl rfl ?_ | refine zbp rfl rfl ?_) | refine zch ?_)
  refine run_cond rfl (fun hE => ?_) (fun hE => ?_)
  · repeat' (first | refine zck ?_ | refine zcp (by kernel_rfl) ?_ | (refine zap rfl ?_; first | refine zab 4 rfl rfl rfl ?_ | refine zab 5 rfl rfl rfl ?_ | refine zah [0] (back_spec w0 p s m) rfl rfl rfl sub_nil rfl ?_ | refine zae 1 rfl rfl rfl rfl rfl rfl rfl ?_ | refine zae 2 rfl rfl rfl rfl rfl rfl rfl ?_) | refine zch ?_)
    refine run_nil ⟨rfl, ends_none rfl ?_⟩
    rw [if_pos hE, if_pos hE, if_pos hE]; exact ⟨rfl, rfl⟩
  · repeat' (first | refine zcm ?_ | (refine zap rfl ?_; first | refine zaj rfl ?_ | refine zak rfl ?_ | refine zal rfl ?_ | refine zam rfl rfl (fun _ => ?_) (fun _ => ?_)) | refine zch ?_)
    refine run_nil ⟨rfl, ends_none rfl ?_⟩
    rw [if_neg hE, if_neg hE, if_neg hE]; exact ⟨rfl, rfl⟩
def dropD (eb sb mb xb yb : Nat) : Deferred := { target := .fn (.func 49) (List.toArray [.pointer (some ⟨eb, 0, none⟩), .pointer (some ⟨sb, 0, none⟩), .pointer (some ⟨mb, 0, none⟩), .pointer (some ⟨xb, 0, none⟩), .pointer (some ⟨yb, 0, none⟩)]), args := #[] }
theorem drop_fin (w0 : World) (p eb sb mb xb yb : Nat) (m : Nat) (R : ((Int × Bool) × Int) × Sp) (was : Int) (had : Bool) (e : Int) (s : Sp) (ρ : Env) (h6 : ρ 6 = .pointer (some ⟨xb, 0, none⟩)) (h7 : ρ 7 = .pointer (some ⟨yb, 0, none⟩)) (h8 : ρ 8 = .pointer (some ⟨eb, 0, none⟩)) (hG : At R (Tr.afterD m ((was, had), e)) s) :
    LeavesS PP w0 [] Tryz.f21 ρ [dropD eb sb mb xb yb] [SpaceA p s, celT xb (.int .i64 was) 2, celT yb (.bool had) 4, celT eb (.int .i64 e) 69, celT mb (.int .i64 m) 3, celT sb (spP p) 73] (fun v Γ => v = encPR R.1 ∧ Γ = [SpaceA p R.2]) := by
  refine leaves_defer1 [0, 0, 0, 0, 0, 0] (trDrop1 w0 p s m e was had eb sb mb xb yb) rfl rfl sub_nil ?_
  refine leaves_nil (ends_take [0] rfl (ends_three rfl (resOk_pt 1 h6 rfl rfl) (resOk_pt 2 h7 rfl rfl) (resOk_pt 3 h8 rfl rfl) ?_))
  refine ⟨rfl, ?_⟩
  unfold Tr.afterD at hG
  by_cases hE : e ≠ 0
  · dsimp only at hG
    rw [if_pos hE] at hG
    rw [hG.step.2.done, if_pos hE, if_pos hE, if_pos hE]
    exact ⟨rfl, rfl⟩
  · dsimp only at hG
    rw [if_neg hE] at hG
    rw [hG.done, if_neg hE, if_neg hE, if_neg hE]
    exact ⟨rfl, rfl⟩
theorem trDrop (w0 : World) (p : Nat) (T : Tr) (hT : T.Ok) (hI : T.IsI) (n : Int) : FnG w0 [] 21 [trV T, spP p, .int .i64 n] p (T.drop n (hsI n)) encPR := by
  have hH := hsI_in n
  have hsp := trHash w0 n
  intro s hS
  have hG := At.start hS
  generalize Pg.run _ s = R at hG ⊢
  generalize hsI n = H at hH hsp hG
  simp only [Tr.drop, Tr.dropIn, Tr.dropAt, Pg.bind_assoc, Pg.ite_bind, Pg.pure_bind] at hG
  refine fn_of_run en21 fn21 rfl rfl rfl ?_
  repeat (first | refine zck ?_ | refine zcl ?_ | refine zcm ?_ | refine zcn ?_)
  first | refine zcp (by kernel_rfl) ?_ | refine zcq PP_mixed (by kernel_rfl) (by kernel_rfl) ?_
  repeat' (refine zap rfl ?_; first | refine zaq (cs := [_]) rfl (fun nb => ?_) | refine zaq (cs := [_, _, _, _, _]) rfl (fun nb => ?_) | refine zar (fun nb => ?_))
  all_goals refine zch ?_
  all_goals repeat (first | refine zck ?_ | refine zcl ?_ | refine zcm ?_ | refine zcn ?_)
  rename_i tb sb xb yb
  revert nb; intro eb
  refine run_share [1] rfl ?_
  refine run_share_keep [1] rfl ?_
  repeat (first | refine zck ?_ | refine zcl ?_ | refine zcm ?_ | refine zcn ?_)
  first | refine zcp (by kernel_rfl) ?_ | refine zcq PP_mixed (by kernel_rfl) (by kernel_rfl) ?_
  repeat' (refine zap rfl ?_; first | refine zan rfl ?_ | refine zan rfl ?_ | refine zaa 1 rfl rfl rfl ?_ | refine reg_invokeE [] (trNum w0 n) rfl rfl rfl sub_nil rfl ?_ | refine zao rfl ?_ | refine zan rfl ?_)
  all_goals refine zch ?_
  all_goals repeat (first | refine zck ?_ | refine zcl ?_ | refine zcm ?_ | refine zcn ?_)
  repeat (first | refine zck ?_ | refine zcl ?_ | refine zcm ?_ | refine zcn ?_)
  first | refine zcp (by kernel_rfl) ?_ | refine zcq PP_mixed (by kernel_rfl) (by kernel_rfl) ?_
  repeat' (refine zap rfl ?_; first | refine zan rfl ?_ | refine zbx rfl ?_)
  all_goals refine zch ?_
  all_goals repeat (first | refine zck ?_ | refine zcl ?_ | refine zcm ?_ | refine zcn ?_)
  refine zcj rfl ?_
  repeat (first | refine zck ?_ | refine zcl ?_ | refine zcm ?_ | refine zcn ?_)
  first | refine zcp (by kernel_rfl) ?_ | refine zcq PP_mixed (by kernel_rfl) (by kernel_rfl) ?_
  repeat' (refine zap rfl ?_; first | refine zaa 0 rfl rfl rfl ?_ | refine reg_callG [0] hG (markG w0 p) rfl rfl rfl sub_nil (fun m s hG => ?_) | refine zae 4 rfl rfl rfl rfl rfl rfl rfl ?_ | refine zar (fun nb => ?_))
  all_goals refine zch ?_
  all_goals repeat (first | refine zck ?_ | refine zcl ?_ | refine zcm ?_ | refine zcn ?_)
  revert nb; intro mb
  refine run_share_keep [4] rfl ?_
  repeat (first | refine zck ?_ | refine zcl ?_ | refine zcm ?_ | refine zcn ?_)
  first | refine zcp (by kernel_rfl) ?_ | refine zcq PP_mixed (by kernel_rfl) (by kernel_rfl) ?_
  repeat' (refine zap rfl ?_; first | refine zan rfl ?_ | refine zcd rfl rfl ?_)
  all_goals refine zch ?_
  all_goals repeat (first | refine zck ?_ | refine zcl ?_ | refine zcm ?_ | refine zcn ?_)
  repeat (first | refine zck ?_ | refine zcl ?_ | refine zcm ?_ | refine zcn ?_)
  first | refine zcp (by kernel_rfl) ?_ | refine zcq PP_mixed (by kernel_rfl) (by kernel_rfl) ?_
  repeat' (refine zap rfl ?_; first | refine zae 6 rfl rfl rfl rfl rfl rfl rfl ?_ | refine zan rfl ?_ | refine zan rfl ?_ | refine zaa 1 rfl rfl rfl ?_ | refine zaa 2 rfl rfl rfl ?_ | refine reg_invokeE [] hsp rfl rfl rfl sub_nil rfl ?_ | (refine reg_callX [0] hG (T.all_down hT _) (trDown w0 p T hT _ hH.1) rfl rfl rfl sub_nil ?_; rintro ⟨w, ok⟩ s v' Γ1 hw hwr hG; obtain ⟨a1, c1, a2, c2, rfl, rfl⟩ := (show ∃ a1 c1 a2 c2, v' = .tuple #[wayV a1 c1 a2 c2 w, .bool ok] ∧ Γ1 = WayA a1 c1 a2 c2 w from hwr)) | refine zao rfl ?_ | refine zan rfl ?_ | refine zar (fun nb => ?_))
  all_goals refine zch ?_
  all_goals repeat (first | refine zck ?_ | refine zcl ?_ | refine zcm ?_ | refine zcn ?_)
  dsimp only at hG hw
  revert nb; intro wb
  refine run_take [0, 5, 2, 2, 2, 0, 0] rfl ?_
  refine run_share [1] rfl ?_
  cases ok with
  | false =>
    simp only [Bool.false_eq_true, if_false] at hG
    repeat' (first | refine zck ?_ | refine zcp (by kernel_rfl) ?_ | (refine zap rfl ?_; first | refine zan rfl ?_ | refine zbx rfl ?_ | refine zae 1 rfl rfl rfl rfl rfl rfl rfl ?_ | refine zae 2 rfl rfl rfl rfl rfl rfl rfl ?_ | refine zae 3 rfl rfl rfl rfl rfl rfl rfl ?_) | refine zch ?_ | refine zci rfl ?_)
    refine run_take [0, 0, 0, 0] rfl ?_
    exact run_ret (drop_fin w0 p eb sb mb xb yb m R 0 false 24 s _ rfl rfl rfl hG)
  | true =>
    simp only [if_true] at hG
    repeat (first | refine zck ?_ | refine zcl ?_ | refine zcm ?_ | refine zcn ?_)
    first | refine zcp (by kernel_rfl) ?_ | refine zcq PP_mixed (by kernel_rfl) (by kernel_rfl) ?_
    repeat' (refine zap rfl ?_; first | refine zan rfl ?_ | refine zbx rfl ?_)
    all_goals refine zch ?_
    all_goals repeat (first | refine zck ?_ | refine zcl ?_ | refine zcm ?_ | refine zcn ?_)
    refine zcj rfl ?_
    repeat (first | refine zck ?_ | refine zcl ?_ | refine zcm ?_ | refine zcn ?_)
    first | refine zcp (by kernel_rfl) ?_ | refine zcq PP_mixed (by kernel_rfl) (by kernel_rfl) ?_
    repeat' (refine zap rfl ?_; first | refine zan rfl ?_ | refine zan rfl ?_ | refine zaa 0 rfl rfl rfl ?_ | refine zaa 2 rfl rfl rfl ?_ | refine zaa 3 rfl rfl rfl ?_ | (refine reg_callGP [0] hG (T.all_leaf w hw n) (trLeaf w0 p T hT w hw a1 c1 a2 c2 n) rfl rfl rfl sub_nil (fun l s hl hG => ?_)) | refine zan rfl ?_)
    all_goals refine zch ?_
    all_goals repeat (first | refine zck ?_ | refine zcl ?_ | refine zcm ?_ | refine zcn ?_)
    obtain ⟨⟨c, a⟩, ok⟩ := l
    obtain ⟨hk1, hk2, hk3, hk4⟩ := id hl
    obtain ⟨hl1, hl2, hl3, hl4⟩ := hl
    dsimp only at hG hl1 hl2 hl3 hl4
    cases ok with
    | false =>
      simp only [Bool.false_eq_true, if_false] at hG
      repeat' (first | refine zck ?_ | refine zcp (by kernel_rfl) ?_ | (refine zap rfl ?_; first | refine zan rfl ?_ | refine zbx rfl ?_ | refine zae 1 rfl rfl rfl rfl rfl rfl rfl ?_ | refine zae 2 rfl rfl rfl rfl rfl rfl rfl ?_ | refine zae 3 rfl rfl rfl rfl rfl rfl rfl ?_) | refine zch ?_ | refine zci rfl ?_)
      refine run_take [0, 0, 0, 0] rfl ?_
      exact run_ret (drop_fin w0 p eb sb mb xb yb m R 0 false 24 s _ rfl rfl rfl hG)
    | true =>
      simp only [if_true] at hG
      repeat (first | refine zck ?_ | refine zcl ?_ | refine zcm ?_ | refine zcn ?_)
      first | refine zcp (by kernel_rfl) ?_ | refine zcq PP_mixed (by kernel_rfl) (by kernel_rfl) ?_
      repeat' (refine zap rfl ?_; first | refine zan rfl ?_ | refine zbx rfl ?_)
      all_goals refine zch ?_
      all_goals repeat (first | refine zck ?_ | refine zcl ?_ | refine zcm ?_ | refine zcn ?_)
      refine zcj rfl ?_
      by_cases ha : a = 0
      · rw [if_pos ha] at hG
        repeat' (first | refine zck ?_ | refine zcp (by kernel_rfl) ?_ | refine zcm ?_ | (refine zap rfl ?_; first | refine zan rfl ?_ | refine zbc rfl rfl (by omega) ?_ | refine zae 1 rfl rfl rfl rfl rfl rfl rfl ?_ | refine zae 2 rfl rfl rfl rfl rfl rfl rfl ?_ | refine zae 3 rfl rfl rfl rfl rfl rfl rfl ?_) | refine zch ?_ | refine zci rfl ?_)
        refine run_take [0, 0, 0, 0] rfl ?_
        exact run_ret (drop_fin w0 p eb sb mb xb yb m R 0 false 0 s _ rfl rfl rfl hG)
      · rw [if_neg ha] at hG
        repeat (first | refine zck ?_ | refine zcl ?_ | refine zcm ?_ | refine zcn ?_)
        first | refine zcp (by kernel_rfl) ?_ | refine zcq PP_mixed (by kernel_rfl) (by kernel_rfl) ?_
        repeat' (refine zap rfl ?_; first | refine zan rfl ?_ | refine zbd rfl rfl (by omega) ?_)
        all_goals refine zch ?_
        all_goals repeat (first | refine zck ?_ | refine zcl ?_ | refine zcm ?_ | refine zcn ?_)
        refine zcj rfl ?_
        repeat (first | refine zck ?_ | refine zcl ?_ | refine zcm ?_ | refine zcn ?_)
        first | refine zcp (by kernel_rfl) ?_ | refine zcq PP_mixed (by kernel_rfl) (by kernel_rfl) ?_
        repeat' (refine zap rfl ?_; first | refine zan rfl ?_ | refine zaa 2 rfl rfl rfl ?_ | refine reg_callG [0] hG (getG w0 p _) rfl rfl rfl sub_nil (fun was s hG => ?_) | refine zau rfl rfl (by omega) ?_ | refine zae 1 rfl rfl rfl rfl rfl rfl rfl ?_)
        all_goals refine zch ?_
        all_goals repeat (first | refine zck ?_ | refine zcl ?_ | refine zcm ?_ | refine zcn ?_)
        repeat (first | refine zck ?_ | refine zcl ?_ | refine zcm ?_ | refine zcn ?_)
        first | refine zcp (by kernel_rfl) ?_ | refine zcq PP_mixed (by kernel_rfl) (by kernel_rfl) ?_
        repeat' (refine zap rfl ?_; first | refine zan rfl ?_ | refine zaa 2 rfl rfl rfl ?_ | refine reg_callG [0] hG (getG w0 p _) rfl rfl rfl sub_nil (fun x s hG => ?_) | refine reg_callG [0] hG (putG w0 p _ _) rfl rfl rfl sub_nil (fun u s hG => ?_) | refine zau rfl rfl (by omega) ?_)
        all_goals refine zch ?_
        all_goals repeat (first | refine zck ?_ | refine zcl ?_ | refine zcm ?_ | refine zcn ?_)
        repeat (first | refine zck ?_ | refine zcl ?_ | refine zcm ?_ | refine zcn ?_)
        first | refine zcp (by kernel_rfl) ?_ | refine zcq PP_mixed (by kernel_rfl) (by kernel_rfl) ?_
        repeat' (refine zap rfl ?_; first | refine zan rfl ?_ | refine zaa 2 rfl rfl rfl ?_ | refine zaa 3 rfl rfl rfl ?_ | refine reg_callG [0] hG (trGive w0 p T hT _) rfl rfl rfl sub_nil (fun e s hG => ?_) | refine zae 3 rfl rfl rfl rfl rfl rfl rfl ?_)
        all_goals refine zch ?_
        all_goals repeat (first | refine zck ?_ | refine zcl ?_ | refine zcm ?_ | refine zcn ?_)
        repeat (first | refine zck ?_ | refine zcl ?_ | refine zcm ?_ | refine zcn ?_)
        first | refine zcp (by kernel_rfl) ?_ | refine zcq PP_mixed (by kernel_rfl) (by kernel_rfl) ?_
        repeat' (refine zap rfl ?_; first | refine zab 3 rfl rfl rfl ?_ | refine zbp rfl rfl ?_)
        all_goals refine zch ?_
        all_goals repeat (first | refine zck ?_ | refine zcl ?_ | refine zcm ?_ | refine zcn ?_)
        refine run_cond rfl (fun hE => ?_) (fun hE => ?_)
        · rw [if_pos hE] at hG
          repeat (first | refine zck ?_ | refine zcl ?_ | refine zcm ?_ | refine zcn ?_)
          refine run_drawT [3] [(.quiet, 0), (.loud, 1), (.loud, 2)] [(.loud, 3)] PP_mixed (by kernel_rfl) (by kernel_rfl) rfl ?_
          repeat' (refine zap rfl ?_; first | refine zaa 0 rfl rfl rfl ?_ | refine zae 1 rfl rfl rfl rfl rfl rfl rfl ?_ | refine zae 2 rfl rfl rfl rfl rfl rfl rfl ?_)
          all_goals refine reg_turn ?_
          all_goals repeat' (refine zap rfl ?_; first | refine zae 0 rfl rfl rfl rfl rfl rfl rfl ?_)
          all_goals refine zch ?_
          all_goals repeat (first | refine zck ?_ | refine zcl ?_ | refine zcm ?_ | refine zcn ?_)
          refine run_take [1, 1, 1, 0] rfl ?_
          exact run_ret (drop_fin w0 p eb sb mb xb yb m R 0 false e s _ rfl rfl rfl hG)
        · rw [if_neg hE] at hG
          have he : e = 0 := by omega
          subst he
          refine run_slots [(3, .pointer (some ⟨tb, 0, none⟩)), (4, .pointer (some ⟨sb, 0, none⟩)), (6, .pointer (some ⟨xb, 0, none⟩)), (7, .pointer (some ⟨yb, 0, none⟩)), (8, .pointer (some ⟨eb, 0, none⟩)), (12, .pointer (some ⟨wb, 0, none⟩))] ⟨rfl, rfl, rfl, rfl, rfl, rfl, trivial⟩ (fun junk => ?_)
          refine run_exch 1 (celT xb (.int .i64 was) 2) rfl (fun _ h => h) rfl ?_
          refine run_exch 2 (celT yb (.bool false) 4) rfl (fun _ h => h) rfl ?_
          refine run_exch 3 (celT eb (.int .i64 0) 69) rfl (fun _ h => h) rfl ?_
          obtain ⟨hw1, hw2, hw3, hw4, hw5, hw6⟩ := id hw
          repeat (first | refine zck ?_ | refine zcl ?_ | refine zcm ?_ | refine zcn ?_)
          first | refine zcp (by kernel_rfl) ?_ | refine zcq PP_mixed (by kernel_rfl) (by kernel_rfl) ?_
          repeat' (refine zap rfl ?_; first | refine zaa 2 rfl rfl rfl ?_ | refine zaa 3 rfl rfl rfl ?_ | refine reg_callG [0] hG (trAdd w0 p T hT _ _ (by decide)) rfl rfl rfl sub_nil (fun u s hG => ?_))
          all_goals refine zch ?_
          all_goals repeat (first | refine zck ?_ | refine zcl ?_ | refine zcm ?_ | refine zcn ?_)
          repeat (first | refine zck ?_ | refine zcl ?_ | refine zcm ?_ | refine zcn ?_)
          first | refine zcp (by kernel_rfl) ?_ | refine zcq PP_mixed (by kernel_rfl) (by kernel_rfl) ?_
          repeat' (refine zap rfl ?_; first | refine zan rfl ?_ | refine zaa 0 rfl rfl rfl ?_ | refine zce rfl ?_ | refine zao rfl ?_ | refine zav rfl rfl (by omega) ?_)
          all_goals refine zch ?_
          all_goals repeat (first | refine zck ?_ | refine zcl ?_ | refine zcm ?_ | refine zcn ?_)
          have hL : (w.bs.zip w.cs).reverse = ((w.bs.take w.bs.length).zip (w.cs.take w.bs.length)).reverse := by rw [List.take_length, show w.bs.length = w.cs.length by omega, List.take_length]
          rw [hL] at hG
          refine run_loop (S := Nat × Sp) (fun st => [(3, .pointer (some ⟨tb, 0, none⟩)), (4, .pointer (some ⟨sb, 0, none⟩)), (6, .pointer (some ⟨xb, 0, none⟩)), (7, .pointer (some ⟨yb, 0, none⟩)), (8, .pointer (some ⟨eb, 0, none⟩)), (12, .pointer (some ⟨wb, 0, none⟩)), (15, .int .i64 ((st.1 : Int) - 1))])
            (fun st Γ => Γ = [SpaceA p st.2, celT xb (.int .i64 was) 2, celT yb (.bool false) 4, celT eb (.int .i64 0) 69, SlA 28 1 a1 w.bs.length c1 (intsV w.bs), SlA 28 1 a2 w.cs.length c2 (intsV w.cs)] ∧ At R (T.fold was ((w.bs.take st.1).zip (w.cs.take st.1)).reverse >>= fun r => Tr.afterD m r) st.2 ∧ st.1 ≤ w.bs.length)
            (fun st => st.1) (w.bs.length, s) ⟨rfl, rfl, rfl, rfl, rfl, rfl, rfl, trivial⟩ ⟨rfl, hG, Nat.le_refl _⟩ ?_
          rintro ⟨j, s⟩ Γ junk ⟨rfl, hG, hj⟩
          dsimp only at hG hj ⊢
          cases j with
          | zero =>
            simp only [List.take_zero, List.zip_nil_left, List.reverse_nil, Tr.fold, Pg.pure_bind] at hG
            repeat (first | refine zck ?_ | refine zcl ?_ | refine zcm ?_ | refine zcn ?_)
            first | refine zcp (by kernel_rfl) ?_ | refine zcq PP_mixed (by kernel_rfl) (by kernel_rfl) ?_
            repeat' (refine zap rfl ?_; first | refine zan rfl ?_ | refine zbn rfl rfl (by omega) ?_)
            all_goals refine zch ?_
            all_goals repeat (first | refine zck ?_ | refine zcl ?_ | refine zcm ?_ | refine zcn ?_)
            refine zcj rfl ?_
            refine cut_exit rfl rfl ?_
            repeat' (first | refine zck ?_ | refine zcp (by kernel_rfl) ?_ | (refine zap rfl ?_; first | refine zab 1 rfl rfl rfl ?_ | refine zae 1 rfl rfl rfl rfl rfl rfl rfl ?_ | refine zae 2 rfl rfl rfl rfl rfl rfl rfl ?_ | refine zae 3 rfl rfl rfl rfl rfl rfl rfl ?_) | refine zch ?_)
            refine run_take [0, 0, 0, 0] rfl ?_
            exact run_ret (drop_fin w0 p eb sb mb xb yb m R was true 0 s _ rfl rfl rfl hG)
          | succ q =>
            obtain ⟨bq, hbq⟩ : ∃ b, w.bs[q]? = some b := ⟨w.bs[q], List.getElem?_eq_getElem (by omega)⟩
            obtain ⟨cq, hcq⟩ : ∃ c, w.cs[q]? = some c := ⟨w.cs[q], List.getElem?_eq_getElem (by omega)⟩
            rw [zipL_succ hbq hcq] at hG
            simp only [Tr.fold, Pg.bind_assoc, Pg.ite_bind, Pg.pure_bind] at hG
            have hbr := hw6 bq (List.mem_of_getElem? hbq)
            refine run_sl_cases 4 rfl (fun h1 h2 h3 h4 => absurd h2 (by omega)) (fun ab e1 e2 e3 => ?_)
            subst e1
            refine run_sl_cases 5 rfl (fun h1 h2 h3 h4 => absurd h2 (by omega)) (fun cb e1 e2 e3 => ?_)
            subst e1
            have hrb : ∀ o, o = q → rd false 1 (intsV w.bs) o = some (.int .i64 bq) := fun o ho => rd_one (c := (intsV w.bs).toArray) (by simp [intsV, hbq]) o ho
            have hrc : ∀ o, o = q → rd false 1 (intsV w.cs) o = some (.int .i64 cq) := fun o ho => rd_one (c := (intsV w.cs).toArray) (by simp [intsV, hcq]) o ho
            repeat (first | refine zck ?_ | refine zcl ?_ | refine zcm ?_ | refine zcn ?_)
            first | refine zcp (by kernel_rfl) ?_ | refine zcq PP_mixed (by kernel_rfl) (by kernel_rfl) ?_
            repeat' (refine zap rfl ?_; first | refine zan rfl ?_ | refine zbm rfl rfl (by omega) ?_)
            all_goals refine zch ?_
            all_goals repeat (first | refine zck ?_ | refine zcl ?_ | refine zcm ?_ | refine zcn ?_)
            refine zci rfl ?_
            repeat (first | refine zck ?_ | refine zcl ?_ | refine zcm ?_ | refine zcn ?_)
            first | refine zcp (by kernel_rfl) ?_ | refine zcr [(.read, 0), (.read, 1), (.quiet, 2), (.read, 3), (.quiet, 4), (.quiet, 5), (.read, 6), (.loud, 7), (.quiet, 8), (.quiet, 9), (.quiet, 10), (.quiet, 11), (.quiet, 12)] PP_mixed (by kernel_rfl) (by kernel_rfl) ?_ | refine run_drawR PP_mixed (by kernel_rfl) (by kernel_rfl) ?_
            repeat' (refine zap rfl ?_; first | refine zag 4 rfl rfl (hrb _ (by omega)) (by decide) ?_ | refine zan rfl ?_ | refine zan rfl ?_ | refine zaa 0 rfl rfl rfl ?_ | refine zaa 2 rfl rfl rfl ?_ | refine zaa 3 rfl rfl rfl ?_ | refine reg_callG [0] hG (trAlone w0 p T hT bq hbr) rfl rfl rfl sub_nil (fun o s hG => ?_) | refine zao rfl ?_ | refine zan rfl ?_ | refine zas rfl rfl (by omega) ?_)
            all_goals refine zch ?_
            all_goals repeat (first | refine zck ?_ | refine zcl ?_ | refine zcm ?_ | refine zcn ?_)
            repeat (first | refine zck ?_ | refine zcl ?_ | refine zcm ?_ | refine zcn ?_)
            first | refine zcp (by kernel_rfl) ?_ | refine zcq PP_mixed (by kernel_rfl) (by kernel_rfl) ?_
            repeat' (refine zap rfl ?_; first | refine zan rfl ?_ | refine zbx rfl ?_)
            all_goals refine zch ?_
            all_goals repeat (first | refine zck ?_ | refine zcl ?_ | refine zcm ?_ | refine zcn ?_)
            refine run_condV rfl (fun hE2 => ?_) (fun hE2 => ?_)
            · have hE2 : o.2 = false := by simpa using hE2
              simp only [hE2, Bool.false_eq_true, if_false] at hG
              refine cut_exit rfl rfl ?_
              repeat' (first | refine zck ?_ | refine zcp (by kernel_rfl) ?_ | (refine zap rfl ?_; first | refine zab 1 rfl rfl rfl ?_ | refine zae 1 rfl rfl rfl rfl rfl rfl rfl ?_ | refine zae 2 rfl rfl rfl rfl rfl rfl rfl ?_ | refine zae 3 rfl rfl rfl rfl rfl rfl rfl ?_) | refine zch ?_)
              refine run_take [0, 0, 0, 0] rfl ?_
              exact run_ret (drop_fin w0 p eb sb mb xb yb m R was true 0 s _ rfl rfl rfl hG)
            · have hE2 : o.2 = true := by simpa using hE2
              simp only [hE2, if_true] at hG
              repeat (first | refine zck ?_ | refine zcl ?_ | refine zcm ?_ | refine zcn ?_)
              first | refine zcp (by kernel_rfl) ?_ | refine zcr [(.read, 0), (.quiet, 1), (.read, 2), (.quiet, 3), (.quiet, 4), (.read, 5), (.quiet, 6), (.loud, 7)] PP_mixed (by kernel_rfl) (by kernel_rfl) ?_ | refine run_drawR PP_mixed (by kernel_rfl) (by kernel_rfl) ?_
              repeat' (refine zap rfl ?_; first | refine zag 5 rfl rfl (hrc _ (by omega)) (by decide) ?_ | refine zan rfl ?_ | refine zaa 0 rfl rfl rfl ?_ | refine zaa 2 rfl rfl rfl ?_ | refine reg_callG [0] hG (putG w0 p _ _) rfl rfl rfl sub_nil (fun u s hG => ?_) | refine zao rfl ?_ | refine zas rfl rfl (by omega) ?_)
              all_goals refine zch ?_
              all_goals repeat (first | refine zck ?_ | refine zcl ?_ | refine zcm ?_ | refine zcn ?_)
              repeat (first | refine zck ?_ | refine zcl ?_ | refine zcm ?_ | refine zcn ?_)
              first | refine zcp (by kernel_rfl) ?_ | refine zcr [(.read, 0), (.read, 1), (.quiet, 2), (.read, 3), (.quiet, 4), (.quiet, 5), (.read, 6), (.loud, 7), (.loud, 8)] PP_mixed (by kernel_rfl) (by kernel_rfl) ?_ | refine run_drawR PP_mixed (by kernel_rfl) (by kernel_rfl) ?_
              repeat' (refine zap rfl ?_; first | refine zag 4 rfl rfl (hrb _ (by omega)) (by decide) ?_ | refine zan rfl ?_ | refine zaa 0 rfl rfl rfl ?_ | refine zaa 2 rfl rfl rfl ?_ | refine zaa 3 rfl rfl rfl ?_ | refine reg_callG [0] hG (trGive w0 p T hT _) rfl rfl rfl sub_nil (fun e s hG => ?_) | refine zao rfl ?_ | refine zae 3 rfl rfl rfl rfl rfl rfl rfl ?_ | refine zas rfl rfl (by omega) ?_)
              all_goals refine zch ?_
              all_goals repeat (first | refine zck ?_ | refine zcl ?_ | refine zcm ?_ | refine zcn ?_)
              repeat (first | refine zck ?_ | refine zcl ?_ | refine zcm ?_ | refine zcn ?_)
              first | refine zcp (by kernel_rfl) ?_ | refine zcq PP_mixed (by kernel_rfl) (by kernel_rfl) ?_
              repeat' (refine zap rfl ?_; first | refine zab 3 rfl rfl rfl ?_ | refine zbp rfl rfl ?_)
              all_goals refine zch ?_
              all_goals repeat (first | refine zck ?_ | refine zcl ?_ | refine zcm ?_ | refine zcn ?_)
              refine run_cond rfl (fun hE3 => ?_) (fun hE3 => ?_)
              · rw [if_pos hE3] at hG
                repeat (first | refine zck ?_ | refine zcl ?_ | refine zcm ?_ | refine zcn ?_)
                refine run_drawT [3] [(.quiet, 0), (.loud, 1), (.loud, 2)] [(.loud, 3)] PP_mixed (by kernel_rfl) (by kernel_rfl) rfl ?_
                repeat' (refine zap rfl ?_; first | refine zaa 0 rfl rfl rfl ?_ | refine zae 1 rfl rfl rfl rfl rfl rfl rfl ?_ | refine zae 2 rfl rfl rfl rfl rfl rfl rfl ?_)
                all_goals refine reg_turn ?_
                all_goals repeat' (refine zap rfl ?_; first | refine zae 0 rfl rfl rfl rfl rfl rfl rfl ?_)
                all_goals refine zch ?_
                all_goals repeat (first | refine zck ?_ | refine zcl ?_ | refine zcm ?_ | refine zcn ?_)
                refine run_take [1, 1, 1, 0] rfl ?_
                exact cut_ret (drop_fin w0 p eb sb mb xb yb m R 0 false e s _ rfl rfl rfl hG)
              · rw [if_neg hE3] at hG
                have he : e = 0 := by omega
                subst he
                repeat' (first | refine zcp (by kernel_rfl) ?_ | refine zcm ?_ | refine zcn ?_ | (refine zap rfl ?_; first | refine zan rfl ?_ | refine zan rfl ?_ | refine zav rfl rfl (by omega) ?_) | refine zch ?_)
                exact cut_end ⟨rfl, (q, s), ⟨rfl, rfl, rfl, rfl, rfl, rfl, int_eq (by dsimp only; omega), trivial⟩, ⟨rfl, hG, by dsimp only; omega⟩, Nat.lt_succ_self q⟩
end Go.Proofs.YtloekplbhknepaaGreat

namespace Sim
open Go Go.Vc
open Pg
theorem Pg.all_mono {α : Type} {φ ψ : α → Prop} (h : ∀ a, φ a → ψ a) : ∀ {g : Pg α}, All φ g → All ψ g
  | ret a, hg => h a hg
  | get _ k, hg => fun v => all_mono h (hg v)
  | put _ _ k, hg => all_mono (g := k) h hg
  | mark k, hg => fun m => all_mono h (hg m)
  | back _ k, hg => all_mono (g := k) h hg
def prV (l : List (Int × Int)) : List Value := l.flatMap fun q => [.int .i64 q.1, .int .i64 q.2]
theorem prV_append (l m : List (Int × Int)) : prV (l ++ m) = prV l ++ prV m := by simp [prV]
theorem prV_cons (q : Int × Int) (l : List (Int × Int)) : prV (q :: l) = [.int .i64 q.1, .int .i64 q.2] ++ prV l := by simp [prV]
theorem prV_one : ∀ (l : List (Int × Int)), allOne (prV l) = true
  | [] => rfl
  | q :: l => by
    rw [prV_cons]
    exact prV_one l
namespace Tr
variable (T : Tr)
def WalkOk (left : Int) (r : (List (Int × Int) × Bool) × Int) : Prop := (r.1.1.length : Int) + r.2 ≤ left ∧ -1 ≤ r.2 ∧ (r.1.2 = true → 0 ≤ r.2)
theorem walkOk_fail {left : Int} (h : 0 ≤ left) : WalkOk left (([], false), left - 1) := ⟨by dsimp only [List.length_nil]; omega, by dsimp only; omega, fun h => by cases h⟩
theorem walkOk_nil {left : Int} (h : 0 ≤ left) (b : Bool) : WalkOk left (([], b), left) := ⟨by dsimp only [List.length_nil]; omega, by dsimp only; omega, fun _ => h⟩
theorem all_kids {f : Int → Int → Pg ((List (Int × Int) × Bool) × Int)} (hf : ∀ c left, 0 ≤ left → All (WalkOk left) (f c left)) :
    ∀ (k : Nat) (c : Int) (out : List (Int × Int)) (left : Int), 0 ≤ left → All (WalkOk (out.length + left)) (kids f k c out left)
  | 0, c, out, left, h => all_pure ⟨by dsimp only; omega, by dsimp only; omega, fun _ => h⟩
  | k + 1, c, out, left, h => by
    unfold kids
    refine all_bind (fun r hr => ?_) (hf c left h)
    obtain ⟨h1, h2, h3⟩ := hr
    by_cases hb : r.1.2 = true
    · rw [if_pos hb]
      have h4 := h3 hb
      refine all_mono (fun a ha => ?_) (all_kids hf k (c + 1) (out ++ r.1.1) r.2 h4)
      obtain ⟨h5, h6, h7⟩ := ha
      rw [List.length_append] at h5
      exact ⟨by omega, h6, h7⟩
    · rw [if_neg hb]
      exact all_pure ⟨by dsimp only [List.length_nil]; omega, h2, fun h => by cases h⟩
theorem all_walkK : ∀ (k : Nat) (cell : Int) (d : Nat) (left : Int), 0 ≤ left → All (WalkOk left) (T.walkK k cell d left)
  | 0, _, _, left, h => all_pure (walkOk_nil h false)
  | k + 1, cell, d, left, h => by
    unfold Tr.walkK
    refine all_then fun x => all_ite (fun _ => all_pure (walkOk_nil h true)) fun _ => all_ite (fun _ => all_ite (fun hc => ?_) fun _ => all_pure (walkOk_fail h)) fun _ => all_ite (fun hc => ?_) fun _ => all_pure (walkOk_fail h)
    · refine all_mono (fun a ha => ?_) (all_kids (fun c l hl => all_walkK k c (d + 1) l hl) 8 _ [] (left - 1) hc.2.1)
      obtain ⟨h5, h6, h7⟩ := ha
      rw [List.length_nil] at h5
      exact ⟨by omega, h6, h7⟩
    · refine all_then fun n => all_then fun v => all_ite (fun _ => all_pure ⟨by dsimp only [List.length_cons, List.length_nil]; omega, by dsimp only; omega, fun _ => hc.2⟩) fun _ => all_then fun y => all_ite (fun _ => all_pure (walkOk_fail h)) fun _ => ?_
      refine all_bind (fun r hr => all_pure ?_) (all_walkK k _ d (left - 1) hc.2)
      obtain ⟨h1, h2, h3⟩ := hr
      exact ⟨by dsimp only [List.length_cons]; omega, h2, h3⟩
theorem bd_kids {f : Int → Int → Pg ((List (Int × Int) × Bool) × Int)} (hf : ∀ c left, Bd 0 (f c left)) :
    ∀ (k : Nat) (c : Int) (out : List (Int × Int)) (left : Int), Bd 0 (kids f k c out left)
  | 0, c, out, left => bd_pure _
  | k + 1, c, out, left => by
    unfold kids
    exact bd_then (hf _ _) (fun _ => bd_ite (bd_kids hf k _ _ _) (bd_pure _)) (Nat.le_refl 0)
theorem bd_walkK : ∀ (k : Nat) (cell : Int) (d : Nat) (left : Int), Bd 0 (T.walkK k cell d left)
  | 0, _, _, _ => bd_pure _
  | k + 1, cell, d, left => by
    unfold Tr.walkK
    refine bd_then (bd_gt0 _) (fun x => bd_ite (bd_pure _) (bd_ite (bd_ite (bd_kids (fun c l => bd_walkK k c (d + 1) l) _ _ _ _) (bd_pure _)) (bd_ite ?_ (bd_pure _)))) (Nat.le_refl 0)
    refine bd_then (bd_gt0 _) (fun n => bd_then (bd_gt0 _) (fun v => bd_ite (bd_pure _) (bd_then (bd_gt0 _) (fun y => bd_ite (bd_pure _) (bd_then (bd_walkK k _ _ _) (fun _ => bd_pure _) (Nat.le_refl 0))) (Nat.le_refl 0))) (Nat.le_refl 0)) (Nat.le_refl 0)
end Tr
end Sim

namespace Sim
open Go Go.Vc
def cat {α : Type} (F : Nat → List α) : Nat → Nat → List α
  | _, 0 => []
  | i, k + 1 => F i ++ cat F (i + 1) k
theorem cat_congr {α : Type} {F G : Nat → List α} : ∀ (k i : Nat), (∀ j, i ≤ j → j < i + k → F j = G j) → cat F i k = cat G i k
  | 0, _, _ => rfl
  | k + 1, i, h => by
    unfold cat
    rw [h i (Nat.le_refl i) (by omega), cat_congr k (i + 1) fun j h1 h2 => h j (by omega) (by omega)]
theorem filter_split {α : Type} (p : α → Bool) : ∀ l : List α, l.Perm (l.filter p ++ l.filter fun x => !p x)
  | [] => .nil
  | x :: l => by
    have ih := filter_split p l
    cases hp : p x with
    | true =>
      rw [List.filter_cons_of_pos hp, List.filter_cons_of_neg (by simp [hp]), List.cons_append]
      exact .cons x ih
    | false =>
      rw [List.filter_cons_of_neg (by simp [hp]), List.filter_cons_of_pos (by simp [hp])]
      exact (List.Perm.cons x ih).trans List.perm_middle.symm
theorem cat_perm {α : Type} (g : α → Int) : ∀ (k i : Nat) (L : List α), (∀ x ∈ L, (i : Int) ≤ g x ∧ g x < i + k) → L.Perm (cat (fun j => L.filter fun x => decide (g x = j)) i k)
  | 0, i, L, h => by
    cases L with
    | nil => exact .nil
    | cons x L => exact absurd (h x (by simp)) (by omega)
  | k + 1, i, L, h => by
    unfold cat
    refine (filter_split (fun x => decide (g x = i)) L).trans (List.Perm.append_left _ ?_)
    refine (cat_perm g k (i + 1) _ fun x hx => ?_).trans (.of_eq (cat_congr k (i + 1) fun j h1 h2 => ?_))
    · have h1 := List.mem_filter.1 hx
      have h2 := h x h1.1
      have h3 : g x ≠ i := by simpa using h1.2
      omega
    · rw [List.filter_filter]
      refine List.filter_congr fun x _ => ?_
      by_cases hx : g x = j
      · simp [hx]; omega
      · simp [hx]
def sumK (c : Nat → Int) : Nat → Nat → Int
  | _, 0 => 0
  | i, k + 1 => c i + sumK c (i + 1) k
theorem cat_len {α : Type} (F : Nat → List α) : ∀ (k i : Nat), ((cat F i k).length : Int) = sumK (fun j => ((F j).length : Int)) i k
  | 0, _ => rfl
  | k + 1, i => by
    unfold cat sumK
    rw [List.length_append, ← cat_len F k (i + 1)]; omega
theorem sumK_add (c e : Nat → Int) : ∀ (k i : Nat), sumK (fun j => c j + e j) i k = sumK c i k + sumK e i k
  | 0, _ => rfl
  | k + 1, i => by unfold sumK; rw [sumK_add c e k (i + 1)]; omega
theorem sumK_pos (c : Nat → Int) (h : ∀ j, 0 ≤ c j) : ∀ (k i : Nat), 0 ≤ sumK c i k
  | 0, _ => Int.le_refl 0
  | k + 1, i => by unfold sumK; have := sumK_pos c h k (i + 1); have := h i; omega
def nv (x : It) : Int × Int := (x.n, x.v)
def Qd (d : Nat) (p : Int) (Q : List (Nat × Int)) : List (Nat × Int) := Q.filter fun q => decide (d ≤ q.1 ∧ pre q.2 d = p)
theorem mem_Qd {d : Nat} {p : Int} {Q : List (Nat × Int)} {q : Nat × Int} : q ∈ Qd d p Q ↔ q ∈ Q ∧ d ≤ q.1 ∧ pre q.2 d = p := by simp [Qd]
def cost (I : List It) (Q : List (Nat × Int)) (d : Nat) (p : Int) : Int := (Fd d p I).length + (Qd d p Q).length
theorem cost_pos (I : List It) (Q : List (Nat × Int)) (d : Nat) (p : Int) : 0 ≤ cost I Q d p := by unfold cost; omega
namespace Tr
variable {K : Int} {hs : Int → Int} {hv : Int → Bool} {I : List It} {B : Br} {Q : List (Nat × Int)} {m : Int → Int}
theorem Qd_none (S : Tsh K hs hv I B Q) {d : Nat} {h : Int} (hb : B d (pre h d) = 0) : Qd d (pre h d) Q = [] := by
  refine List.filter_eq_nil_iff.2 fun q hq hc => ?_
  obtain ⟨h1, h2⟩ := of_decide_eq_true hc
  have h3 := (S.qm q.1 q.2).2 hq
  obtain ⟨h4, h5, h6⟩ := S.dom _ _ h3
  refine absurd hb ?_
  rw [← h2]
  refine S.ex_br (h := q.2) (d' := q.1 + 1) ?_ (by omega)
  show B q.1 (pre q.2 q.1) ≠ 0
  rw [pre_self h5 h6]; exact h3
theorem kid_cost (S : Tsh K hs hv I B Q) {d : Nat} {h : Int} (hd : d < 4) (hb : B d (pre h d) ≠ 0) :
    cost I Q d (pre h d) = 1 + sumK (fun j => cost I Q (d + 1) (pre (kidH (pre h d) d j) (d + 1))) 0 8 := by
  have hp := pre_pos h d
  unfold cost
  rw [sumK_add, ← cat_len (fun j => Fd (d + 1) (pre (kidH (pre h d) d j) (d + 1)) I), ← cat_len (fun j => Qd (d + 1) (pre (kidH (pre h d) d j) (d + 1)) Q)]
  have e1 : (Fd d (pre h d) I).length = (cat (fun j => Fd (d + 1) (pre (kidH (pre h d) d j) (d + 1)) I) 0 8).length := by
    rw [(cat_perm (fun x => dig x.h d) 8 0 (Fd d (pre h d) I) fun x _ => by have := dig_pos x.h d; omega).length_eq]
    rw [cat_congr 8 0 fun j h1 h2 => (kid_sub (I := I) hd hp (i := j) (by omega)).symm]
    rfl
  have e2 : (Qd d (pre h d) Q).length = 1 + (cat (fun j => Qd (d + 1) (pre (kidH (pre h d) d j) (d + 1)) Q) 0 8).length := by
    have hmem : (d, pre h d) ∈ Qd d (pre h d) Q := mem_Qd.2 ⟨(S.qm _ _).1 hb, Nat.le_refl d, pre_pre h d⟩
    have hnd : (Qd d (pre h d) Q).Nodup := List.Pairwise.filter _ S.qn
    have e3 := (List.perm_cons_erase hmem).length_eq
    rw [e3, List.length_cons]
    have e4 := (cat_perm (fun q => dig q.2 d) 8 0 ((Qd d (pre h d) Q).erase (d, pre h d)) fun x _ => by have := dig_pos x.2 d; omega).length_eq
    rw [e4, cat_congr 8 0 (G := fun j => Qd (d + 1) (pre (kidH (pre h d) d j) (d + 1)) Q) fun j h1 h2 => ?_]
    · omega
    · rw [hnd.erase_eq_filter, List.filter_filter]
      unfold Qd
      rw [List.filter_filter]
      refine List.filter_congr fun q hq => ?_
      obtain ⟨h4, h5, h6⟩ := S.dom _ _ ((S.qm q.1 q.2).2 hq)
      obtain ⟨k1, k2⟩ := kid_pre (i := (j : Int)) hd hp (by omega)
      rw [Bool.eq_iff_iff]
      simp only [Bool.and_eq_true, decide_eq_true_eq, bne_iff_ne, ne_eq]
      have hpe := pre_eq (h := q.2) (h' := kidH (pre h d) d j) hd
      rw [k1, k2] at hpe
      constructor
      · rintro ⟨⟨h7, h8⟩, h9, h10⟩
        refine ⟨?_, hpe.2 ⟨h10, h7⟩⟩
        refine Classical.byContradiction fun hc => h8 ?_
        have : q.1 = d := by omega
        refine Prod.ext this ?_
        show q.2 = pre h d
        rw [← h10, ← this, pre_self h5 h6]
      · rintro ⟨h7, h8⟩
        obtain ⟨h9, h10⟩ := hpe.1 h8
        exact ⟨⟨h10, fun hc => by rw [hc] at h7; exact absurd h7 (by dsimp only; omega)⟩, by omega, h9⟩
  omega
theorem chain_ok (hK : 0 ≤ K ∧ K ≤ 60) (S : Tsh K hs hv I B Q) (C : Tc m I B) : ∀ (L : List It) (k : Nat) (c left : Int), (∀ x ∈ L, x ∈ I) → chL m L → 0 ≤ c ∧ c < 544 → m c = hd L → (L.length : Int) ≤ left → left < k →
    Pg.Ok 544 ((t0 K hs hv).walkK k c 4 left) m fun r m' => m' = m ∧ r = ((L.map nv, true), left - L.length)
  | L, 0, c, left, _, _, _, _, h1, h2 => absurd h2 (by omega)
  | [], k + 1, c, left, hI, hc, hb, hm, h1, h2 => by
    unfold walkK
    refine Pg.Ok.get hb.1 hb.2 ?_
    rw [hm, show hd [] = 0 from rfl, if_pos rfl]
    exact Pg.Ok.pure ⟨rfl, by simp⟩
  | x :: L, k + 1, c, left, hI, hc, hb, hm, h1, h2 => by
    have hx := hI x (by simp)
    have hlo := Tsh.ndlo (S.ndL hx)
    obtain ⟨n1, n2⟩ := nodeB_nd (hs := hs) (hv := hv) hK (S.ndL hx)
    have hv' := C.leaf x hx
    have hnx : 0 ≤ hd L ∧ m (x.a + 2) = hd L := by
      refine ⟨?_, hc.1⟩
      rcases hd_pos (L := L) S (fun y hy => hI y (by simp [hy])) with ⟨h, _⟩ | ⟨h, _⟩ <;> omega
    rw [List.length_cons] at h1
    unfold walkK
    refine Pg.Ok.get hb.1 hb.2 ?_
    rw [hm, show hd (x :: L) = x.a from rfl, if_neg (by omega), if_neg (by omega), if_pos ⟨n1, by omega⟩, n2]
    refine Pg.Ok.get (by omega) (by omega) (Pg.Ok.get (by omega) (by omega) ?_)
    rw [if_neg (by decide)]
    refine Pg.Ok.get (by omega) (by omega) ?_
    rw [hnx.2, if_neg (by omega)]
    refine Pg.Ok.bind _ (chain_ok hK S C L k (x.a + 2) (left - 1) (fun y hy => hI y (by simp [hy])) hc.2 (by omega) hnx.2 (by omega) (by omega)) ?_
    rintro r m' ⟨rfl, rfl⟩
    refine Pg.Ok.pure ⟨rfl, ?_⟩
    rw [hv'.1, hv'.2, List.length_cons, List.map_cons, show left - 1 - (L.length : Int) = left - ((L.length + 1 : Nat) : Int) by omega]
    rfl
theorem kids_ok {f : Int → Int → Pg ((List (Int × Int) × Bool) × Int)} {F : Nat → List It} {c : Nat → Int} {b W : Int} (hc : ∀ j, 0 ≤ c j)
    (hf : ∀ (j : Nat) (left : Int), j < 8 → c j ≤ left → left ≤ W → Pg.Ok 544 (f (b + j) left) m fun r m' => m' = m ∧ r.1.2 = true ∧ r.1.1.Perm ((F j).map nv) ∧ r.2 = left - c j) :
    ∀ (k i : Nat) (out : List (Int × Int)) (left : Int), i + k = 8 → sumK c i k ≤ left → left ≤ W → Pg.Ok 544 (kids f k (b + i) out left) m fun r m' => m' = m ∧ r.1.2 = true ∧ (∃ o, r.1.1 = out ++ o ∧ o.Perm ((cat F i k).map nv)) ∧ r.2 = left - sumK c i k
  | 0, i, out, left, h1, h2, h3 => Pg.Ok.pure ⟨rfl, rfl, ⟨[], by simp, .nil⟩, by unfold sumK; dsimp only; omega⟩
  | k + 1, i, out, left, h1, h2, h3 => by
    unfold kids
    unfold sumK at h2
    have hp := sumK_pos c hc k (i + 1)
    have hi := hc i
    refine Pg.Ok.bind _ (hf i left (by omega) (by omega) (by omega)) ?_
    rintro r m' ⟨e0, e1, e2, e3⟩
    rw [e0, if_pos e1, show b + (i : Int) + 1 = b + ((i + 1 : Nat) : Int) by omega]
    refine (kids_ok hc hf k (i + 1) (out ++ r.1.1) r.2 (by omega) (by omega) (by omega)).mono ?_
    rintro r' m'' ⟨rfl, f1, ⟨o, f2, f3⟩, f4⟩
    refine ⟨rfl, f1, ⟨r.1.1 ++ o, by rw [f2, List.append_assoc], ?_⟩, by unfold sumK; omega⟩
    unfold cat
    rw [List.map_append]
    exact e2.append f3
theorem walkK_ok (hK : 0 ≤ K ∧ K ≤ 60) (S : Tsh K hs hv I B Q) (C : Tc m I B) : ∀ (k d : Nat) (h left : Int), Ex B h d → cost I Q d (pre h d) ≤ left → left < k → left ≤ 60 →
    Pg.Ok 544 ((t0 K hs hv).walkK k (cl B h d) d left) m fun r m' => m' = m ∧ r.1.2 = true ∧ r.1.1.Perm ((Fd d (pre h d) I).map nv) ∧ r.2 = left - cost I Q d (pre h d)
  | 0, d, h, left, _, h1, h2, _ => absurd h2 (by have := cost_pos I Q d (pre h d); omega)
  | k + 1, d, h, left, e, h1, h2, h3 => by
    have hle := S.ex_le e
    have hcell := C.cell h d hle e
    have hcl := cl_in hK S e
    by_cases hb : B d (pre h d) = 0
    · rw [vl, if_pos hb] at hcell
      have hco : cost I Q d (pre h d) = (Fd d (pre h d) I).length := by unfold cost; rw [Qd_none S hb]; simp
      rw [hco] at h1 ⊢
      by_cases h4 : d < 4
      · have hone := S.one d h h4 hb e
        unfold walkK
        refine Pg.Ok.get hcl.1 hcl.2 ?_
        rw [hcell]
        match hF : Fd d (pre h d) I, hone with
        | [], _ =>
          rw [show hd [] = 0 from rfl, if_pos rfl]
          exact Pg.Ok.pure ⟨rfl, rfl, .nil, by simp⟩
        | [x], _ =>
          have hx : x ∈ I := Fd_sub (d := d) (p := pre h d) x (by rw [hF]; simp)
          have hlo := Tsh.ndlo (S.ndL hx)
          obtain ⟨n1, n2⟩ := nodeB_nd (hs := hs) (hv := hv) hK (S.ndL hx)
          have hv' := C.leaf x hx
          rw [hF] at h1
          simp only [List.length_cons, List.length_nil] at h1
          rw [show hd [x] = x.a from rfl, if_neg (by omega), if_neg (by omega), if_pos ⟨n1, by omega⟩, n2]
          refine Pg.Ok.get (by omega) (by omega) (Pg.Ok.get (by omega) (by omega) ?_)
          rw [if_pos h4]
          refine Pg.Ok.pure ⟨rfl, rfl, ?_, by simp⟩
          rw [hv'.1, hv'.2]
          exact .refl _
        | _ :: _ :: _, h => simp at h
      · obtain rfl : d = 4 := by omega
        refine (chain_ok hK S C _ (k + 1) _ left Fd_sub (C.next _) hcl hcell h1 h2).mono ?_
        rintro r m' ⟨rfl, rfl⟩
        exact ⟨rfl, rfl, .refl _, rfl⟩
    · rw [vl, if_neg hb] at hcell
      have hd4 : d < 4 := (S.dom _ _ hb).1
      have hnd := S.ndB hb
      have hlo := Tsh.ndlo hnd
      obtain ⟨n1, n2⟩ := nodeB_nd (hs := hs) (hv := hv) hK hnd
      have hkc := kid_cost S hd4 hb
      have hsp := sumK_pos (fun j => cost I Q (d + 1) (pre (kidH (pre h d) d j) (d + 1))) (fun j => cost_pos _ _ _ _) 8 0
      have hp := pre_pos h d
      unfold walkK
      refine Pg.Ok.get hcl.1 hcl.2 ?_
      rw [hcell, if_neg (by omega), if_pos (by omega), show 0 - (0 - B d (pre h d)) = B d (pre h d) by omega, w64_in (by omega) (by omega), if_pos ⟨n1, by omega, by omega⟩, n2]
      have := kids_ok (m := m) (f := fun c l => (t0 K hs hv).walkK k c (d + 1) l) (F := fun j => kid d (pre h d) I j) (c := fun j => cost I Q (d + 1) (pre (kidH (pre h d) d j) (d + 1))) (b := B d (pre h d)) (W := left - 1) (fun j => cost_pos _ _ _ _) (fun j l hj hl hl2 => ?_) 8 0 [] (left - 1) rfl (by omega) (Int.le_refl _)
      · rw [show B d (pre h d) + ((0 : Nat) : Int) = B d (pre h d) by omega] at this
        refine this.mono ?_
        rintro r m' ⟨rfl, f1, ⟨o, f2, f3⟩, f4⟩
        refine ⟨rfl, f1, ?_, by omega⟩
        rw [f2, List.nil_append]
        refine f3.trans (List.Perm.map _ ?_)
        rw [cat_congr 8 0 fun j h1 h2 => kid_sub (I := I) hd4 hp (i := (j : Int)) (by omega)]
        exact (cat_perm (fun x => dig x.h d) 8 0 (Fd d (pre h d) I) fun x _ => by have := dig_pos x.h d; omega).symm
      · obtain ⟨k1, k2⟩ := kid_pre (i := (j : Int)) hd4 hp (by omega)
        have hex : Ex B (kidH (pre h d) d j) (d + 1) := by show B d (pre _ d) ≠ 0; rw [k1]; exact hb
        have := walkK_ok hK S C k (d + 1) (kidH (pre h d) d j) l hex hl (by have := cost_pos I Q (d + 1) (pre (kidH (pre h d) d j) (d + 1)); omega) (by omega)
        rw [show cl B (kidH (pre h d) d j) (d + 1) = B d (pre h d) + j by simp only [cl]; rw [k1, k2]] at this
        exact this
theorem walk_ok (hK : 0 ≤ K ∧ K ≤ 60) (M : TM K hs hv m I B Q) :
    Pg.Ok 544 ((t0 K hs hv).walk) m fun r m' => m' = m ∧ r.1.2 = true ∧ r.1.1.Perm (I.map nv) := by
  have hf := few hK M
  have e1 : Fd 0 (pre 0 0) I = I := List.filter_eq_self.2 fun x _ => by rw [pre_zero, pre_zero]; rfl
  have e2 : Qd 0 (pre 0 0) Q = Q := List.filter_eq_self.2 fun x _ => by rw [pre_zero, pre_zero]; simp
  have hc : cost I Q 0 (pre 0 0) ≤ K := by unfold cost; rw [e1, e2]; exact hf
  refine (walkK_ok hK M.sh M.tc (K.toNat + 1) 0 0 K trivial hc (by omega) hK.2).mono ?_
  rintro r m' ⟨rfl, f1, f2, _⟩
  rw [e1] at f2
  exact ⟨rfl, f1, f2⟩
end Tr
end Sim

namespace Sim
open Go Go.Vc
structure Ri where
  n : Int
  h : Int
  v : Int
def rfind : List Ri → Int → Nat × Bool
  | [], _ => (0, false)
  | x :: l, n => if n ≤ x.n then (0, decide (x.n = n)) else ((rfind l n).1 + 1, (rfind l n).2)
def rput (l : List Ri) (x : Ri) : List Ri := l.take (rfind l x.n).1 ++ [x] ++ l.drop (if (rfind l x.n).2 = true then (rfind l x.n).1 + 1 else (rfind l x.n).1)
def rdrop (l : List Ri) (n : Int) : List Ri := if (rfind l n).2 = true then l.take (rfind l n).1 ++ l.drop ((rfind l n).1 + 1) else l
def rP (l : List Ri) (d k : Nat) : Int := match l[k]? with | some x => pre x.h d | none => -1
def rFirst (P : Nat → Int) (i k : Nat) : Bool := !(List.range k).any fun j => decide (j < i ∧ P j = P i)
def rMore (P : Nat → Int) (i k : Nat) : Bool := (List.range k).any fun j => decide (j ≠ i ∧ P j = P i)
def rOne (P : Nat → Int) (N i : Nat) : Bool := rFirst P i N && rMore P i N
def rCnt (P : Nat → Int) (N i : Nat) : Nat := (List.range i).countP fun j => rOne P N j
def rAll (l : List Ri) : Nat → Nat
  | 0 => l.length
  | d + 1 => rAll l d + rCnt (rP l d) l.length l.length
def rnodes (l : List Ri) : Nat := rAll l 4
def Up (l : List Ri) : Prop := l.Pairwise fun a b => a.n < b.n
def ri (x : It) : Ri := ⟨x.n, x.h, x.v⟩
structure Ag (I : List It) (l : List Ri) : Prop where
  up : Up l
  pm : l.Perm (I.map ri)
theorem rfind_split (n : Int) : ∀ l : List Ri, ∃ A B, l = A ++ B ∧ (rfind l n).1 = A.length ∧ (∀ a ∈ A, a.n < n) ∧ ((rfind l n).2 = true → ∃ y B', B = y :: B' ∧ y.n = n) ∧ ((rfind l n).2 = false → Up l → ∀ y ∈ B, n < y.n)
  | [] => ⟨[], [], rfl, rfl, by simp, by simp [rfind], by simp⟩
  | x :: l => by
    unfold rfind
    by_cases h : n ≤ x.n
    · rw [if_pos h]
      refine ⟨[], x :: l, rfl, rfl, by simp, fun hx => ⟨x, l, rfl, of_decide_eq_true hx⟩, fun hx hu y hy => ?_⟩
      have hx : ¬ x.n = n := of_decide_eq_false hx
      rcases List.mem_cons.1 hy with rfl | hy
      · omega
      · have := (List.pairwise_cons.1 hu).1 y hy; omega
    · rw [if_neg h]
      obtain ⟨A, B, h1, h2, h3, h4, h5⟩ := rfind_split n l
      refine ⟨x :: A, B, by rw [h1]; rfl, by dsimp only; rw [h2]; rfl, fun a ha => ?_, h4, fun hx hu => h5 hx (List.pairwise_cons.1 hu).2⟩
      rcases List.mem_cons.1 ha with rfl | ha
      · omega
      · exact h3 a ha
theorem up_mid {A B : List Ri} {y : Ri} (h : Up (A ++ y :: B)) : (∀ a ∈ A, a.n < y.n) ∧ (∀ b ∈ B, y.n < b.n) ∧ Up (A ++ B) := by
  obtain ⟨h1, h2, h3⟩ := List.pairwise_append.1 h
  obtain ⟨h4, h5⟩ := List.pairwise_cons.1 h2
  exact ⟨fun a ha => h3 a ha y (by simp), h4, List.pairwise_append.2 ⟨h1, h5, fun a ha b hb => h3 a ha b (by simp [hb])⟩⟩
theorem up_ins {A B : List Ri} {y : Ri} (h : Up (A ++ B)) (h1 : ∀ a ∈ A, a.n < y.n) (h2 : ∀ b ∈ B, y.n < b.n) : Up (A ++ y :: B) := by
  obtain ⟨h3, h4, h5⟩ := List.pairwise_append.1 h
  refine List.pairwise_append.2 ⟨h3, List.pairwise_cons.2 ⟨h2, h4⟩, fun a ha b hb => ?_⟩
  rcases List.mem_cons.1 hb with rfl | hb
  · exact h1 a ha
  · exact h5 a ha b hb
theorem rfind_look {I : List It} {l : List Ri} (hA : Ag I l) (n : Int) :
    (∃ x A B, Tr.look I n = some x ∧ l = A ++ ri x :: B ∧ rfind l n = (A.length, true) ∧ x.n = n) ∨ (∃ A B, Tr.look I n = none ∧ l = A ++ B ∧ rfind l n = (A.length, false) ∧ (∀ a ∈ A, a.n < n) ∧ ∀ b ∈ B, n < b.n) := by
  obtain ⟨A, B, h1, h2, h3, h4, h5⟩ := rfind_split n l
  have hn : (I.map (·.n)).Nodup := by
    have : (l.map (·.n)).Nodup := List.pairwise_map.2 (hA.up.imp fun h => by omega)
    have h6 := (hA.pm.map (·.n)).nodup_iff.1 this
    rw [List.map_map] at h6
    exact h6
  cases hb : (rfind l n).2 with
  | true =>
    obtain ⟨y, B', rfl, hy⟩ := h4 hb
    have hm : y ∈ I.map ri := hA.pm.mem_iff.1 (by rw [h1]; simp)
    obtain ⟨x, hx, hxy⟩ := List.mem_map.1 hm
    have hxn : x.n = n := by rw [← hy, ← hxy]; rfl
    refine .inl ⟨x, A, B', ?_, by rw [h1, hxy], Prod.ext h2 hb, hxn⟩
    cases hl : Tr.look I n with
    | none => exact absurd hxn (Tr.look_none hl x hx)
    | some z =>
      obtain ⟨hz, hzn⟩ := Tr.look_some hl
      have : ∀ (L : List It), (L.map (·.n)).Nodup → x ∈ L → z ∈ L → x = z := by
        intro L
        induction L with
        | nil => intro _ h; cases h
        | cons w L ih =>
          intro hn h1' h2'
          rw [List.map_cons, List.nodup_cons] at hn
          rcases List.mem_cons.1 h1' with rfl | h3 <;> rcases List.mem_cons.1 h2' with rfl | h4
          · rfl
          · exact absurd (List.mem_map.2 ⟨z, h4, by omega⟩) hn.1
          · exact absurd (List.mem_map.2 ⟨x, h3, by omega⟩) hn.1
          · exact ih hn.2 h3 h4
      rw [this I hn hx hz]
  | false =>
    refine .inr ⟨A, B, ?_, h1, Prod.ext h2 hb, h3, h5 hb hA.up⟩
    cases hl : Tr.look I n with
    | none => rfl
    | some z =>
      obtain ⟨hz, hzn⟩ := Tr.look_some hl
      have hm : ri z ∈ l := hA.pm.mem_iff.2 (List.mem_map.2 ⟨z, hz, rfl⟩)
      rw [h1] at hm
      have hzr : (ri z).n = n := hzn
      rcases List.mem_append.1 hm with hm | hm
      · have := h3 _ hm; omega
      · have := h5 hb hA.up _ hm; omega
theorem ag_put_new {I : List It} {l : List Ri} (hA : Ag I l) {n h v a : Int} (hl : Tr.look I n = none) : Ag (⟨n, h, v, a⟩ :: I) (rput l ⟨n, h, v⟩) := by
  rcases rfind_look hA n with ⟨x, A, B, h1, _⟩ | ⟨A, B, _, h2, h3, h4, h5⟩
  · rw [hl] at h1; cases h1
  · have e : rput l ⟨n, h, v⟩ = A ++ ⟨n, h, v⟩ :: B := by
      unfold rput
      dsimp only
      rw [h3]
      dsimp only
      rw [if_neg (by decide), h2, List.take_left, List.drop_left, List.append_assoc]; rfl
    rw [e]
    refine ⟨up_ins (h2 ▸ hA.up) h4 h5, ?_⟩
    exact List.perm_middle.trans (.cons _ (h2 ▸ hA.pm))
theorem ag_put_old {I : List It} {l : List Ri} (hA : Ag I l) {n h v : Int} {x : It} (hl : Tr.look I n = some x) (hh : x.h = h) : Ag (setV n v I) (rput l ⟨n, h, v⟩) := by
  rcases rfind_look hA n with ⟨y, A, B, h1, h2, h3, h4⟩ | ⟨A, B, h1, _⟩
  · rw [hl] at h1
    cases h1
    have e : rput l ⟨n, h, v⟩ = A ++ ⟨n, h, v⟩ :: B := by
      unfold rput
      dsimp only
      rw [h3]
      dsimp only
      rw [if_pos rfl, h2, List.take_left, show (A ++ ri x :: B).drop (A.length + 1) = B by rw [← List.drop_drop, List.drop_left]; rfl, List.append_assoc]; rfl
    rw [e]
    have hu := hA.up
    rw [h2] at hu
    obtain ⟨k1, k2, k3⟩ := up_mid hu
    have hrn : (ri x).n = n := h4
    rw [hrn] at k1 k2
    refine ⟨up_ins k3 k1 k2, ?_⟩
    have hp := hA.pm
    rw [h2] at hp
    let g : Ri → Ri := fun r => if r.n = n then { r with v := v } else r
    have hg := hp.map g
    have e2 : (I.map ri).map g = (setV n v I).map ri := by
      unfold setV
      rw [List.map_map, List.map_map]
      refine List.map_congr_left fun y _ => ?_
      show (if y.n = n then { ri y with v := v } else ri y) = ri (if y.n = n then { y with v := v } else y)
      split <;> rfl
    have e3 : (A ++ ri x :: B).map g = A ++ ⟨n, h, v⟩ :: B := by
      rw [List.map_append, List.map_cons]
      have eA : A.map g = A := by
        have : ∀ L : List Ri, (∀ a ∈ L, a.n ≠ n) → L.map g = L := by
          intro L
          induction L with
          | nil => intro _; rfl
          | cons a L ih =>
            intro h
            rw [List.map_cons, ih fun b hb => h b (by simp [hb])]
            congr 1
            exact if_neg (h a (by simp))
        exact this A fun a ha => by have := k1 a ha; omega
      have eB : B.map g = B := by
        have : ∀ L : List Ri, (∀ a ∈ L, a.n ≠ n) → L.map g = L := by
          intro L
          induction L with
          | nil => intro _; rfl
          | cons a L ih =>
            intro h
            rw [List.map_cons, ih fun b hb => h b (by simp [hb])]
            congr 1
            exact if_neg (h a (by simp))
        exact this B fun a ha => by have := k2 a ha; omega
      have eX : g (ri x) = ⟨n, h, v⟩ := by
        show (if (ri x).n = n then { ri x with v := v } else ri x) = _
        rw [if_pos hrn]
        show (⟨x.n, x.h, v⟩ : Ri) = _
        rw [h4, hh]
      rw [eA, eB, eX]
    rw [e2, e3] at hg
    exact hg
  · rw [hl] at h1; cases h1
theorem ag_drop {I : List It} {l : List Ri} (hA : Ag I l) {n : Int} {x : It} (hl : Tr.look I n = some x) : Ag (cut n I) (rdrop l n) := by
  rcases rfind_look hA n with ⟨y, A, B, h1, h2, h3, h4⟩ | ⟨A, B, h1, _⟩
  · have e : rdrop l n = A ++ B := by
      unfold rdrop
      rw [h3]
      dsimp only
      rw [if_pos rfl, h2, List.take_left, show (A ++ ri y :: B).drop (A.length + 1) = B by rw [← List.drop_drop, List.drop_left]; rfl]
    rw [e]
    have hu := hA.up
    rw [h2] at hu
    obtain ⟨k1, k2, k3⟩ := up_mid hu
    have hrn : (ri y).n = n := h4
    rw [hrn] at k1 k2
    refine ⟨k3, ?_⟩
    have hp := (h2 ▸ hA.pm).filter fun (r : Ri) => decide (r.n ≠ n)
    have e2 : (I.map ri).filter (fun r => decide (r.n ≠ n)) = (cut n I).map ri := by
      unfold cut
      rw [List.filter_map]; rfl
    have e3 : (A ++ ri y :: B).filter (fun r => decide (r.n ≠ n)) = A ++ B := by
      rw [List.filter_append, List.filter_cons_of_neg (by simpa using hrn), List.filter_eq_self.2 fun a ha => by have := k1 a ha; simp; omega, List.filter_eq_self.2 fun a ha => by have := k2 a ha; simp; omega]
    rw [e2, e3] at hp
    exact hp
  · rw [hl] at h1; cases h1
theorem rdrop_none {I : List It} {l : List Ri} (hA : Ag I l) {n : Int} (hl : Tr.look I n = none) : rdrop l n = l := by
  rcases rfind_look hA n with ⟨y, A, B, h1, h2, h3, h4⟩ | ⟨A, B, h1, h2, h3, _⟩
  · rw [hl] at h1; cases h1
  · unfold rdrop
    rw [h3]
    exact if_neg (fun h => by cases h)
end Sim

namespace Sim
open Go Go.Vc
theorem nodup_sub {α : Type} [DecidableEq α] : ∀ {l l' : List α}, l.Nodup → (∀ x ∈ l, x ∈ l') → l.length ≤ l'.length
  | [], _, _, _ => Nat.zero_le _
  | x :: l, l', hn, hs => by
    obtain ⟨h1, h2⟩ := List.nodup_cons.1 hn
    have hx := hs x (by simp)
    have h3 := (List.perm_cons_erase hx).length_eq
    rw [List.length_cons] at h3
    have := nodup_sub (l := l) (l' := l'.erase x) h2 fun y hy => (List.mem_erase_of_ne fun (e : y = x) => h1 (e ▸ hy)).2 (hs y (by simp [hy]))
    rw [List.length_cons]; omega
def dup (P : Nat → Int) (N : Nat) : List Int := ((List.range N).filter fun j => rOne P N j).map P
theorem dup_len (P : Nat → Int) (N : Nat) : (dup P N).length = rCnt P N N := by
  unfold dup rCnt
  rw [List.length_map, List.countP_eq_length_filter]
theorem rFirst_iff {P : Nat → Int} {i k : Nat} : rFirst P i k = true ↔ ∀ j < k, j < i → P j ≠ P i := by
  unfold rFirst
  rw [Bool.not_eq_true', List.any_eq_false]
  constructor
  · intro h j h1 h2 h3
    exact h j (List.mem_range.2 h1) (decide_eq_true ⟨h2, h3⟩)
  · intro h j h1 h2
    obtain ⟨h3, h4⟩ := of_decide_eq_true h2
    exact h j (List.mem_range.1 h1) h3 h4
theorem rMore_iff {P : Nat → Int} {i k : Nat} : rMore P i k = true ↔ ∃ j < k, j ≠ i ∧ P j = P i := by
  unfold rMore
  rw [List.any_eq_true]
  constructor
  · rintro ⟨j, h1, h2⟩
    obtain ⟨h3, h4⟩ := of_decide_eq_true h2
    exact ⟨j, List.mem_range.1 h1, h3, h4⟩
  · rintro ⟨j, h1, h2, h3⟩
    exact ⟨j, List.mem_range.2 h1, decide_eq_true ⟨h2, h3⟩⟩
theorem dup_nodup (P : Nat → Int) (N : Nat) : (dup P N).Nodup := by
  unfold dup
  refine List.pairwise_map.2 ?_
  have h0 : (List.range N).Pairwise (· < ·) := List.pairwise_lt_range
  refine (List.pairwise_filter.2 (h0.imp_of_mem fun {a b} ha hb hab => ?_))
  intro _ h2 he
  have h3 := (Bool.and_eq_true _ _ ▸ h2 : rFirst P b N = true ∧ rMore P b N = true).1
  exact rFirst_iff.1 h3 a (List.mem_range.1 ha) hab he
theorem dup_mem {P : Nat → Int} {N : Nat} {p : Int} : p ∈ dup P N ↔ ∃ i j, i < j ∧ j < N ∧ P i = p ∧ P j = p := by
  unfold dup
  rw [List.mem_map]
  constructor
  · rintro ⟨i, h1, rfl⟩
    obtain ⟨h1, h2⟩ := List.mem_filter.1 h1
    have h3 := (Bool.and_eq_true _ _ ▸ h2 : rFirst P i N = true ∧ rMore P i N = true)
    obtain ⟨j, h4, h5, h6⟩ := rMore_iff.1 h3.2
    have h7 := rFirst_iff.1 h3.1 j h4
    refine ⟨i, j, ?_, h4, rfl, h6⟩
    refine Classical.byContradiction fun hc => h7 (by omega) h6
  · rintro ⟨i, j, h1, h2, h3, h4⟩
    -- the first of them
    have hex : ∃ i, ∃ j, i < j ∧ j < N ∧ P i = p ∧ P j = p := ⟨i, j, h1, h2, h3, h4⟩
    have : ∀ (n i : Nat), i ≤ n → (∃ j, i < j ∧ j < N ∧ P i = p ∧ P j = p) → ∃ i, (∃ j, i < j ∧ j < N ∧ P i = p ∧ P j = p) ∧ ∀ i' < i, P i' ≠ p := by
      intro n
      induction n with
      | zero => intro i hi he; exact ⟨i, he, fun i' h => absurd h (by omega)⟩
      | succ n ih =>
        intro i hi he
        by_cases hc : ∃ i' < i, P i' = p
        · obtain ⟨i', h5, h6⟩ := hc
          obtain ⟨j, h7, h8, h9, h10⟩ := he
          exact ih i' (by omega) ⟨i, h5, by omega, h6, h9⟩
        · exact ⟨i, he, fun i' h5 h6 => hc ⟨i', h5, h6⟩⟩
    obtain ⟨i, ⟨j, h1, h2, h3, h4⟩, h5⟩ := this i i (Nat.le_refl i) ⟨j, h1, h2, h3, h4⟩
    refine ⟨i, List.mem_filter.2 ⟨List.mem_range.2 (by omega), ?_⟩, h3⟩
    unfold rOne
    rw [Bool.and_eq_true]
    exact ⟨rFirst_iff.2 fun i' _ h6 h7 => h5 i' h6 (by rw [h7, h3]), rMore_iff.2 ⟨j, h2, by omega, by rw [h3, h4]⟩⟩
theorem two_at {α : Type} (q : α → Bool) : ∀ (l : List α), 2 ≤ (l.filter q).length ↔ ∃ (i j : Nat) (x y : α), i < j ∧ l[i]? = some x ∧ l[j]? = some y ∧ q x = true ∧ q y = true
  | [] => by simp
  | z :: l => by
    have ih := two_at q l
    by_cases hz : q z = true
    · rw [List.filter_cons_of_pos hz, List.length_cons]
      constructor
      · intro h
        have : 0 < (l.filter q).length := by omega
        obtain ⟨y, hy⟩ := List.exists_mem_of_length_pos this
        obtain ⟨h1, h2⟩ := List.mem_filter.1 hy
        obtain ⟨j, h3⟩ := List.mem_iff_getElem?.1 h1
        exact ⟨0, j + 1, z, y, by omega, rfl, h3, hz, h2⟩
      · rintro ⟨i, j, x, y, h1, h2, h3, h4, h5⟩
        obtain ⟨j, rfl⟩ : ∃ j', j = j' + 1 := ⟨j - 1, by omega⟩
        have : y ∈ l.filter q := List.mem_filter.2 ⟨List.mem_iff_getElem?.2 ⟨j, h3⟩, h5⟩
        have := List.length_pos_of_mem this
        omega
    · rw [List.filter_cons_of_neg hz, ih]
      constructor
      · rintro ⟨i, j, x, y, h1, h2, h3, h4, h5⟩
        exact ⟨i + 1, j + 1, x, y, by omega, h2, h3, h4, h5⟩
      · rintro ⟨i, j, x, y, h1, h2, h3, h4, h5⟩
        obtain ⟨j, rfl⟩ : ∃ j', j = j' + 1 := ⟨j - 1, by omega⟩
        cases i with
        | zero => cases h2; exact absurd h4 hz
        | succ i => exact ⟨i, j, x, y, by omega, h2, h3, h4, h5⟩
theorem rP_some {l : List Ri} {d k : Nat} {p : Int} (hp : 0 ≤ p) : rP l d k = p ↔ ∃ x, l[k]? = some x ∧ pre x.h d = p := by
  unfold rP
  cases h : l[k]? with
  | none => constructor
            · intro h1; exact absurd h1 (by dsimp only; omega)
            · rintro ⟨x, h1, _⟩; cases h1
  | some x => constructor
              · intro h1; exact ⟨x, rfl, h1⟩
              · rintro ⟨y, h1, h2⟩; cases h1; exact h2
theorem Ag.two {I : List It} {l : List Ri} (hA : Ag I l) (d : Nat) {p : Int} (hp : 0 ≤ p) : p ∈ dup (rP l d) l.length ↔ 2 ≤ (Fd d p I).length := by
  have e : (Fd d p I).length = (l.filter fun x => decide (pre x.h d = p)).length := by
    have h1 := (hA.pm.filter fun (x : Ri) => decide (pre x.h d = p)).length_eq
    rw [h1, List.filter_map, List.length_map]; rfl
  rw [e, two_at, dup_mem]
  constructor
  · rintro ⟨i, j, h1, h2, h3, h4⟩
    obtain ⟨x, h5, h6⟩ := (rP_some hp).1 h3
    obtain ⟨y, h7, h8⟩ := (rP_some hp).1 h4
    exact ⟨i, j, x, y, h1, h5, h7, decide_eq_true h6, decide_eq_true h8⟩
  · rintro ⟨i, j, x, y, h1, h2, h3, h4, h5⟩
    exact ⟨i, j, h1, (List.getElem?_eq_some_iff.1 h3).1, (rP_some hp).2 ⟨x, h2, of_decide_eq_true h4⟩, (rP_some hp).2 ⟨y, h3, of_decide_eq_true h5⟩⟩
def Qat (d : Nat) (Q : List (Nat × Int)) : List Int := (Q.filter fun q => decide ((q.1 : Int) = d)).map (·.2)
theorem Qat_mem {d : Nat} {Q : List (Nat × Int)} {p : Int} : p ∈ Qat d Q ↔ (d, p) ∈ Q := by
  unfold Qat
  rw [List.mem_map]
  constructor
  · rintro ⟨q, h1, rfl⟩
    obtain ⟨h2, h3⟩ := List.mem_filter.1 h1
    have : q.1 = d := by have := of_decide_eq_true h3; omega
    rw [← this]; exact h2
  · intro h
    exact ⟨(d, p), List.mem_filter.2 ⟨h, decide_eq_true rfl⟩, rfl⟩
theorem Qat_nodup {Q : List (Nat × Int)} (hQ : Q.Nodup) (d : Nat) : (Qat d Q).Nodup := by
  unfold Qat
  refine List.pairwise_map.2 ((hQ.filter _).imp_of_mem fun {a b} ha hb hne he => hne ?_)
  have h1 := of_decide_eq_true (List.mem_filter.1 ha).2
  have h2 := of_decide_eq_true (List.mem_filter.1 hb).2
  exact Prod.ext (by omega) he
theorem Qat_sum {Q : List (Nat × Int)} (h4 : ∀ q ∈ Q, q.1 < 4) : Q.length = (Qat 0 Q).length + (Qat 1 Q).length + (Qat 2 Q).length + (Qat 3 Q).length := by
  have h1 := (cat_perm (fun q : Nat × Int => (q.1 : Int)) 4 0 Q fun q hq => by have := h4 q hq; omega).length_eq
  have e : ∀ F : Nat → List (Nat × Int), cat F 0 4 = F 0 ++ (F 1 ++ (F 2 ++ (F 3 ++ []))) := fun _ => rfl
  rw [h1, e]
  simp only [List.length_append, Qat, List.length_map, List.length_nil]
  omega
theorem rnodes_eq (l : List Ri) : rnodes l = l.length + ((dup (rP l 0) l.length).length + (dup (rP l 1) l.length).length + (dup (rP l 2) l.length).length + (dup (rP l 3) l.length).length) := by
  simp only [rnodes, rAll, dup_len]; omega
theorem few_nodes {I : List It} {l : List Ri} (hA : Ag I l) {Q : List (Nat × Int)} (hQ : Q.Nodup) (h : ∀ e q, (e, q) ∈ Q → e < 4 ∧ 0 ≤ q ∧ 2 ≤ (Fd e q I).length) : l.length + Q.length ≤ rnodes l := by
  rw [rnodes_eq, Qat_sum fun q hq => (h q.1 q.2 hq).1]
  have : ∀ d, (Qat d Q).length ≤ (dup (rP l d) l.length).length := fun d => nodup_sub (Qat_nodup hQ d) fun p hp => (hA.two d (h d p (Qat_mem.1 hp)).2.1).2 (h d p (Qat_mem.1 hp)).2.2
  have h0 := this 0; have h1 := this 1; have h2 := this 2; have h3 := this 3
  omega
namespace Tr
variable {K : Int} {hs : Int → Int} {hv : Int → Bool} {I : List It} {B : Br} {Q : List (Nat × Int)} {m : Int → Int}
theorem has_branch (S : Tsh K hs hv I B Q) (h : Int) : ∀ (d : Nat), d < 4 → 2 ≤ (Fd d (pre h d) I).length → B d (pre h d) ≠ 0
  | 0, h4, h2, hb => by have := S.one 0 h h4 hb trivial; omega
  | d + 1, h4, h2, hb => by
    have h3 := has_branch S h d (by omega) (Nat.le_trans h2 (Fd_len h I (by omega) (by omega)))
    have := S.one (d + 1) h h4 hb h3
    omega
theorem nodes_ok (M : TM K hs hv m I B Q) (hT : Tight I B) {l : List Ri} (hA : Ag I l) : rnodes l = I.length + Q.length := by
  have S := M.sh
  have hlen : l.length = I.length := by rw [hA.pm.length_eq, List.length_map]
  have h1 := few_nodes hA S.qn fun e q hq => by
    have hb := (S.qm e q).2 hq
    have := S.dom _ _ hb
    exact ⟨this.1, this.2.1, hT _ _ hb⟩
  have h2 : rnodes l ≤ l.length + Q.length := by
    rw [rnodes_eq, Qat_sum fun q hq => (S.dom _ _ ((S.qm q.1 q.2).2 hq)).1]
    have : ∀ d, d < 4 → (dup (rP l d) l.length).length ≤ (Qat d Q).length := fun d hd => nodup_sub (dup_nodup _ _) fun p hp => by
      have hp0 : 0 ≤ p := by
        obtain ⟨i, j, h1, h2, h3, h4⟩ := dup_mem.1 hp
        rw [← h3]
        unfold rP
        cases h : l[i]? with
        | none => exact absurd (List.getElem?_eq_none_iff.1 h) (by omega)
        | some x => exact (pre_pos x.h d).1
      have h2 := (hA.two d hp0).1 hp
      have hne : 0 < (Fd d p I).length := by omega
      obtain ⟨x, hx⟩ := List.exists_mem_of_length_pos hne
      have hxp := (mem_Fd.1 hx).2
      rw [← hxp] at h2 ⊢
      exact Qat_mem.2 ((S.qm _ _).1 (has_branch S x.h d hd h2))
    have h0 := this 0 (by decide); have h1 := this 1 (by decide); have h2 := this 2 (by decide); have h3 := this 3 (by decide)
    omega
  omega
theorem over_nodes {n h v a : Int} {l : List Ri} (hA : Ag (⟨n, h, v, a⟩ :: I) l) (hO : Over K I h) : K < rnodes l := by
  obtain ⟨Q, h1, h2, h3⟩ := hO
  have hlen : l.length = I.length + 1 := by rw [hA.pm.length_eq, List.length_map, List.length_cons]
  have := few_nodes hA h2 fun e q hq => by
    obtain ⟨h4, h5, h6, h7⟩ := h3 e q hq
    refine ⟨h4, h5, ?_⟩
    rw [Fd_cons]
    rcases h7 with h7 | ⟨rfl, h7⟩
    · split
      · rw [List.length_cons]; omega
      · exact h7
    · rw [if_pos rfl, List.length_cons]; omega
  omega
end Tr
end Sim

namespace Sim
open Go Go.Vc
abbrev encT (x : Ri) : List Go.Value := [.int .i64 x.n, .int .u64 x.h, .int .i64 x.v]
theorem encT_len (l : List Ri) : ∀ x ∈ l, (encT x).length = 3 := fun _ _ => rfl
theorem encT_one : ∀ (l : List Ri), allOne (l.flatMap encT) = true
  | [] => rfl
  | x :: l => by
    rw [List.flatMap_cons]
    exact encT_one l
theorem rfind_le (n : Int) : ∀ l : List Ri, (rfind l n).1 ≤ l.length ∧ ((rfind l n).2 = true → (rfind l n).1 < l.length)
  | [] => ⟨Nat.le_refl _, fun h => by cases h⟩
  | x :: l => by
    have := rfind_le n l
    unfold rfind
    split
    · exact ⟨Nat.zero_le _, fun _ => by rw [List.length_cons]; dsimp only; omega⟩
    · rw [List.length_cons]
      exact ⟨by dsimp only; omega, fun h => by have := this.2 h; dsimp only; omega⟩
theorem rput_len (l : List Ri) (x : Ri) : (rput l x).length ≤ l.length + 1 := by
  unfold rput
  simp only [List.length_append, List.length_take, List.length_drop, List.length_cons, List.length_nil]
  split <;> omega
theorem rFirst_succ (P : Nat → Int) (i k : Nat) : rFirst P i (k + 1) = (rFirst P i k && !decide (k < i ∧ P k = P i)) := by
  unfold rFirst; rw [List.range_succ, List.any_append]; simp
theorem rMore_succ (P : Nat → Int) (i k : Nat) : rMore P i (k + 1) = (rMore P i k || decide (k ≠ i ∧ P k = P i)) := by
  unfold rMore; rw [List.range_succ, List.any_append]; simp
theorem rCnt_succ (P : Nat → Int) (N i : Nat) : rCnt P N (i + 1) = rCnt P N i + (if rOne P N i = true then 1 else 0) := by
  unfold rCnt; rw [List.range_succ, List.countP_append, List.countP_singleton]
theorem rCnt_le (P : Nat → Int) (N i : Nat) : rCnt P N i ≤ i := by
  unfold rCnt; exact Nat.le_trans List.countP_le_length (by rw [List.length_range]; exact Nat.le_refl _)
theorem rAll_le (l : List Ri) (d : Nat) : rAll l d ≤ (d + 1) * l.length := by
  induction d with
  | zero => simp [rAll]
  | succ d ih =>
    have := rCnt_le (rP l d) l.length l.length
    rw [rAll, Nat.succ_mul]
    omega
end Sim
namespace Go.Proofs.YtloekplbhknepaaGreat
open Go.Vc Sim
set_option maxHeartbeats 4000000
section
variable {w0 : World} {n : Nat} {sh : Shared} {Q : Exit → Env → List Deferred → List Asn → Prop} {k : List Item} {ρ : Env} {df : List Deferred} {Γ : List Asn}
variable {ops : Array Oper} {i : Nat} {ty : TypeId} {pos : String} {aft : Array Edge}
theorem reg_rem_nn {b : Fl} {x y : Operand} {t t2 : TypeId} {d : Tmp} {kd : IntKind} {a B : Int} {l : List (Fl × Nat × Oper)} (hx : ev ρ x = .int kd a) (hy : ev ρ y = .int kd B) (ha : 0 ≤ a) (hB : 0 < B) (hr : Reg PP w0 n sh Q ops l k (ρ.set d (.int kd (a % B))) df Γ) :
    Reg PP w0 n sh Q ops ((b, i, ⟨some d, .binOp .rem t x y t2, ty, pos, aft, none⟩) :: l) k ρ df Γ :=
  reg_rem hx hy (by omega) (by rw [Int.tmod_eq_emod_of_nonneg ha]; exact hr)
end
theorem rfFind (w0 : World) (sh : Shared) (a : Option Addr) (cap : Nat) (l : List Ri) (hv : RdSl w0 sh encT 3 (.slice a l.length cap) l) (hlen : l.length ≤ 1000000) (n : Int) :
    FnE PP w0 sh 65 [.slice a l.length cap, .int .i64 n] [] (.tuple #[.int .i64 ((rfind l n).1 : Nat), .bool (rfind l n).2]) [] := by
  refine fn_of_run en65 fn65 rfl rfl rfl ?_
  repeat (first | refine zck ?_ | refine zcl ?_ | refine zcm ?_ | refine zcn ?_)
  first | refine zcp (by kernel_rfl) ?_ | refine zcq PP_mixed (by kernel_rfl) (by kernel_rfl) ?_
  repeat' (refine zap rfl ?_; first | refine zan rfl ?_)
  all_goals refine zch ?_
  all_goals repeat (first | refine zck ?_ | refine zcl ?_ | refine zcm ?_ | refine zcn ?_)
  repeat (first | refine zck ?_ | refine zcl ?_ | refine zcm ?_ | refine zcn ?_)
  first | refine zcp (by kernel_rfl) ?_ | refine zcq PP_mixed (by kernel_rfl) (by kernel_rfl) ?_
  repeat' (refine zap rfl ?_; first | refine zan rfl ?_)
  all_goals refine zch ?_
  all_goals repeat (first | refine zck ?_ | refine zcl ?_ | refine zcm ?_ | refine zcn ?_)
  refine run_loop (S := Nat) (fun i => [(0, .slice a l.length cap), (1, .int .i64 n), (4, .int .i64 0), (5, .bool false), (6, .int .i64 (i : Int))])
    (fun i Γ => Γ = [] ∧ i ≤ l.length ∧ rfind l n = ((rfind (l.drop i) n).1 + i, (rfind (l.drop i) n).2)) (fun i => l.length - i) 0 ⟨rfl, rfl, rfl, rfl, rfl, trivial⟩ ⟨rfl, Nat.zero_le _, rfl⟩ ?_
  rintro i Γ junk ⟨rfl, hi, he⟩
  by_cases hlt : i < l.length
  · have hx : l[i]? = some l[i] := List.getElem?_eq_getElem hlt
    have hd : l.drop i = l[i] :: l.drop (i + 1) := List.drop_eq_getElem_cons hlt
    generalize l[i] = x at hx hd
    obtain ⟨b, off, cc, TT, fr, rfl, hh, _, hcx⟩ := hv.cells hx
    have hc0 := hcx 0 _ rfl
    rw [hd, rfind] at he
    by_cases hn : n ≤ x.n
    · rw [if_pos hn] at he
      rw [he]
      repeat' (first | refine zck ?_ | refine zcp (by kernel_rfl) ?_ | refine zcq PP_mixed (by kernel_rfl) (by kernel_rfl) ?_ | refine zcm ?_ | refine zcl ?_ | (refine zap rfl ?_; first | refine zad rfl hh (hc0 _ (by omega)) ?_ | refine zan rfl ?_ | refine zan rfl ?_ | refine zce rfl ?_ | refine zao rfl ?_ | refine zbg rfl rfl (by omega) ?_ | refine zbm rfl rfl (by omega) ?_ | refine zbo rfl rfl ?_ | refine zas rfl rfl (by omega) ?_) | refine zch ?_ | refine zci rfl ?_)
      exact qret2 (fun _ _ h => h) rfl ⟨(show Value.tuple #[.int .i64 (i : Int), .bool (decide (x.n = n))] = _ from by simp), rfl⟩
    · rw [if_neg hn] at he
      repeat' (first | refine zck ?_ | refine zcp (by kernel_rfl) ?_ | refine zcm ?_ | refine zcl ?_ | refine zcn ?_ | (refine zap rfl ?_; first | refine zad rfl hh (hc0 _ (by omega)) ?_ | refine zan rfl ?_ | refine zan rfl ?_ | refine zce rfl ?_ | refine zao rfl ?_ | refine zbg rfl rfl (by omega) ?_ | refine zbn rfl rfl (by omega) ?_ | refine zau rfl rfl (by omega) ?_ | refine zas rfl rfl (by omega) ?_) | refine zch ?_ | refine zci rfl ?_ | refine zcj rfl ?_)
      refine cut_end ⟨rfl, i + 1, ⟨rfl, rfl, rfl, rfl, int_eq (by omega), trivial⟩, ⟨rfl, hlt, ?_⟩, by omega⟩
      rw [he]
      exact Prod.ext (by dsimp only; omega) rfl
  · have hil : i = l.length := by omega
    repeat' (first | refine zck ?_ | refine zcp (by kernel_rfl) ?_ | (refine zap rfl ?_; first | refine zan rfl ?_ | refine zce rfl ?_ | refine zbh rfl rfl (by omega) ?_) | refine zch ?_ | refine zcj rfl ?_)
    refine cut_exit rfl rfl ?_
    repeat' (first | refine zck ?_ | refine zcp (by kernel_rfl) ?_ | (refine zap rfl ?_; first | refine zan rfl ?_ | refine zan rfl ?_ | refine zce rfl ?_) | refine zch ?_)
    rw [he, hil, List.drop_length]
    exact ret_tmp2 rfl ⟨(show Value.tuple #[.int .i64 (l.length : Int), .bool false] = _ from by simp [rfind]), rfl⟩
theorem rfNodes (w0 : World) (sh : Shared) (a : Option Addr) (cap : Nat) (l : List Ri) (hv : RdSl w0 sh encT 3 (.slice a l.length cap) l) (hlen : l.length ≤ 1000000) (hh0 : ∀ x ∈ l, 0 ≤ x.h) :
    FnE PP w0 sh 69 [.slice a l.length cap] [] (.int .i64 (rnodes l : Nat)) [] := by
  refine fn_of_run en69 fn69 rfl rfl rfl ?_
  repeat (first | refine zck ?_ | refine zcl ?_ | refine zcm ?_ | refine zcn ?_)
  first | refine zcp (by kernel_rfl) ?_ | refine zcq PP_mixed (by kernel_rfl) (by kernel_rfl) ?_
  repeat' (refine zap rfl ?_; first | refine zan rfl ?_)
  all_goals refine zch ?_
  all_goals repeat (first | refine zck ?_ | refine zcl ?_ | refine zcm ?_ | refine zcn ?_)
  repeat (first | refine zck ?_ | refine zcl ?_ | refine zcm ?_ | refine zcn ?_)
  first | refine zcp (by kernel_rfl) ?_ | refine zcq PP_mixed (by kernel_rfl) (by kernel_rfl) ?_
  repeat' (refine zap rfl ?_; first | refine zan rfl ?_ | refine zan rfl ?_ | refine zce rfl ?_)
  all_goals refine zch ?_
  all_goals repeat (first | refine zck ?_ | refine zcl ?_ | refine zcm ?_ | refine zcn ?_)
  repeat (first | refine zck ?_ | refine zcl ?_ | refine zcm ?_ | refine zcn ?_)
  first | refine zcp (by kernel_rfl) ?_ | refine zcq PP_mixed (by kernel_rfl) (by kernel_rfl) ?_
  repeat' (refine zap rfl ?_; first | refine zan rfl ?_)
  all_goals refine zch ?_
  all_goals repeat (first | refine zck ?_ | refine zcl ?_ | refine zcm ?_ | refine zcn ?_)
  repeat (first | refine zck ?_ | refine zcl ?_ | refine zcm ?_ | refine zcn ?_)
  first | refine zcp (by kernel_rfl) ?_ | refine zcq PP_mixed (by kernel_rfl) (by kernel_rfl) ?_
  repeat' (refine zap rfl ?_; first | refine zan rfl ?_)
  all_goals refine zch ?_
  all_goals repeat (first | refine zck ?_ | refine zcl ?_ | refine zcm ?_ | refine zcn ?_)
  refine run_loop (S := Nat) (fun d => [(0, .slice a l.length cap), (3, .int .i64 (rAll l d : Nat)), (4, .int .u64 ((8 ^ d : Nat) : Int)), (5, .int .i64 (d : Int))])
    (fun d Γ => Γ = [] ∧ d ≤ 4) (fun d => 4 - d) 0 ⟨rfl, rfl, rfl, rfl, trivial⟩ ⟨rfl, by decide⟩ ?_
  rintro d Γ junk ⟨rfl, hd⟩
  have hn := rAll_le l d
  by_cases hd4 : d < 4
  · have hn1 : rAll l d ≤ 4 * l.length := by
      have : (d + 1) * l.length ≤ 4 * l.length := Nat.mul_le_mul_right _ (by omega)
      omega
    have hB : (0 : Int) < ((8 ^ d : Nat) : Int) := by have := Nat.pow_pos (n := d) (show 0 < 8 by decide); omega
    repeat (first | refine zck ?_ | refine zcl ?_ | refine zcm ?_ | refine zcn ?_)
    first | refine zcp (by kernel_rfl) ?_ | refine zcq PP_mixed (by kernel_rfl) (by kernel_rfl) ?_
    repeat' (refine zap rfl ?_; first | refine zan rfl ?_ | refine zbg rfl rfl (by omega) ?_)
    all_goals refine zch ?_
    all_goals repeat (first | refine zck ?_ | refine zcl ?_ | refine zcm ?_ | refine zcn ?_)
    refine zci rfl ?_
    repeat (first | refine zck ?_ | refine zcl ?_ | refine zcm ?_ | refine zcn ?_)
    first | refine zcp (by kernel_rfl) ?_ | refine zcq PP_mixed (by kernel_rfl) (by kernel_rfl) ?_
    repeat' (refine zap rfl ?_; first | refine zan rfl ?_)
    all_goals refine zch ?_
    all_goals repeat (first | refine zck ?_ | refine zcl ?_ | refine zcm ?_ | refine zcn ?_)
    refine run_loop (S := Nat) (fun i => [(0, .slice a l.length cap), (3, .int .i64 ((rAll l d + rCnt (rP l d) l.length i : Nat) : Int)), (4, .int .u64 ((8 ^ d : Nat) : Int)), (5, .int .i64 (d : Int)), (6, .int .i64 (i : Int))])
      (fun i Γ => Γ = [] ∧ i ≤ l.length) (fun i => l.length - i) 0 ⟨rfl, int_eq (by simp [rCnt]), rfl, rfl, rfl, trivial⟩ ⟨rfl, Nat.zero_le _⟩ ?_
    rintro i Γ junk ⟨rfl, hi⟩
    have hci := rCnt_le (rP l d) l.length i
    by_cases hil : i < l.length
    · have hx : l[i]? = some l[i] := List.getElem?_eq_getElem hil
      have hPi : rP l d i = l[i].h % ((8 ^ d : Nat) : Int) := by unfold rP; rw [hx]; simp [pre]
      generalize l[i] = x at hx hPi
      have hx0 := hh0 x (List.mem_of_getElem? hx)
      obtain ⟨b, off, cc, TT, fr, rfl, hh, _, hcx⟩ := hv.cells hx
      have hc1 := hcx 1 _ rfl
      repeat (first | refine zck ?_ | refine zcl ?_ | refine zcm ?_ | refine zcn ?_)
      first | refine zcp (by kernel_rfl) ?_ | refine zcq PP_mixed (by kernel_rfl) (by kernel_rfl) ?_
      repeat' (refine zap rfl ?_; first | refine zan rfl ?_ | refine zce rfl ?_ | refine zbg rfl rfl (by omega) ?_)
      all_goals refine zch ?_
      all_goals repeat (first | refine zck ?_ | refine zcl ?_ | refine zcm ?_ | refine zcn ?_)
      refine zci rfl ?_
      repeat (first | refine zck ?_ | refine zcl ?_ | refine zcm ?_ | refine zcn ?_)
      first | refine zcp (by kernel_rfl) ?_ | refine zcq PP_mixed (by kernel_rfl) (by kernel_rfl) ?_
      repeat' (refine zap rfl ?_; first | refine zan rfl ?_)
      all_goals refine zch ?_
      all_goals repeat (first | refine zck ?_ | refine zcl ?_ | refine zcm ?_ | refine zcn ?_)
      repeat (first | refine zck ?_ | refine zcl ?_ | refine zcm ?_ | refine zcn ?_)
      first | refine zcp (by kernel_rfl) ?_ | refine zcq PP_mixed (by kernel_rfl) (by kernel_rfl) ?_
      repeat' (refine zap rfl ?_; first | refine zan rfl ?_)
      all_goals refine zch ?_
      all_goals repeat (first | refine zck ?_ | refine zcl ?_ | refine zcm ?_ | refine zcn ?_)
      refine run_loop (S := Nat) (fun k => [(0, .slice (some ⟨b, off, none⟩) l.length cap), (3, .int .i64 ((rAll l d + rCnt (rP l d) l.length i : Nat) : Int)), (4, .int .u64 ((8 ^ d : Nat) : Int)), (5, .int .i64 (d : Int)), (6, .int .i64 (i : Int)), (7, .bool (rFirst (rP l d) i k)), (8, .bool (rMore (rP l d) i k)), (9, .int .i64 (k : Int))])
        (fun k Γ => Γ = [] ∧ k ≤ l.length) (fun k => l.length - k) 0 ⟨rfl, rfl, rfl, rfl, rfl, rfl, rfl, rfl, trivial⟩ ⟨rfl, Nat.zero_le _⟩ ?_
      rintro k Γ junk ⟨rfl, hk⟩
      by_cases hkl : k < l.length
      · have hy : l[k]? = some l[k] := List.getElem?_eq_getElem hkl
        have hPk : rP l d k = l[k].h % ((8 ^ d : Nat) : Int) := by unfold rP; rw [hy]; simp [pre]
        generalize l[k] = y at hy hPk
        have hy0 := hh0 y (List.mem_of_getElem? hy)
        obtain ⟨b2, off2, cc2, TT2, fr2, e2, hh2, _, hcy⟩ := hv.cells hy
        cases e2
        have hc2 := hcy 1 _ rfl
        have s1 := rFirst_succ (rP l d) i k
        have s2 := rMore_succ (rP l d) i k
        rw [hPk, hPi] at s1 s2
        generalize ((8 ^ d : Nat) : Int) = B at *
        repeat (first | refine zck ?_ | refine zcl ?_ | refine zcm ?_ | refine zcn ?_)
        first | refine zcp (by kernel_rfl) ?_ | refine zcq PP_mixed (by kernel_rfl) (by kernel_rfl) ?_
        repeat' (refine zap rfl ?_; first | refine zan rfl ?_ | refine zce rfl ?_ | refine zbg rfl rfl (by omega) ?_)
        all_goals refine zch ?_
        all_goals repeat (first | refine zck ?_ | refine zcl ?_ | refine zcm ?_ | refine zcn ?_)
        refine zci rfl ?_
        by_cases hki : k = i
        · have t1 : rFirst (rP l d) i (k + 1) = rFirst (rP l d) i k := by rw [s1, decide_eq_false (by omega)]; simp
          have t2 : rMore (rP l d) i (k + 1) = rMore (rP l d) i k := by rw [s2, decide_eq_false (by omega)]; simp
          repeat' (first | refine zck ?_ | refine zcp (by kernel_rfl) ?_ | refine zcq PP_mixed (by kernel_rfl) (by kernel_rfl) ?_ | refine zcm ?_ | refine zcl ?_ | refine zcn ?_ | (refine zap rfl ?_; first | refine zak rfl ?_ | refine zan rfl ?_ | refine zan rfl ?_ | refine zbf rfl rfl (by omega) ?_ | refine zau rfl rfl (by omega) ?_ | refine zbv rfl ?_) | refine zch ?_ | refine zcj rfl ?_)
          exact cut_end ⟨rfl, k + 1, ⟨rfl, rfl, rfl, rfl, rfl, congrArg Value.bool t1.symm, congrArg Value.bool t2.symm, int_eq (by omega), trivial⟩, ⟨rfl, hkl⟩, by omega⟩
        · by_cases hp : y.h % B = x.h % B
          · have t2 : rMore (rP l d) i (k + 1) = true := by rw [s2, decide_eq_true ⟨hki, hp⟩]; simp
            by_cases hlt : k < i
            · have t1 : rFirst (rP l d) i (k + 1) = false := by rw [s1, decide_eq_true ⟨hlt, hp⟩]; simp
              repeat' (first | refine zck ?_ | refine zcp (by kernel_rfl) ?_ | refine zcq PP_mixed (by kernel_rfl) (by kernel_rfl) ?_ | refine zcm ?_ | refine zcl ?_ | refine zcn ?_ | (refine zap rfl ?_; first | refine zad rfl hh (hc1 _ (by omega)) ?_ | refine zad rfl hh2 (hc2 _ (by omega)) ?_ | refine reg_rem_nn rfl rfl (by omega) hB ?_ | refine zaj rfl ?_ | refine zan rfl ?_ | refine zan rfl ?_ | refine zao rfl ?_ | refine zbc rfl rfl (by omega) ?_ | refine zbe rfl rfl (by omega) ?_ | refine zbg rfl rfl (by omega) ?_ | refine zau rfl rfl (by omega) ?_ | refine zbu rfl ?_ | refine zas rfl rfl (by omega) ?_) | refine zch ?_ | refine zci rfl ?_)
              exact cut_end ⟨rfl, k + 1, ⟨rfl, rfl, rfl, rfl, rfl, congrArg Value.bool t1.symm, congrArg Value.bool t2.symm, int_eq (by omega), trivial⟩, ⟨rfl, hkl⟩, by omega⟩
            · have t1 : rFirst (rP l d) i (k + 1) = rFirst (rP l d) i k := by rw [s1, decide_eq_false (fun h => hlt h.1)]; simp
              repeat' (first | refine zck ?_ | refine zcp (by kernel_rfl) ?_ | refine zcq PP_mixed (by kernel_rfl) (by kernel_rfl) ?_ | refine zcm ?_ | refine zcl ?_ | refine zcn ?_ | (refine zap rfl ?_; first | refine zad rfl hh (hc1 _ (by omega)) ?_ | refine zad rfl hh2 (hc2 _ (by omega)) ?_ | refine reg_rem_nn rfl rfl (by omega) hB ?_ | refine zaj rfl ?_ | refine zan rfl ?_ | refine zan rfl ?_ | refine zao rfl ?_ | refine zbc rfl rfl (by omega) ?_ | refine zbe rfl rfl (by omega) ?_ | refine zbh rfl rfl (by omega) ?_ | refine zau rfl rfl (by omega) ?_ | refine zbu rfl ?_ | refine zas rfl rfl (by omega) ?_) | refine zch ?_ | refine zci rfl ?_ | refine zcj rfl ?_)
              exact cut_end ⟨rfl, k + 1, ⟨rfl, rfl, rfl, rfl, rfl, congrArg Value.bool t1.symm, congrArg Value.bool t2.symm, int_eq (by omega), trivial⟩, ⟨rfl, hkl⟩, by omega⟩
          · have t1 : rFirst (rP l d) i (k + 1) = rFirst (rP l d) i k := by rw [s1, decide_eq_false (fun h => hp h.2)]; simp
            have t2 : rMore (rP l d) i (k + 1) = rMore (rP l d) i k := by rw [s2, decide_eq_false (fun h => hp h.2)]; simp
            repeat' (first | refine zck ?_ | refine zcp (by kernel_rfl) ?_ | refine zcq PP_mixed (by kernel_rfl) (by kernel_rfl) ?_ | refine zcm ?_ | refine zcl ?_ | refine zcn ?_ | (refine zap rfl ?_; first | refine zad rfl hh (hc1 _ (by omega)) ?_ | refine zad rfl hh2 (hc2 _ (by omega)) ?_ | refine reg_rem_nn rfl rfl (by omega) hB ?_ | refine zaj rfl ?_ | refine zan rfl ?_ | refine zan rfl ?_ | refine zao rfl ?_ | refine zbd rfl rfl (by omega) ?_ | refine zbe rfl rfl (by omega) ?_ | refine zau rfl rfl (by omega) ?_ | refine zbu rfl ?_ | refine zas rfl rfl (by omega) ?_) | refine zch ?_ | refine zcj rfl ?_)
            exact cut_end ⟨rfl, k + 1, ⟨rfl, rfl, rfl, rfl, rfl, congrArg Value.bool t1.symm, congrArg Value.bool t2.symm, int_eq (by omega), trivial⟩, ⟨rfl, hkl⟩, by omega⟩
      · have hkl : k = l.length := by omega
        subst hkl
        have s3 := rCnt_succ (rP l d) l.length i
        repeat (first | refine zck ?_ | refine zcl ?_ | refine zcm ?_ | refine zcn ?_)
        first | refine zcp (by kernel_rfl) ?_ | refine zcq PP_mixed (by kernel_rfl) (by kernel_rfl) ?_
        repeat' (refine zap rfl ?_; first | refine zan rfl ?_ | refine zce rfl ?_ | refine zbh rfl rfl (by omega) ?_)
        all_goals refine zch ?_
        all_goals repeat (first | refine zck ?_ | refine zcl ?_ | refine zcm ?_ | refine zcn ?_)
        refine zcj rfl ?_
        refine cut_exit rfl rfl ?_
        have hci1 := rCnt_le (rP l d) l.length (i + 1)
        cases h1 : rFirst (rP l d) i l.length with
        | false =>
          rw [if_neg (by simp [rOne, h1])] at s3
          repeat' (first | refine zck ?_ | refine zcp (by kernel_rfl) ?_ | refine zcm ?_ | refine zcn ?_ | (refine zap rfl ?_; first | refine zak rfl ?_ | refine zan rfl ?_ | refine zan rfl ?_ | refine zau rfl rfl (by omega) ?_ | refine zbv rfl ?_) | refine zch ?_ | refine zcj rfl ?_)
          exact cut_end ⟨rfl, i + 1, ⟨rfl, int_eq (by omega), rfl, rfl, int_eq (by omega), trivial⟩, ⟨rfl, hil⟩, by omega⟩
        | true =>
          cases h2 : rMore (rP l d) i l.length with
          | false =>
            rw [if_neg (by simp [rOne, h2])] at s3
            repeat' (first | refine zck ?_ | refine zcp (by kernel_rfl) ?_ | refine zcm ?_ | refine zcn ?_ | (refine zap rfl ?_; first | refine zaj rfl ?_ | refine zan rfl ?_ | refine zan rfl ?_ | refine zau rfl rfl (by omega) ?_ | refine zbu rfl ?_) | refine zch ?_ | refine zcj rfl ?_)
            exact cut_end ⟨rfl, i + 1, ⟨rfl, int_eq (by omega), rfl, rfl, int_eq (by omega), trivial⟩, ⟨rfl, hil⟩, by omega⟩
          | true =>
            rw [if_pos (by simp [rOne, h1, h2])] at s3
            repeat' (first | refine zck ?_ | refine zcp (by kernel_rfl) ?_ | refine zcn ?_ | (refine zap rfl ?_; first | refine zaj rfl ?_ | refine zan rfl ?_ | refine zan rfl ?_ | refine zau rfl rfl (by omega) ?_ | refine zbu rfl ?_) | refine zch ?_ | refine zci rfl ?_)
            exact cut_end ⟨rfl, i + 1, ⟨rfl, int_eq (by omega), rfl, rfl, int_eq (by omega), trivial⟩, ⟨rfl, hil⟩, by omega⟩
    · have hil : i = l.length := by omega
      subst hil
      repeat (first | refine zck ?_ | refine zcl ?_ | refine zcm ?_ | refine zcn ?_)
      first | refine zcp (by kernel_rfl) ?_ | refine zcq PP_mixed (by kernel_rfl) (by kernel_rfl) ?_
      repeat' (refine zap rfl ?_; first | refine zan rfl ?_ | refine zce rfl ?_ | refine zbh rfl rfl (by omega) ?_)
      all_goals refine zch ?_
      all_goals repeat (first | refine zck ?_ | refine zcl ?_ | refine zcm ?_ | refine zcn ?_)
      refine zcj rfl ?_
      refine cut_exit rfl rfl ?_
      repeat' (first | refine zcp (by kernel_rfl) ?_ | refine zcn ?_ | (refine zap rfl ?_; first | refine reg_mul (t := 59) rfl rfl ?_ | refine zan rfl ?_ | refine zan rfl ?_ | refine zau rfl rfl (by omega) ?_) | refine zch ?_)
      refine cut_end ⟨rfl, d + 1, ⟨rfl, rfl, int_eq ?_, int_eq (by omega), trivial⟩, ⟨rfl, hd4⟩, by omega⟩
      match d, hd4 with
      | 0, _ => decide
      | 1, _ => decide
      | 2, _ => decide
      | 3, _ => decide
  · obtain rfl : d = 4 := by omega
    repeat' (first | refine zck ?_ | refine zcp (by kernel_rfl) ?_ | (refine zap rfl ?_; first | refine zan rfl ?_ | refine zbh rfl rfl (by omega) ?_) | refine zch ?_ | refine zcj rfl ?_)
    refine cut_exit rfl rfl ?_
    repeat' (first | refine zck ?_ | refine zcp (by kernel_rfl) ?_ | (refine zap rfl ?_; first | refine zan rfl ?_ | refine zan rfl ?_) | refine zch ?_)
    exact ret_tmp1 rfl ⟨rfl, rfl⟩
def RiR (l : List Ri) (v : Value) (Γ : List Asn) : Prop := ∃ a c, v = .slice a l.length c ∧ Γ = [SlA 94 3 a l.length c (l.flatMap encT)]
theorem rfPut (w0 : World) (sh : Shared) (a : Option Addr) (cap : Nat) (l : List Ri) (hv : RdSl w0 sh encT 3 (.slice a l.length cap) l) (hlen : l.length ≤ 1000000) (x : Ri) :
    Vc.Fn PP w0 sh 68 [.slice a l.length cap, .agg (List.toArray (encT x))] [] (RiR (rput l x)) := by
  obtain ⟨n, h, v⟩ := x
  have hF := rfFind w0 sh a cap l hv hlen n
  have hle := rfind_le n l
  have hcap := hv.cap
  unfold rput
  dsimp only
  generalize rfind l n = q at hF hle ⊢
  obtain ⟨i, b⟩ := q
  dsimp only at hF hle ⊢
  have hp := hv.pre hle.1
  have hlp : (l.take i).length = i := by rw [List.length_take, Nat.min_eq_left hle.1]
  show Vc.Fn PP w0 sh _ [_, .agg (List.toArray [.int .i64 n, .int .u64 h, .int .i64 v])] [] _
  refine fn_of_run en68 fn68 rfl rfl rfl ?_
  repeat (first | refine zck ?_ | refine zcl ?_ | refine zcm ?_ | refine zcn ?_)
  first | refine zcp (by kernel_rfl) ?_ | refine zcq PP_mixed (by kernel_rfl) (by kernel_rfl) ?_
  repeat' (refine zap rfl ?_; first | refine zan rfl ?_ | refine zaq (cs := [_, _, _]) rfl (fun nb => ?_))
  all_goals refine zch ?_
  all_goals repeat (first | refine zck ?_ | refine zcl ?_ | refine zcm ?_ | refine zcn ?_)
  repeat (first | refine zck ?_ | refine zcl ?_ | refine zcm ?_ | refine zcn ?_)
  first | refine zcp (by kernel_rfl) ?_ | refine zcq PP_mixed (by kernel_rfl) (by kernel_rfl) ?_
  repeat' (refine zap rfl ?_; first | refine zan rfl ?_ | refine zan rfl ?_ | refine zab 0 rfl rfl rfl ?_ | refine zah [] hF rfl rfl rfl (fun _ h => h) rfl ?_ | refine zao rfl ?_ | refine zan rfl ?_)
  all_goals refine zch ?_
  all_goals repeat (first | refine zck ?_ | refine zcl ?_ | refine zcm ?_ | refine zcn ?_)
  repeat (first | refine zck ?_ | refine zcl ?_ | refine zcm ?_ | refine zcn ?_)
  first | refine zcp (by kernel_rfl) ?_ | refine zcq PP_mixed (by kernel_rfl) (by kernel_rfl) ?_
  repeat' (refine zap rfl ?_; first | refine zan rfl ?_)
  all_goals refine zch ?_
  all_goals repeat (first | refine zck ?_ | refine zcl ?_ | refine zcm ?_ | refine zcn ?_)
  refine run_nilslice 94 3 ?_
  repeat (first | refine zck ?_ | refine zcl ?_ | refine zcm ?_ | refine zcn ?_)
  first | refine zcp (by kernel_rfl) ?_ | refine zcq PP_mixed (by kernel_rfl) (by kernel_rfl) ?_
  repeat' (refine zap rfl ?_; first | refine reg_slice2 rfl rfl (by omega) ?_ | refine zan rfl ?_ | refine zan rfl ?_ | refine reg_append_rdE 1 rfl rfl hp (by decide) (encT_one _) rfl rfl (by omega) (fun _ _ => rfl) (fun a1 c1 => ?_))
  all_goals refine zch ?_
  all_goals repeat (first | refine zck ?_ | refine zcl ?_ | refine zcm ?_ | refine zcn ?_)
  repeat (first | refine zck ?_ | refine zcl ?_ | refine zcm ?_ | refine zcn ?_)
  first | refine zcp (by kernel_rfl) ?_ | refine zcq PP_mixed (by kernel_rfl) (by kernel_rfl) ?_
  repeat' (refine zap rfl ?_; first | refine reg_buildSlice rfl rfl rfl rfl rfl rfl (fun nb2 => ?_) | refine reg_append 1 2 rfl rfl rfl rfl rfl rfl rfl rfl (by first | omega | (dsimp only; omega)) (fun _ _ => rfl) (fun a2 c2 => ?_) | refine zan rfl ?_ | refine zan rfl ?_ | refine zab 0 rfl rfl rfl ?_)
  all_goals refine zch ?_
  all_goals repeat (first | refine zck ?_ | refine zcl ?_ | refine zcm ?_ | refine zcn ?_)
  cases b with
  | true =>
    have ht := hv.tail (q := i + 1) (hle.2 rfl)
    have hlt : (l.drop (i + 1)).length = l.length - (i + 1) := List.length_drop
    have hl1 := hle.2 rfl
    rw [if_pos rfl]
    repeat' (first | refine zck ?_ | refine zcp (by kernel_rfl) ?_ | (refine zap rfl ?_; first | (refine reg_sliceT rfl rfl (by omega) ?_; rw [show ((i : Int) + 1).toNat = i + 1 by omega]) | refine zan rfl ?_ | refine zan rfl ?_ | refine reg_append_rdE 1 rfl rfl ht (by decide) (encT_one _) rfl rfl (by omega) (fun _ _ => rfl) (fun a3 c3 => ?_) | refine zau rfl rfl (by omega) ?_) | refine zch ?_ | refine zci rfl ?_)
    refine run_take [1] rfl ?_
    have e1 : 0 + (l.take i).length + 1 + (l.drop (i + 1)).length = (l.take i ++ [(⟨n, h, v⟩ : Ri)] ++ l.drop (i + 1)).length := by
      simp only [List.length_append, List.length_cons, List.length_nil]; omega
    have e2 : [] ++ (l.take i).flatMap encT ++ [.int .i64 n, .int .u64 h, .int .i64 v] ++ (l.drop (i + 1)).flatMap encT = (l.take i ++ [(⟨n, h, v⟩ : Ri)] ++ l.drop (i + 1)).flatMap encT := by
      simp only [List.flatMap_append, List.nil_append]; rfl
    exact ret_tmp1 rfl ⟨a3, c3, congrArg (fun q => Value.slice a3 q c3) e1, congrArg (fun (z : Nat × List Value) => [SlA 94 3 a3 z.1 c3 z.2]) (Prod.ext (x := (_, _)) (y := (_, _)) e1 e2)⟩
  | false =>
    have ht := hv.tail (q := i) hle.1
    have hlt : (l.drop i).length = l.length - i := List.length_drop
    rw [if_neg (by decide)]
    repeat' (first | refine zck ?_ | refine zcp (by kernel_rfl) ?_ | refine zcm ?_ | (refine zap rfl ?_; first | (refine reg_sliceT rfl rfl (by omega) ?_; rw [show (i : Int).toNat = i by omega]) | refine zan rfl ?_ | refine zan rfl ?_ | refine reg_append_rdE 1 rfl rfl ht (by decide) (encT_one _) rfl rfl (by omega) (fun _ _ => rfl) (fun a3 c3 => ?_)) | refine zch ?_ | refine zcj rfl ?_)
    refine run_take [1] rfl ?_
    have e1 : 0 + (l.take i).length + 1 + (l.drop i).length = (l.take i ++ [(⟨n, h, v⟩ : Ri)] ++ l.drop i).length := by
      simp only [List.length_append, List.length_cons, List.length_nil]; omega
    have e2 : [] ++ (l.take i).flatMap encT ++ [.int .i64 n, .int .u64 h, .int .i64 v] ++ (l.drop i).flatMap encT = (l.take i ++ [(⟨n, h, v⟩ : Ri)] ++ l.drop i).flatMap encT := by
      simp only [List.flatMap_append, List.nil_append]; rfl
    exact ret_tmp1 rfl ⟨a3, c3, congrArg (fun q => Value.slice a3 q c3) e1, congrArg (fun (z : Nat × List Value) => [SlA 94 3 a3 z.1 c3 z.2]) (Prod.ext (x := (_, _)) (y := (_, _)) e1 e2)⟩
theorem rfDrop0 (w0 : World) (sh : Shared) (a : Option Addr) (cap : Nat) (l : List Ri) (hv : RdSl w0 sh encT 3 (.slice a l.length cap) l) (hlen : l.length ≤ 1000000) (n : Int) (h : (rfind l n).2 = false) :
    FnE PP w0 sh 67 [.slice a l.length cap, .int .i64 n] [] (.slice a l.length cap) [] := by
  have hF := rfFind w0 sh a cap l hv hlen n
  rw [h] at hF
  refine fn_of_run en67 fn67 rfl rfl rfl ?_
  repeat' (first | refine zck ?_ | refine zcp (by kernel_rfl) ?_ | (refine zap rfl ?_; first | refine zan rfl ?_ | refine zan rfl ?_ | refine zah [] hF rfl rfl rfl (fun _ h => h) rfl ?_ | refine zan rfl ?_ | refine zbx rfl ?_) | refine zch ?_ | refine zci rfl ?_)
  exact ret_tmp1 rfl ⟨rfl, rfl⟩
theorem rfDrop1 (w0 : World) (sh : Shared) (a : Option Addr) (cap : Nat) (l : List Ri) (hv : RdSl w0 sh encT 3 (.slice a l.length cap) l) (hlen : l.length ≤ 1000000) (n : Int) (h : (rfind l n).2 = true) :
    Vc.Fn PP w0 sh 67 [.slice a l.length cap, .int .i64 n] [] (RiR (rdrop l n)) := by
  have hF := rfFind w0 sh a cap l hv hlen n
  have hle := rfind_le n l
  have hcap := hv.cap
  unfold rdrop
  rw [if_pos h]
  rw [h] at hF
  generalize rfind l n = q at hF hle h ⊢
  obtain ⟨i, b⟩ := q
  dsimp only at hF hle h ⊢
  have hl1 := hle.2 h
  have hp := hv.pre hle.1
  have hlp : (l.take i).length = i := by rw [List.length_take, Nat.min_eq_left hle.1]
  have ht := hv.tail (q := i + 1) hl1
  have hlt : (l.drop (i + 1)).length = l.length - (i + 1) := List.length_drop
  refine fn_of_run en67 fn67 rfl rfl rfl ?_
  repeat (first | refine zck ?_ | refine zcl ?_ | refine zcm ?_ | refine zcn ?_)
  first | refine zcp (by kernel_rfl) ?_ | refine zcq PP_mixed (by kernel_rfl) (by kernel_rfl) ?_
  repeat' (refine zap rfl ?_; first | refine zan rfl ?_)
  all_goals refine zch ?_
  all_goals repeat (first | refine zck ?_ | refine zcl ?_ | refine zcm ?_ | refine zcn ?_)
  repeat (first | refine zck ?_ | refine zcl ?_ | refine zcm ?_ | refine zcn ?_)
  first | refine zcp (by kernel_rfl) ?_ | refine zcq PP_mixed (by kernel_rfl) (by kernel_rfl) ?_
  repeat' (refine zap rfl ?_; first | refine zan rfl ?_ | refine zan rfl ?_ | refine zah [] hF rfl rfl rfl (fun _ h => h) rfl ?_ | refine zan rfl ?_)
  all_goals refine zch ?_
  all_goals repeat (first | refine zck ?_ | refine zcl ?_ | refine zcm ?_ | refine zcn ?_)
  repeat (first | refine zck ?_ | refine zcl ?_ | refine zcm ?_ | refine zcn ?_)
  first | refine zcp (by kernel_rfl) ?_ | refine zcq PP_mixed (by kernel_rfl) (by kernel_rfl) ?_
  repeat' (refine zap rfl ?_; first | refine zan rfl ?_ | refine zbx rfl ?_)
  all_goals refine zch ?_
  all_goals repeat (first | refine zck ?_ | refine zcl ?_ | refine zcm ?_ | refine zcn ?_)
  refine zcj rfl ?_
  repeat (first | refine zck ?_ | refine zcl ?_ | refine zcm ?_ | refine zcn ?_)
  first | refine zcp (by kernel_rfl) ?_ | refine zcq PP_mixed (by kernel_rfl) (by kernel_rfl) ?_
  repeat' (refine zap rfl ?_; first | refine zan rfl ?_)
  all_goals refine zch ?_
  all_goals repeat (first | refine zck ?_ | refine zcl ?_ | refine zcm ?_ | refine zcn ?_)
  refine run_nilslice 94 3 ?_
  repeat (first | refine zck ?_ | refine zcl ?_ | refine zcm ?_ | refine zcn ?_)
  first | refine zcp (by kernel_rfl) ?_ | refine zcq PP_mixed (by kernel_rfl) (by kernel_rfl) ?_
  repeat' (refine zap rfl ?_; first | refine reg_slice2 rfl rfl (by omega) ?_ | refine zan rfl ?_ | refine zan rfl ?_ | refine reg_append_rdE 0 rfl rfl hp (by decide) (encT_one _) rfl rfl (by omega) (fun _ _ => rfl) (fun a1 c1 => ?_))
  all_goals refine zch ?_
  all_goals repeat (first | refine zck ?_ | refine zcl ?_ | refine zcm ?_ | refine zcn ?_)
  repeat' (first | refine zcp (by kernel_rfl) ?_ | (refine zap rfl ?_; first | (refine reg_sliceT rfl rfl (by omega) ?_; rw [show ((i : Int) + 1).toNat = i + 1 by omega]) | refine zan rfl ?_ | refine zan rfl ?_ | refine reg_append_rdE 0 rfl rfl ht (by decide) (encT_one _) rfl rfl (by omega) (fun _ _ => rfl) (fun a3 c3 => ?_) | refine zau rfl rfl (by omega) ?_) | refine zch ?_)
  have e1 : 0 + (l.take i).length + (l.drop (i + 1)).length = (l.take i ++ l.drop (i + 1)).length := by
    simp only [List.length_append]; omega
  have e2 : [] ++ (l.take i).flatMap encT ++ (l.drop (i + 1)).flatMap encT = (l.take i ++ l.drop (i + 1)).flatMap encT := by
    simp only [List.flatMap_append, List.nil_append]
  exact ret_tmp1 rfl ⟨a3, c3, congrArg (fun q => Value.slice a3 q c3) e1, congrArg (fun (z : Nat × List Value) => [SlA 94 3 a3 z.1 c3 z.2]) (Prod.ext (x := (_, _)) (y := (_, _)) e1 e2)⟩
end Go.Proofs.YtloekplbhknepaaGreat

