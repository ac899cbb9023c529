import Derived.Test.YtgdhcgnmffgkiaaGreatDoorPart3
import Derived.Test.YtgdhcgnmffgkiaaGreatDoorKit
/- Own work: lemmas of this claim. -/
namespace Sim
open Go Go.Vc
open Pg
theorem dig_tmod {h : Int} (h0 : 0 ≤ h) (d : Nat) : (h / 2 ^ (3 * d)).tmod 8 = dig h d := by
 have e : (2 : Int) ^ (3 * d) = 8 ^ d := by rw [Int.pow_mul]; rfl
 rw [e, Int.tmod_eq_emod_of_nonneg (Int.ediv_nonneg h0 (Int.le_of_lt (Int.pow_pos (by decide))))]; rfl
theorem dig_bd8 (h : Int) (d : Nat) : 0 ≤ dig h d ∧ dig h d < 8 := by unfold dig; omega
namespace Tr
variable (T : Tr)
theorem bd_add (c n : Int) : Bd 1 (T.add c n) := by unfold Tr.add; repeat' first|exact bd_pure _|with_reducible refine bd_ite ?_ ?_|with_reducible refine bd_then (bd_gt0 _) ?_ (by decide)|with_reducible refine bd_then (bd_pt _ _) ?_ (by decide)|with_reducible refine bd_then bd_mk0 ?_ (by decide)|with_reducible refine bd_then (bd_bk0 _) ?_ (by decide) | intro _
theorem bd_downK (h : Int) : ∀ (k : Nat) (w : TWay), Bd 0 (T.downK h k w)
 | 0, _ => trivial
 | k + 1, w => by unfold Tr.downK; repeat' first|exact bd_downK h k _|exact bd_pure _|with_reducible refine bd_ite ?_ ?_|with_reducible refine bd_then (bd_gt0 _) ?_ (by decide)|with_reducible refine bd_then (bd_pt _ _) ?_ (by decide)|with_reducible refine bd_then bd_mk0 ?_ (by decide)|with_reducible refine bd_then (bd_bk0 _) ?_ (by decide) | intro _
theorem bd_down (h : Int) : Bd 0 (T.down h) := T.bd_downK h _ _
theorem bd_leafK (n : Int) (d : Nat) : ∀ (k : Nat) (c : Int), Bd 0 (T.leafK n d k c)
 | 0, _ => by unfold Tr.leafK; repeat' first|exact bd_pure _|with_reducible refine bd_ite ?_ ?_|with_reducible refine bd_then (bd_gt0 _) ?_ (by decide)|with_reducible refine bd_then (bd_pt _ _) ?_ (by decide)|with_reducible refine bd_then bd_mk0 ?_ (by decide)|with_reducible refine bd_then (bd_bk0 _) ?_ (by decide) | intro _
 | k + 1, c => by unfold Tr.leafK; repeat' first|exact bd_leafK n d k _|exact bd_pure _|with_reducible refine bd_ite ?_ ?_|with_reducible refine bd_then (bd_gt0 _) ?_ (by decide)|with_reducible refine bd_then (bd_pt _ _) ?_ (by decide)|with_reducible refine bd_then bd_mk0 ?_ (by decide)|with_reducible refine bd_then (bd_bk0 _) ?_ (by decide) | intro _
theorem bd_leaf (w : TWay) (n : Int) : Bd 0 (T.leaf w n) := T.bd_leafK _ _ _ _
theorem bd_get (n h : Int) : Bd 0 (T.get n h) := by unfold Tr.get; repeat' first|with_reducible refine bd_then (T.bd_down _) ?_ (by decide)|with_reducible refine bd_then (T.bd_leaf _ _) ?_ (by decide)|exact bd_pure _|with_reducible refine bd_ite ?_ ?_|with_reducible refine bd_then (bd_gt0 _) ?_ (by decide)|with_reducible refine bd_then (bd_pt _ _) ?_ (by decide)|with_reducible refine bd_then bd_mk0 ?_ (by decide)|with_reducible refine bd_then (bd_bk0 _) ?_ (by decide) | intro _
theorem bd_putsL (a : Int) : ∀ (l : List Int) (i : Int), Bd l.length (putsL a i l)
 | [], _ => bd_pure _
 | v :: l, i => by
   unfold putsL
   refine bd_then (bd_pt _ _) (fun _ => ?_) (by simp)
   rw [List.length_cons, Nat.add_sub_cancel]
   exact bd_putsL a l (i + 1)
theorem bd_take (l : List Int) (hl : l.length ≤ 8) : Bd 11 (T.take l) := by
 unfold Tr.take
 repeat' first|with_reducible refine bd_then (bd_takeP _) ?_ (by decide)|with_reducible refine bd_then ((bd_putsL _ l _).mono hl) ?_ (by decide)|with_reducible refine bd_then (T.bd_add _ _) ?_ (by decide)|exact bd_pure _|with_reducible refine bd_ite ?_ ?_|with_reducible refine bd_then (bd_gt0 _) ?_ (by decide)|with_reducible refine bd_then (bd_pt _ _) ?_ (by decide)|with_reducible refine bd_then bd_mk0 ?_ (by decide)|with_reducible refine bd_then (bd_bk0 _) ?_ (by decide) | intro _
theorem bd_splitK (h : Int) : ∀ (k : Nat) (w : TWay), Bd (13 * k) (T.splitK h k w)
 | 0, _ => bd_pure _
 | k + 1, w => by
   unfold Tr.splitK
   refine bd_then (bd_gt0 _) (fun _ => bd_ite (bd_pure _) (bd_then (bd_gt0 _) (fun _ => bd_ite (bd_then (bd_gt0 _) (fun _ => bd_ite (bd_then (T.bd_take _ (by decide)) (fun _ => bd_ite (bd_pure _) (bd_then (bd_pt _ _) (fun _ => bd_then (bd_pt _ _) (fun _ => (bd_splitK h k _).mono (by omega)) (by omega)) (by omega))) (by omega)) (bd_pure _)) (by omega)) (bd_pure _)) (by omega))) (by omega)
theorem bd_split (w : TWay) (h : Int) : Bd 52 (T.split w h) := (T.bd_splitK h _ w).mono (by omega)
theorem bd_newIn (n v : Int) (w : TWay) : Bd 13 (T.newIn n v w) := by
 unfold Tr.newIn
 repeat' first|with_reducible refine bd_then (T.bd_take _ (Nat.le_of_ble_eq_true rfl)) ?_ (by decide)|with_reducible refine bd_then (T.bd_add _ _) ?_ (by decide)|exact bd_pure _|with_reducible refine bd_ite ?_ ?_|with_reducible refine bd_then (bd_gt0 _) ?_ (by decide)|with_reducible refine bd_then (bd_pt _ _) ?_ (by decide)|with_reducible refine bd_then bd_mk0 ?_ (by decide)|with_reducible refine bd_then (bd_bk0 _) ?_ (by decide) | intro _
theorem bd_putIn (n h v : Int) : Bd 65 (T.putIn n h v) := by
 unfold Tr.putIn
 repeat' first|exact T.bd_newIn _ _ _|with_reducible refine bd_then (T.bd_down _) ?_ (by decide)|with_reducible refine bd_then (T.bd_leaf _ _) ?_ (by decide)|with_reducible refine bd_then (T.bd_split _ _) ?_ (by decide)|exact bd_pure _|with_reducible refine bd_ite ?_ ?_|with_reducible refine bd_then (bd_gt0 _) ?_ (by decide)|with_reducible refine bd_then (bd_pt _ _) ?_ (by decide)|with_reducible refine bd_then bd_mk0 ?_ (by decide)|with_reducible refine bd_then (bd_bk0 _) ?_ (by decide) | intro _
theorem bd_afterP (m : Nat) (r : (Int × Bool) × Int) : Bd 0 (afterP m r) := by unfold Tr.afterP; repeat' first|exact bd_pure _|with_reducible refine bd_ite ?_ ?_|with_reducible refine bd_then (bd_gt0 _) ?_ (by decide)|with_reducible refine bd_then (bd_pt _ _) ?_ (by decide)|with_reducible refine bd_then bd_mk0 ?_ (by decide)|with_reducible refine bd_then (bd_bk0 _) ?_ (by decide) | intro _
theorem bd_put (n h v : Int) : Bd 65 (T.put n h v) := by
 unfold Tr.put
 repeat' first|exact (bd_afterP _ _).mono (by decide)|with_reducible refine bd_then (T.bd_putIn _ _ _) ?_ (by decide)|exact bd_pure _|with_reducible refine bd_ite ?_ ?_|with_reducible refine bd_then (bd_gt0 _) ?_ (by decide)|with_reducible refine bd_then (bd_pt _ _) ?_ (by decide)|with_reducible refine bd_then bd_mk0 ?_ (by decide)|with_reducible refine bd_then (bd_bk0 _) ?_ (by decide) | intro _
theorem bd_give (a : Int) : Bd 4 (T.give a) := by
 unfold Tr.give
 repeat' first|with_reducible refine bd_then (bd_giveP _ _) ?_ (by decide)|with_reducible refine bd_then (T.bd_add _ _) ?_ (by decide)|exact bd_pure _|with_reducible refine bd_ite ?_ ?_|with_reducible refine bd_then (bd_gt0 _) ?_ (by decide)|with_reducible refine bd_then (bd_pt _ _) ?_ (by decide)|with_reducible refine bd_then bd_mk0 ?_ (by decide)|with_reducible refine bd_then (bd_bk0 _) ?_ (by decide) | intro _
theorem bd_aloneK (b : Int) : ∀ (k : Nat) (i one : Int), Bd 0 (T.aloneK b k i one)
 | 0, _, _ => by unfold Tr.aloneK; repeat' first|exact bd_pure _|with_reducible refine bd_ite ?_ ?_|with_reducible refine bd_then (bd_gt0 _) ?_ (by decide)|with_reducible refine bd_then (bd_pt _ _) ?_ (by decide)|with_reducible refine bd_then bd_mk0 ?_ (by decide)|with_reducible refine bd_then (bd_bk0 _) ?_ (by decide) | intro _
 | k + 1, i, one => by unfold Tr.aloneK; repeat' first|exact bd_aloneK b k _ _|exact bd_pure _|with_reducible refine bd_ite ?_ ?_|with_reducible refine bd_then (bd_gt0 _) ?_ (by decide)|with_reducible refine bd_then (bd_pt _ _) ?_ (by decide)|with_reducible refine bd_then bd_mk0 ?_ (by decide)|with_reducible refine bd_then (bd_bk0 _) ?_ (by decide) | intro _
theorem bd_alone (b : Int) : Bd 0 (T.alone b) := T.bd_aloneK _ _ _ _
theorem bd_fold (was : Int) : ∀ (l : List (Int × Int)), Bd (5 * l.length) (T.fold was l)
 | [] => bd_pure _
 | (b, c) :: l => by
   unfold Tr.fold
   rw [List.length_cons]
   refine bd_then (T.bd_alone _) (fun _ => bd_ite (bd_then (bd_pt _ _) (fun _ => bd_then (T.bd_give _) (fun _ => bd_ite (bd_pure _) ((bd_fold was l).mono (by omega))) (by omega)) (by omega)) (bd_pure _)) (by omega)
def WayOk (w : TWay) : Prop := w.bs.length = w.depth ∧ w.cs.length = w.depth ∧ w.depth ≤ 4 ∧ -9223372036854775808 ≤ w.cell ∧ w.cell ≤ 9223372036854775807 ∧ (∀ b ∈ w.bs, 0 ≤ b ∧ b ≤ 5000)
theorem nodeN_bd (v : Int) : 0 ≤ nodeN v ∧ nodeN v ≤ 4096 := by unfold nodeN; split <;> omega
theorem wayOk_next {w : TWay} (hw : WayOk w) (h4 : w.depth ≠ 4) (v h : Int) : WayOk ⟨w.bs ++ [nodeN v], w.cs ++ [w.cell], nodeN v + dig h w.depth, w.depth + 1⟩ := by
 obtain ⟨h1, h2, h3, h5, h6, h7⟩ := hw
 have := nodeN_bd v
 have := dig_bd8 h w.depth
 refine ⟨by simp [h1], by simp [h2], by dsimp only; omega, by dsimp only; omega, by dsimp only; omega, fun b hb => ?_⟩
 rcases List.mem_append.1 hb with hb | hb
 · exact h7 b hb
 · simp at hb; subst hb; omega
theorem all_downK (h : Int) : ∀ (k : Nat) (w : TWay), WayOk w → All (fun r => WayOk r.1) (T.downK h k w)
 | 0, w, hw => all_pure hw
 | k + 1, w, hw => by
   unfold Tr.downK
   refine all_then fun x => ?_
   refine all_ite (fun _ => ?_) fun _ => all_pure hw
   refine all_then fun y => ?_
   refine all_ite (fun _ => ?_) fun _ => all_pure hw
   refine all_ite (fun _ => all_pure hw) fun h4 => ?_
   exact all_downK h k _ (wayOk_next hw h4 _ h)
theorem all_down (hT : T.Ok) (h : Int) : All (fun r => WayOk r.1) (T.down h) := T.all_downK h 5 _ ⟨rfl, rfl, Nat.zero_le 4, hT.r0, by have := hT.r1; dsimp only; omega, fun b hb => by cases hb⟩
def LeafOk (r : (Int × Int) × Bool) : Prop := -9223372036854775808 ≤ r.1.1 ∧ r.1.1 ≤ 9223372036854775807 ∧ 0 ≤ r.1.2 ∧ r.1.2 ≤ 5000
theorem leafOk0 : LeafOk ((0, 0), false) := ⟨by decide, by decide, Int.le_refl 0, by decide⟩
theorem leafOk1 {c : Int} (hc : -9223372036854775808 ≤ c ∧ c ≤ 9223372036854775807) : LeafOk ((c, 0), true) := ⟨hc.1, hc.2, Int.le_refl 0, (by decide : (0 : Int) ≤ 5000)⟩
theorem all_leafK (n : Int) (d : Nat) : ∀ (k : Nat) (c : Int), -9223372036854775808 ≤ c ∧ c ≤ 9223372036854775807 → All LeafOk (T.leafK n d k c)
 | 0, c, hc => by
   unfold Tr.leafK
   refine all_then fun x => ?_
   refine all_ite (fun _ => all_pure (leafOk1 hc)) fun _ => ?_
   exact all_then fun _ => all_pure leafOk0
 | k + 1, c, hc => by
   unfold Tr.leafK
   refine all_then fun x => ?_
   refine all_ite (fun _ => all_pure (leafOk1 hc)) fun _ => ?_
   refine all_then fun y => ?_
   have := nodeN_bd y
   refine all_ite (fun _ => ?_) fun _ => all_pure leafOk0
   refine all_then fun z => ?_
   refine all_ite (fun _ => all_pure ⟨hc.1, hc.2, by dsimp only; omega, by dsimp only; omega⟩) fun _ => ?_
   exact all_ite (fun _ => all_pure (leafOk1 hc)) fun _ => all_leafK n d k _ (by omega)
theorem all_leaf (w : TWay) (hw : WayOk w) (n : Int) : All LeafOk (T.leaf w n) := T.all_leafK _ _ _ _ ⟨hw.2.2.2.1, hw.2.2.2.2.1⟩
end Tr
end Sim
namespace Go.Proofs.YtgdhcgnmffgkiaaGreatDoor
variable (w0 : World)
open Go.Vc Sim
set_option maxHeartbeats 4000000
abbrev FnX {α : Type} (w0 : World) (sh : Shared) (f : FuncId) (args : List Value) (p : Nat) (g : Pg α) (Γ0 : List Asn) (R : α → Value → List Asn → Prop) : Prop :=
 ∀ s, Pg.Fits g s → Vc.Fn PP w0 sh f args (SpaceA p s :: Γ0) fun v Γ => ∃ Γ1, Γ = SpaceA p (Pg.run g s).2 :: Γ1 ∧ R (Pg.run g s).1 v Γ1
section
variable {w0 : World} {n : Nat} {sh shf : Shared} {Q : Exit → Env → List Deferred → List Asn → Prop} {k : List Item} {ρ : Env} {df : List Deferred} {Γ Γr Γ0 : List Asn}
variable {ops : Array Oper} {l : List (Fl × Nat × Oper)} {i : Nat} {ty : TypeId} {pos : String} {aft : Array Edge} {dst : Option Tmp}
variable {f : FuncId} {args : List Value} {fo : Operand} {cargs : Array Operand} {ats : Array TypeId} {first cap : Array Value}
theorem reg_callX (is : List Nat) {α β : Type} {R : β × Sp} {g : Pg α} {kk : α → Pg β} {s : Sp} {p : Nat} {RR : α → Value → List Asn → Prop} {φ : α → Prop} (hG : At R (g >>= kk) s) (hφ : Pg.All φ g) (spec : FnX w0 shf f args p g Γ0 RR)
   (hfo : ev ρ fo = .func (.func f) first cap) (hargs : first.toList ++ cargs.toList.map (ev ρ) ++ cap.toList = args)
   (hp : pick is Γ = some (SpaceA p s :: Γ0, Γr)) (hsh : ∀ p ∈ shf, p ∈ sh) (h : ∀ x s' v Γ1, φ x → RR x v Γ1 → At R (kk x) s' → Reg PP w0 n sh Q ops l k (ρ.setO dst v) df (SpaceA p s' :: Γ1 ++ Γr)) :
   Reg PP w0 n sh Q ops ((Fl.loud, i, ⟨dst, .call ⟨.value fo, cargs, ats⟩, ty, pos, aft, none⟩) :: l) k ρ df Γ :=
 zai is (spec s hG.step.1) hfo hargs hp hsh (fun v Γ' ⟨Γ1, e1, e2⟩ => by subst e1; exact h _ _ v Γ1 (Pg.all_run hφ) e2 hG.step.2)
theorem reg_dig {b : Fl} {x y : Operand} {t t2 : TypeId} {d : Tmp} {h : Int} {q : Nat} {l : List (Fl × Nat × Oper)} (hh : 0 ≤ h) (hx : ev ρ x = .int .u64 (h / 2 ^ (3 * q))) (hy : ev ρ y = .int .u64 8) (hr : Reg PP w0 n sh Q ops l k (ρ.set d (.int .u64 (dig h q))) df Γ) :
   Reg PP w0 n sh Q ops ((b, i, ⟨some d, .binOp .rem t x y t2, ty, pos, aft, none⟩) :: l) k ρ df Γ :=
 reg_rem hx hy (by decide) (by rw [dig_tmod hh]; exact hr)
end
instance : TMeth PP 105 (.agg #[]) "Num" 304 := ⟨fun w => by kernel_rfl⟩
instance : TMeth PP 105 (.agg #[]) "Key" 303 := ⟨fun w => by kernel_rfl⟩
instance : TMeth PP 105 (.agg #[]) "Hash" 302 := ⟨fun w => by kernel_rfl⟩
def kV : Value := .iface 105 (.agg #[])
def trV (T : Tr) : Value := .agg #[kV, .int .i64 T.pool.root, .int .i64 T.pool.frm, .int .i64 T.pool.nodes, .int .i64 T.root]
theorem trNode (T : Tr) (hT : T.Ok) (v : Int) : FnE PP w0 [] 270 [trV T, .int .i64 v] [] (.tuple #[.int .i64 (Tr.nodeN v), .bool (T.nodeB v)]) [] := by
 refine zep en270 fn270 rfl rfl rfl ?_
 refine zyr ?_
 repeat' first|(refine zap rfl ?_;refine zaq (cs := [_, _, _, _, _]) rfl (fun nb => ?_))|refine zp ?_|refine zyn ?_
 refine zeb [0] rfl ?_
 repeat' first|refine zck ?_|refine zcm ?_|refine zyq ?_|(refine zap rfl ?_;first|refine zaj rfl ?_|refine zak rfl ?_|refine zam rfl rfl (fun _ => ?_) (fun _ => ?_)|refine zah [] (node_spec w0 T.pool hT.pool _) rfl rfl rfl zdj rfl ?_|refine zbr rfl rfl ?_|refine zbs rfl rfl ?_|refine zbu rfl ?_|refine zbv rfl ?_)|refine zp ?_|refine zyl 0 rfl ?_|refine zyf rfl ?_|refine zch ?_|refine zci rfl ?_|refine zed rfl (fun _ => ?_) (fun _ => ?_)
 all_goals refine zei rfl ⟨?_, rfl⟩
 all_goals unfold Tr.nodeN Tr.nodeB
 all_goals first|rw [if_pos (by omega), if_pos (by omega)]|rw [if_neg (by omega), if_neg (by omega)]
 all_goals rfl
theorem trAdd (p : Nat) (T : Tr) (hT : T.Ok) (c m : Int) (_ : 0 ≤ c ∧ c ≤ 7) : FnG w0 [] 127 [trV T, spP p, .int .i64 c, .int .i64 m] p (T.add c m) encU := by
 have h1 := hT.r0
 have h2 := hT.r1
 intro s hS; have hG := At.start hS; generalize Pg.run _ s = R at hG ⊢
 refine zep en127 fn127 rfl rfl rfl ?_
 refine zyr ?_
 repeat' (refine zap rfl ?_;first|refine zdw rfl rfl (by omega) ?_|refine zau rfl rfl (by omega) ?_|refine zdu rfl rfl ?_|refine zaq (cs := [_, _, _, _, _]) rfl (fun nb => ?_))
 all_goals refine zyn ?_
 refine zeb [1] rfl ?_
 repeat' first|refine zyq ?_|(refine zap rfl ?_;first|refine zdu (t := 2) rfl rfl ?_|refine zdw rfl rfl (by omega) ?_|refine zau rfl rfl (by omega) ?_|refine zdu rfl rfl ?_|refine zdk [0] hG (getG w0 p _) rfl rfl rfl zdj (fun u s hG => ?_)|refine zdk [0] hG (putG w0 p _ _) rfl rfl rfl zdj (fun u s hG => ?_))|refine zp ?_|refine zyl 0 rfl ?_|refine zyf rfl ?_|refine zch ?_
 rw [hG.done]
 exact end_tmp0 rfl ⟨rfl, rfl⟩
def wayV (a1 : Option Addr) (c1 : Nat) (a2 : Option Addr) (c2 : Nat) (w : TWay) : Value := .agg #[.slice a1 w.bs.length c1, .slice a2 w.cs.length c2, .int .i64 w.cell, .int .i64 (w.depth : Int)]
def WayA (a1 : Option Addr) (c1 : Nat) (a2 : Option Addr) (c2 : Nat) (w : TWay) : List Asn := [SlA 34 1 a1 w.bs.length c1 (intsV w.bs), SlA 34 1 a2 w.cs.length c2 (intsV w.cs)]
def wayR (r : TWay × Bool) (v : Value) (Γ : List Asn) : Prop := ∃ a1 c1 a2 c2, v = .tuple #[wayV a1 c1 a2 c2 r.1, .bool r.2] ∧ Γ = WayA a1 c1 a2 c2 r.1
theorem trDown (p : Nat) (T : Tr) (hT : T.Ok) (h : Int) (hh : 0 ≤ h) : FnX w0 [] 123 [trV T, spP p, .int .u64 h] p (T.down h) [] wayR := by
 have h1 := hT.r0
 have h2 := hT.r1
 intro s hS; have hG := At.start hS; generalize Pg.run _ s = R at hG ⊢
 unfold Tr.down at hG
 refine zep en123 fn123 rfl rfl rfl ?_
 refine zyr ?_
 repeat' first|(refine zap rfl ?_;first|refine zaq (cs := [_, _, _, _, _]) rfl (fun nb => ?_)|refine zar (fun nb => ?_))|refine zp ?_|refine zyn ?_
 rename_i tb
 revert nb; intro rb
 refine zeb [1] rfl ?_
 refine zyr ?_
 repeat' first|(refine zap rfl ?_;first|refine zae 2 rfl rfl rfl rfl rfl rfl rfl ?_|refine zar (fun nb => ?_)|refine zcb rfl ?_)|refine zyl 0 rfl ?_|refine zyf rfl ?_|refine zyn ?_
 refine run_nilslice 34 1 ?_
 refine run_nilslice 34 1 ?_
 refine run_loop (S := Nat × TWay × Sp × (Option Addr × Nat) × (Option Addr × Nat)) (fun st => [(1, spP p), (2, .int .u64 h), (3, .pointer (some ⟨tb, 0, none⟩)), (6, .pointer (some ⟨rb, 0, none⟩)), (8, .pointer (some ⟨nb, 0, none⟩))])
   (fun st Γ => Γ = [SpaceA p st.2.2.1, pt rb (.cells (List.toArray [.slice none 0 0, .slice none 0 0, .int .i64 0, .int .i64 0]) 167 (0, 0)), pt nb (.cells (List.toArray [.slice st.2.2.2.1.1 st.2.1.bs.length st.2.2.2.1.2, .slice st.2.2.2.2.1 st.2.1.cs.length st.2.2.2.2.2, .int .i64 st.2.1.cell, .int .i64 (st.2.1.depth : Int)]) 167 (0, 0)), SlA 34 1 st.2.2.2.1.1 st.2.1.bs.length st.2.2.2.1.2 (intsV st.2.1.bs), SlA 34 1 st.2.2.2.2.1 st.2.1.cs.length st.2.2.2.2.2 (intsV st.2.1.cs)] ∧ At R (T.downK h st.1 st.2.1) st.2.2.1 ∧ st.1 + st.2.1.depth = 5 ∧ Tr.WayOk st.2.1)
   (fun st => st.1) (5, ⟨[], [], T.root, 0⟩, s, (none, 0), (none, 0)) ⟨rfl, rfl, rfl, rfl, rfl, trivial⟩ ⟨rfl, hG, rfl, ⟨rfl, rfl, Nat.zero_le 4, h1, by dsimp only; omega, fun b hb => by cases hb⟩⟩ ?_
 rintro ⟨k, w, s, ⟨a1, c1⟩, ⟨a2, c2⟩⟩ Γ junk ⟨rfl, hG, hk, hw⟩
 dsimp only at hG hk hw ⊢
 obtain ⟨k, rfl⟩ : ∃ q, k = q + 1 := ⟨k - 1, by have := hw.2.2.1; omega⟩
 rw [Tr.downK] at hG
 refine zyr ?_
 repeat' first|(refine zap rfl ?_;first|refine zab 2 rfl rfl rfl ?_|refine zdk [0] hG (getG w0 p _) rfl rfl rfl zdj (fun u s hG => ?_)|refine zbq rfl rfl ?_)|refine zp ?_|refine zyf rfl ?_|refine zyn ?_
 refine zed rfl (fun hx => ?_) (fun hx => ?_)
 · rw [if_pos hx] at hG
   refine zyx ?_
   first|refine zcp (by kernel_rfl) ?_|refine zcr [(.quiet, 0), (.quiet, 1), (.quiet, 2), (.read, 3), (.loud, 4), (.quiet, 5), (.loud, 6), (.quiet, 7), (.quiet, 8), (.quiet, 9), (.quiet, 10), (.quiet, 11)] PP_mixed (by kernel_rfl) (by kernel_rfl) ?_|refine zeh PP_mixed (by kernel_rfl) (by kernel_rfl) ?_
   repeat' first|(refine zap rfl ?_;first|refine reg_neg rfl ?_|refine zab 2 rfl rfl rfl ?_|refine zdk [0] hG (getG w0 p _) rfl rfl rfl zdj (fun v s hG => ?_)|refine zah [] (trNode w0 T hT _) rfl rfl rfl zdj rfl ?_)|refine zp ?_|refine zyl 0 rfl ?_|refine zyf rfl ?_|refine zyn ?_
   generalize hb : T.nodeB (w64 (0 - v)) = b at hG
   have hb' : T.nodeB (IntKind.i64.wrap (0 - v)) = b := hb
   rw [hb']
   have hnb := Tr.nodeN_bd (IntKind.i64.wrap (0 - v))
   cases b with
   | false =>
     simp only [Bool.false_eq_true, if_false] at hG
     rw [hG.done]
     repeat' first|refine zck ?_|refine zyq ?_|(refine zap rfl ?_;first|refine zak rfl ?_|refine zab 2 rfl rfl rfl ?_|refine zbx rfl ?_|refine zbu rfl ?_|refine zae 1 rfl rfl rfl rfl rfl rfl rfl ?_)|refine zp ?_|refine zch ?_|refine zci rfl ?_
     exact qret rfl (fun _ _ h => h) (zek (zel [0, 2, 2] rfl (zen rfl (zeo 1 rfl rfl rfl) rfl ⟨rfl, _, rfl, a1, c1, a2, c2, rfl, rfl⟩)))
   | true =>
     simp only [if_true] at hG
     by_cases h4 : w.depth = 4
     · rw [if_pos h4] at hG
       rw [hG.done]
       repeat' first|refine zck ?_|refine zyq ?_|(refine zap rfl ?_;first|refine zaj rfl ?_|refine zab 2 rfl rfl rfl ?_|refine zbc rfl rfl (by omega) ?_|refine zbx rfl ?_|refine zbv rfl ?_|refine zae 1 rfl rfl rfl rfl rfl rfl rfl ?_)|refine zp ?_|refine zyf rfl ?_|refine zch ?_|refine zci rfl ?_
       exact qret rfl (fun _ _ h => h) (zek (zel [0, 2, 2] rfl (zen rfl (zeo 1 rfl rfl rfl) rfl ⟨rfl, _, rfl, a1, c1, a2, c2, rfl, rfl⟩)))
     · rw [if_neg h4] at hG
       have hdb := dig_bd8 h w.depth
       obtain ⟨hw1, hw2, hwd, hw4, hw5, hw6⟩ := id hw
       refine zyr ?_
       repeat' first|(refine zap rfl ?_;first|refine zaj rfl ?_|refine zab 2 rfl rfl rfl ?_|refine zbd rfl rfl (by omega) ?_|refine zbx rfl ?_|refine zbv rfl ?_)|refine zp ?_|refine zyf rfl ?_|refine zyn ?_
       refine zcj rfl ?_
       refine zyx ?_
       refine run_drawT [2] [(.quiet, 0), (.quiet, 1), (.quiet, 2), (.loud, 3), (.loud, 4), (.quiet, 5), (.quiet, 6), (.quiet, 7), (.quiet, 8), (.loud, 9), (.loud, 10), (.quiet, 11)] [(.loud, 12), (.quiet, 13), (.loud, 14)] PP_mixed (by kernel_rfl) (by kernel_rfl) rfl ?_
       repeat' first|(refine zap rfl ?_;first|refine zdt rfl rfl rfl rfl rfl rfl (fun nb2 => ?_)|refine zdz 2 4 rfl rfl rfl rfl rfl rfl rfl rfl (by first | omega | (dsimp only; omega)) (fun _ _ => rfl) (fun a1' c1' => ?_)|refine zdz 3 5 rfl rfl rfl rfl rfl rfl rfl rfl (by first | omega | (dsimp only; omega)) (fun _ _ => rfl) (fun a2' c2' => ?_))|refine zp ?_|refine zyl 0 rfl ?_|refine zyf rfl ?_
       all_goals refine reg_turn ?_
       all_goals repeat' (refine zap rfl ?_;first|refine zao rfl ?_|refine zae 0 rfl rfl rfl rfl rfl rfl rfl ?_)
       all_goals refine zyn ?_
       repeat' first|refine zcn ?_|refine zyq ?_|(refine zap rfl ?_;first|refine reg_shr (q := 3 * w.depth) rfl (zes (by omega)) (by show 3 * w.depth ≤ 64; omega) ?_|refine reg_dig (q := w.depth) hh rfl rfl ?_|refine zab 0 rfl rfl rfl ?_|refine zae 0 rfl rfl rfl rfl rfl rfl rfl ?_|refine zau rfl rfl (by omega) ?_|refine zaw rfl rfl (by omega) ?_|refine zbz rfl (by omega) ?_)|refine zp ?_|refine zyf rfl ?_|refine zch ?_
       refine zec [1, 1, 0, 0, 0] rfl ?_
       have e1 : intsV (w.bs ++ [Tr.nodeN (w64 (0 - v))]) = intsV w.bs ++ [.int .i64 (Tr.nodeN (w64 (0 - v)))] := by simp [intsV]
       have e2 : intsV (w.cs ++ [w.cell]) = intsV w.cs ++ [.int .i64 w.cell] := by simp [intsV]
       have e3 : ((w.depth + 1 : Nat) : Int) = (w.depth : Int) + 1 := by omega
       refine zeq ⟨rfl, (k, ⟨w.bs ++ [Tr.nodeN (w64 (0 - v))], w.cs ++ [w.cell], Tr.nodeN (w64 (0 - v)) + dig h w.depth, w.depth + 1⟩, s, (a1', c1'), (a2', c2')), ⟨rfl, rfl, rfl, rfl, rfl, trivial⟩, ⟨?_, hG, by dsimp only; omega, Tr.wayOk_next hw h4 _ h⟩, Nat.lt_succ_self k⟩
       dsimp only
       rw [e1, e2, e3, List.length_append, List.length_append]
       rfl
 · rw [if_neg hx] at hG
   rw [hG.done]
   refine zer rfl rfl ?_
   refine zyr ?_
   repeat' first|(refine zap rfl ?_;first|refine zab 2 rfl rfl rfl ?_|refine zae 1 rfl rfl rfl rfl rfl rfl rfl ?_)|refine zp ?_|refine zyn ?_
   exact zeg (zek (zel [0, 2, 2] rfl (zen rfl (zeo 1 rfl rfl rfl) rfl ⟨rfl, _, rfl, a1, c1, a2, c2, rfl, rfl⟩)))
end Go.Proofs.YtgdhcgnmffgkiaaGreatDoor
namespace Sim
open Go
def hsI (n : Int) : Int := IntKind.u64.wrap ((BitVec.ofInt 64 (IntKind.u64.wrap (IntKind.u64.wrap n * 11400714819323198485)) ^^^ BitVec.ofInt 64 (IntKind.u64.wrap (IntKind.u64.wrap n * 11400714819323198485) / 2 ^ 32)).toNat : Nat)
theorem hsI_in (n : Int) : 0 ≤ hsI n ∧ hsI n ≤ 18446744073709551615 := by unfold hsI; rw [IntKind.wrap_u64]; omega
structure Tr.IsI (T : Tr) : Prop where
 hash : T.hash = hsI
 has : ∀ n, T.has n = true
end Sim
namespace Go.Proofs.YtgdhcgnmffgkiaaGreatDoor
variable (w0 : World)
open Go.Vc Sim
set_option maxHeartbeats 4000000
def encVB (r : Int × Bool) : Value := .tuple #[.int .i64 r.1, .bool r.2]
def encLf (r : (Int × Int) × Bool) : Value := .tuple #[.int .i64 r.1.1, .int .i64 r.1.2, .bool r.2]
theorem trLeaf (p : Nat) (T : Tr) (hT : T.Ok) (w : TWay) (hw : Tr.WayOk w) (a1 : Option Addr) (c1 : Nat) (a2 : Option Addr) (c2 : Nat) (n : Int) : FnG w0 [] 124 [trV T, spP p, wayV a1 c1 a2 c2 w, .int .i64 n] p (T.leaf w n) encLf := by
 obtain ⟨hw1, hw2, hw3, hw4, hw5, hw6⟩ := id hw
 have hN0 := hT.pool.2.2.2.2.2.1
 have hN1 := hT.nodes
 obtain ⟨N, hN⟩ : ∃ N : Nat, T.pool.nodes = (N : Int) := ⟨T.pool.nodes.toNat, by omega⟩
 have hNt : T.pool.nodes.toNat = N := by omega
 intro s hS; have hG := At.start hS; generalize Pg.run _ s = R at hG ⊢
 unfold Tr.leaf at hG
 rw [hNt] at hG
 refine zep en124 fn124 rfl rfl rfl ?_
 refine zyr ?_
 repeat' first|(refine zap rfl ?_;first|refine zaq (cs := [_, _, _, _]) rfl (fun nb => ?_)|refine zaq (cs := [_, _, _, _, _]) rfl (fun nb => ?_))|refine zp ?_|refine zyn ?_
 rename_i tb
 revert nb; intro wb
 refine zeb [1] rfl ?_
 refine zeb [1] rfl ?_
 refine zyr ?_
 repeat' first|refine zp ?_|refine zyl 0 rfl ?_|refine zyf rfl ?_|refine zyn ?_
 refine zyr ?_
 repeat' refine zp ?_
 all_goals refine zyn ?_
 refine run_loop (S := Nat × Int × Sp) (fun st => [(1, spP p), (3, .int .i64 n), (4, .pointer (some ⟨tb, 0, none⟩)), (6, .pointer (some ⟨wb, 0, none⟩)), (11, .int .i64 st.2.1), (12, .int .i64 (st.1 : Int))])
   (fun st Γ => Γ = [SpaceA p st.2.2] ∧ At R (T.leafK n w.depth (N - st.1) st.2.1) st.2.2 ∧ st.1 ≤ N)
   (fun st => N - st.1) (0, w.cell, s) ⟨rfl, rfl, rfl, rfl, rfl, rfl, trivial⟩ ⟨rfl, hG, Nat.zero_le _⟩ ?_
 rintro ⟨i, c, s⟩ Γ junk ⟨rfl, hG, hi⟩
 dsimp only at hG hi ⊢
 by_cases hlt : i < N
 · obtain ⟨k, hk⟩ : ∃ k, N - i = k + 1 := ⟨N - i - 1, by omega⟩
   rw [hk, Tr.leafK] at hG
   refine zyr ?_
   repeat' first|(refine zap rfl ?_;first|refine zdk [0] hG (getG w0 p _) rfl rfl rfl zdj (fun x s hG => ?_)|refine zbp rfl rfl ?_)|refine zp ?_|refine zyn ?_
   refine zed rfl (fun hx => ?_) (fun hx => ?_)
   · rw [if_neg hx] at hG
     refine zyr ?_
     repeat' first|(refine zap rfl ?_;first|refine zdk [0] hG (getG w0 p _) rfl rfl rfl zdj (fun v s hG => ?_)|refine zah [] (trNode w0 T hT _) rfl rfl rfl zdj rfl ?_)|refine zp ?_|refine zyl 1 rfl ?_|refine zyn ?_
     have hnb := Tr.nodeN_bd v
     generalize hb : T.nodeB v = b at hG ⊢
     cases b with
     | false =>
       simp only [Bool.false_eq_true, if_false] at hG
       rw [hG.done]
       repeat' first|refine zck ?_|refine zyq ?_|(refine zap rfl ?_;first|refine zak rfl ?_|refine zbx rfl ?_|refine zbu rfl ?_)|refine zp ?_|refine zch ?_|refine zci rfl ?_
       exact qret3 (fun _ _ h => h) rfl ⟨rfl, rfl⟩
     | true =>
       simp only [if_true] at hG
       refine zyr ?_
       repeat' first|(refine zap rfl ?_;first|refine zaj rfl ?_|refine zbn rfl rfl (by omega) ?_|refine zbx rfl ?_|refine zbv rfl ?_)|refine zp ?_|refine zyl 1 rfl ?_|refine zyf rfl ?_|refine zyn ?_
       refine zcj rfl ?_
       refine zyr ?_
       repeat' first|(refine zap rfl ?_;first|refine zdk [0] hG (getG w0 p _) rfl rfl rfl zdj (fun u s hG => ?_)|refine zbo rfl rfl ?_)|refine zp ?_|refine zyn ?_
       refine zed rfl (fun hz => ?_) (fun hz => ?_)
       · rw [if_pos hz] at hG
         rw [hG.done]
         repeat' first|refine zck ?_|refine zyq ?_|refine zp ?_|refine zch ?_
         exact qret3 (fun _ _ h => h) rfl ⟨rfl, rfl⟩
       · rw [if_neg hz] at hG
         by_cases h4 : w.depth < 4
         · rw [if_pos h4] at hG
           rw [hG.done]
           refine zyr ?_
           repeat' first|(refine zap rfl ?_;refine zbg rfl rfl (by omega) ?_)|refine zyl 0 rfl ?_|refine zyf rfl ?_|refine zyn ?_
           refine zci rfl ?_
           refine zer rfl rfl ?_
           repeat' first|refine zck ?_|refine zyq ?_|refine zp ?_|refine zch ?_
           exact ret_tmp3 rfl ⟨rfl, rfl⟩
         · rw [if_neg h4] at hG
           refine zyr ?_
           repeat' first|(refine zap rfl ?_;refine zbh rfl rfl (by omega) ?_)|refine zyl 0 rfl ?_|refine zyf rfl ?_|refine zyn ?_
           refine zcj rfl ?_
           repeat' first|refine zcm ?_|refine zcn ?_|refine zyq ?_|(refine zap rfl ?_;refine zau rfl rfl (by omega) ?_)|refine zp ?_|refine zch ?_
           exact zeq ⟨rfl, (i + 1, _, s), ⟨rfl, rfl, rfl, rfl, rfl, zes (by dsimp only; omega), trivial⟩, ⟨rfl, by dsimp only; rw [show N - (i + 1) = k by omega]; exact hG, hlt⟩, by dsimp only; omega⟩
   · have hx0 : x = 0 := by simpa using hx
     rw [if_pos hx0] at hG
     rw [hG.done]
     refine zer rfl rfl ?_
     repeat' first|refine zck ?_|refine zyq ?_|refine zp ?_|refine zch ?_
     exact ret_tmp3 rfl ⟨rfl, rfl⟩
 · have hk : N - i = 0 := by omega
   rw [hk, Tr.leafK] at hG
   refine zyr ?_
   repeat' first|(refine zap rfl ?_;first|refine zdk [0] hG (getG w0 p _) rfl rfl rfl zdj (fun x s hG => ?_)|refine zbp rfl rfl ?_)|refine zp ?_|refine zyn ?_
   refine zed rfl (fun hx => ?_) (fun hx => ?_)
   · rw [if_neg hx] at hG
     refine zyr ?_
     repeat' first|(refine zap rfl ?_;first|refine zdk [0] hG (getG w0 p _) rfl rfl rfl zdj (fun v s hG => ?_)|refine zah [] (trNode w0 T hT _) rfl rfl rfl zdj rfl ?_)|refine zp ?_|refine zyl 1 rfl ?_|refine zyn ?_
     rw [hG.done]
     generalize hb : T.nodeB v = b
     cases b with
     | false =>
       repeat' first|refine zck ?_|refine zyq ?_|(refine zap rfl ?_;first|refine zak rfl ?_|refine zbx rfl ?_|refine zbu rfl ?_)|refine zp ?_|refine zch ?_|refine zci rfl ?_
       exact qret3 (fun _ _ h => h) rfl ⟨rfl, rfl⟩
     | true =>
       repeat' first|refine zck ?_|refine zyq ?_|(refine zap rfl ?_;first|refine zaj rfl ?_|refine zbm rfl rfl (by omega) ?_|refine zbx rfl ?_|refine zbv rfl ?_)|refine zp ?_|refine zyl 1 rfl ?_|refine zyf rfl ?_|refine zch ?_|refine zci rfl ?_
       exact qret3 (fun _ _ h => h) rfl ⟨rfl, rfl⟩
   · have hx0 : x = 0 := by simpa using hx
     rw [if_pos hx0] at hG
     rw [hG.done]
     refine zer rfl rfl ?_
     repeat' first|refine zck ?_|refine zyq ?_|refine zp ?_|refine zch ?_
     exact ret_tmp3 rfl ⟨rfl, rfl⟩
theorem trNum (n : Int) : FnE PP w0 [] 304 [.agg #[], .int .i64 n] [] (.tuple #[.int .i64 n, .bool true]) [] := by
 refine zep en304 fn304 rfl rfl rfl ?_
 repeat' first|refine zck ?_|refine zyq ?_|(refine zap rfl ?_;refine zaq (cs := []) rfl (fun nb => ?_))|refine zp ?_|refine zch ?_
 refine zec [] rfl ?_
 exact zei rfl ⟨rfl, rfl⟩
theorem trKey (n : Int) : FnE PP w0 [] 303 [.agg #[], .int .i64 n] [] (.tuple #[.int .i64 n, .bool true]) [] := by
 refine zep en303 fn303 rfl rfl rfl ?_
 repeat' first|refine zck ?_|refine zyq ?_|(refine zap rfl ?_;refine zaq (cs := []) rfl (fun nb => ?_))|refine zp ?_|refine zch ?_
 refine zec [] rfl ?_
 exact zei rfl ⟨rfl, rfl⟩
theorem trHash (n : Int) : FnE PP w0 [] 302 [.agg #[], .int .i64 n] [] (.int .u64 (hsI n)) [] := by
 refine zep en302 fn302 rfl rfl rfl ?_
 repeat' first|refine zck ?_|refine zyq ?_|(refine zap rfl ?_;first|refine reg_shr (q := 32) rfl rfl (by decide) ?_|refine reg_xor rfl rfl ?_|refine reg_mul (t := 163) rfl rfl ?_|refine zaq (cs := []) rfl (fun nb => ?_)|refine zca rfl ?_)|refine zp ?_|refine zch ?_
 refine zec [] rfl ?_
 exact zej rfl ⟨rfl, rfl⟩
theorem trGet (p : Nat) (T : Tr) (hT : T.Ok) (_ : T.IsI) (n : Int) : FnG w0 [] 60 [trV T, spP p, .int .i64 n] p (T.get n (hsI n)) encVB := by
 intro s hS; have hG := At.start hS; generalize Pg.run _ s = R at hG ⊢
 unfold Tr.get at hG
 refine zep en60 fn60 rfl rfl rfl ?_
 refine zyr ?_
 repeat' first|(refine zap rfl ?_;refine zaq (cs := [_, _, _, _, _]) rfl (fun nb => ?_))|refine zp ?_|refine zyn ?_
 refine zeb [1] rfl ?_
 refine zyr ?_
 repeat' first|(refine zap rfl ?_;refine zey [] (trNum w0 n) rfl rfl rfl zdj rfl ?_)|refine zp ?_|refine zyl 0 rfl ?_|refine zyf rfl ?_|refine zyn ?_
 refine zyr ?_
 repeat' first|(refine zap rfl ?_;refine zbx rfl ?_)|refine zp ?_|refine zyn ?_
 refine zcj rfl ?_
 refine zyr ?_
 repeat' first|(refine zap rfl ?_;first|refine zey [] (trHash w0 n) rfl rfl rfl zdj rfl ?_|(refine reg_callX [0] hG (T.all_down hT _) (trDown w0 p T hT _ (hsI_in n).1) rfl rfl rfl zdj ?_; rintro w s v Γ1 hw ⟨a1, c1, a2, c2, rfl, rfl⟩ hG)|refine zae 3 rfl rfl rfl rfl rfl rfl rfl ?_|refine zar (fun nb => ?_))|refine zp ?_|refine zyl 0 rfl ?_|refine zyf rfl ?_|refine zyn ?_
 obtain ⟨w, ok⟩ := w
 dsimp only at hG hw
 cases ok with
 | false =>
   simp only [Bool.false_eq_true, if_false] at hG
   rw [hG.done]
   repeat' first|refine zck ?_|refine zyq ?_|(refine zap rfl ?_;refine zbx rfl ?_)|refine zp ?_|refine zch ?_|refine zci rfl ?_
   refine zec [0] rfl ?_
   exact zei rfl ⟨rfl, rfl⟩
 | true =>
   simp only [if_true] at hG
   refine zyr ?_
   repeat' first|(refine zap rfl ?_;refine zbx rfl ?_)|refine zp ?_|refine zyn ?_
   refine zcj rfl ?_
   refine zyr ?_
   repeat' first|(refine zap rfl ?_;first|refine zab 3 rfl rfl rfl ?_|(refine zdl [0] hG (T.all_leaf w hw n) (trLeaf w0 p T hT w hw a1 c1 a2 c2 n) rfl rfl rfl zdj (fun l s hl hG => ?_)))|refine zp ?_|refine zyl 0 rfl ?_|refine zyn ?_
   obtain ⟨⟨c, a⟩, ok⟩ := l
   obtain ⟨hk1, hk2, hk3, hk4⟩ := id hl
   obtain ⟨hl1, hl2, hl3, hl4⟩ := hl
   dsimp only at hG hl1 hl2 hl3 hl4
   cases ok with
   | false =>
     simp only [Bool.false_eq_true, if_false] at hG
     rw [hG.done]
     repeat' first|refine zck ?_|refine zyq ?_|(refine zap rfl ?_;first|refine zak rfl ?_|refine zbx rfl ?_|refine zbu rfl ?_)|refine zp ?_|refine zch ?_|refine zci rfl ?_
     refine zec [0] rfl ?_
     exact zei rfl ⟨rfl, rfl⟩
   | true =>
     simp only [if_true] at hG
     by_cases ha : a = 0
     · rw [if_pos ha] at hG
       rw [hG.done]
       repeat' first|refine zck ?_|refine zyq ?_|(refine zap rfl ?_;first|refine zaj rfl ?_|refine zbc rfl rfl (by omega) ?_|refine zbx rfl ?_|refine zbv rfl ?_)|refine zp ?_|refine zch ?_|refine zci rfl ?_
       refine zec [0] rfl ?_
       exact zei rfl ⟨rfl, rfl⟩
     · rw [if_neg ha] at hG
       repeat' first|refine zck ?_|refine zcm ?_|refine zyq ?_|(refine zap rfl ?_;first|refine zaj rfl ?_|refine zdk [0] hG (getG w0 p _) rfl rfl rfl zdj (fun u s hG => ?_)|refine zbd rfl rfl (by omega) ?_|refine zau rfl rfl (by omega) ?_|refine zbx rfl ?_|refine zbv rfl ?_)|refine zp ?_|refine zch ?_|refine zcj rfl ?_
       rw [hG.done]
       refine zec [0] rfl ?_
       exact zei rfl ⟨rfl, rfl⟩
theorem trTake (p lb : Nat) (T : Tr) (hT : T.Ok) (l : List Int) (hl : l.length ≤ 100) : FnX w0 [] 126 [trV T, spP p, .slice (some ⟨lb, 0, none⟩) l.length l.length] p (T.take l) [pt lb (.cells (List.toArray (intsV l)) 2 (0, 0))] (fun r v Γ => v = encI2 r ∧ Γ = []) := by
 intro s hS; have hG := At.start hS; generalize Pg.run _ s = R at hG ⊢
 unfold Tr.take at hG
 refine zep en126 fn126 rfl rfl rfl ?_
 refine zeb [1] rfl ?_
 refine zyr ?_
 repeat' first|(refine zap rfl ?_;refine zaq (cs := [_, _, _, _, _]) rfl (fun nb => ?_))|refine zp ?_|refine zyn ?_
 refine zeb [1] rfl ?_
 have hR := RdSl.ints (w0 := w0) (sh := (nb, .cells (List.toArray [kV, .int .i64 T.pool.root, .int .i64 T.pool.frm, .int .i64 T.pool.nodes, .int .i64 T.root]) 109 (0, 0)) :: [(lb, .cells (List.toArray (intsV l ++ [])) 2 (0, 0))]) (l := l) (cap := l.length) (spare := []) (.tail _ (.head _)) (Nat.le_refl _)
 rw [List.append_nil] at hR
 refine zyr ?_
 repeat' first|(refine zap rfl ?_;refine zdk [0] hG (takeG w0 p T.pool hT.pool) rfl rfl rfl zdj (fun t s hG => ?_))|refine zp ?_|refine zyl 0 rfl ?_|refine zyf rfl ?_|refine zyn ?_
 refine zyr ?_
 repeat' first|(refine zap rfl ?_;refine zbp rfl rfl ?_)|refine zp ?_|refine zyn ?_
 refine zed rfl (fun hE => ?_) (fun hE => ?_)
 · rw [if_pos hE] at hG
   rw [hG.done]
   repeat' first|refine zck ?_|refine zyq ?_|refine zp ?_|refine zch ?_
   exact zei rfl ⟨[], rfl, rfl, rfl⟩
 · rw [if_neg hE] at hG
   refine zyr ?_
   repeat' first|(refine zap rfl ?_;refine zce rfl ?_)|refine zp ?_|refine zyn ?_
   refine run_loop (S := Nat × Sp) (fun st => [(1, spP p), (3, .pointer (some ⟨nb, 0, none⟩)), (8, .int .i64 t.1), (22, .slice (some ⟨lb, 0, none⟩) l.length l.length), (23, .int .i64 (l.length : Int)), (24, .int .i64 (st.1 : Int))])
     (fun st Γ => Γ = [SpaceA p st.2] ∧ At R (Tr.putsL t.1 (st.1 : Int) (l.drop st.1) >>= fun _ => T.add 7 1 >>= fun _ => Pg.ret (t.1, 0)) st.2 ∧ st.1 ≤ l.length)
     (fun st => l.length - st.1) (0, s) ⟨rfl, rfl, rfl, rfl, rfl, rfl, trivial⟩ ⟨rfl, hG, Nat.zero_le _⟩ ?_
   rintro ⟨i, s⟩ Γ junk ⟨rfl, hG, hi⟩
   dsimp only at hG hi ⊢
   by_cases hlt : i < l.length
   · obtain ⟨v, hv⟩ : ∃ v, l[i]? = some v := ⟨l[i], List.getElem?_eq_getElem hlt⟩
     rw [show l.drop i = v :: l.drop (i + 1) by rw [List.drop_eq_getElem_cons hlt]; congr 1; exact (Option.some.inj ((List.getElem?_eq_getElem hlt).symm.trans hv))] at hG
     unfold Tr.putsL at hG
     rw [Pg.bind_assoc] at hG
     obtain ⟨bb, off, cc, TT, fr, e2, hm, hr⟩ := hR.at hv
     cases e2
     repeat' first|refine zck ?_|refine zcm ?_|refine zcl ?_|refine zcn ?_|refine zyq ?_|(refine zap rfl ?_;first|refine zad rfl hm (hr _ (by omega)) ?_|refine zdu (t := 34) rfl rfl ?_|refine zdk [0] hG (putG w0 p _ _) rfl rfl rfl zdj (fun u s hG => ?_)|refine zbg rfl rfl (by omega) ?_|refine zau rfl rfl (by omega) ?_|refine zas rfl rfl (by omega) ?_)|refine zp ?_|refine zch ?_|refine zci rfl ?_
     exact zeq ⟨rfl, (i + 1, s), ⟨rfl, rfl, rfl, rfl, rfl, zes (by dsimp only; omega), trivial⟩, ⟨rfl, by dsimp only; rw [show ((i + 1 : Nat) : Int) = (i : Int) + 1 by omega]; exact hG, hlt⟩, by dsimp only; omega⟩
   · have hi2 : i = l.length := by omega
     rw [hi2, List.drop_length] at hG
     unfold Tr.putsL at hG
     rw [Pg.pure_bind] at hG
     repeat' first|refine zck ?_|refine zyq ?_|(refine zap rfl ?_;refine zbh rfl rfl (by omega) ?_)|refine zch ?_|refine zcj rfl ?_
     refine zer rfl rfl ?_
     repeat' first|refine zck ?_|refine zyq ?_|(refine zap rfl ?_;refine zdk [0] hG (trAdd w0 p T hT _ _ (by decide)) rfl rfl rfl zdj (fun u s hG => ?_))|refine zp ?_|refine zyl 0 rfl ?_|refine zch ?_
     rw [hG.done]
     exact zei rfl ⟨[], rfl, rfl, rfl⟩
theorem trGive (p : Nat) (T : Tr) (hT : T.Ok) (a : Int) : FnG w0 [] 129 [trV T, spP p, .int .i64 a] p (T.give a) (.int .i64) := by
 intro s hS; have hG := At.start hS; generalize Pg.run _ s = R at hG ⊢
 unfold Tr.give at hG
 refine zep en129 fn129 rfl rfl rfl ?_
 refine zyr ?_
 repeat' first|(refine zap rfl ?_;refine zaq (cs := [_, _, _, _, _]) rfl (fun nb => ?_))|refine zp ?_|refine zyn ?_
 refine zeb [1] rfl ?_
 refine zyr ?_
 repeat' first|(refine zap rfl ?_;refine zdk [0] hG (giveG w0 p T.pool hT.pool a) rfl rfl rfl zdj (fun t s hG => ?_))|refine zp ?_|refine zyl 0 rfl ?_|refine zyf rfl ?_|refine zyn ?_
 refine zyr ?_
 repeat' first|(refine zap rfl ?_;refine zbp rfl rfl ?_)|refine zp ?_|refine zyn ?_
 refine zed rfl (fun hE => ?_) (fun hE => ?_)
 · rw [if_pos hE] at hG
   rw [hG.done]
   repeat' first|refine zck ?_|refine zyq ?_|refine zp ?_|refine zch ?_
   exact zej rfl ⟨rfl, rfl⟩
 · rw [if_neg hE] at hG
   repeat' first|refine zck ?_|refine zcm ?_|refine zyq ?_|(refine zap rfl ?_;refine zdk [0] hG (trAdd w0 p T hT _ _ (by decide)) rfl rfl rfl zdj (fun u s hG => ?_))|refine zp ?_|refine zyl 0 rfl ?_|refine zch ?_
   rw [hG.done]
   exact zej rfl ⟨rfl, rfl⟩
theorem trAlone (p : Nat) (T : Tr) (hT : T.Ok) (b : Int) (hb : 0 ≤ b ∧ b ≤ 5000) : FnG w0 [] 130 [trV T, spP p, .int .i64 b] p (T.alone b) encVB := by
 intro s hS; have hG := At.start hS; generalize Pg.run _ s = R at hG ⊢
 unfold Tr.alone at hG
 refine zep en130 fn130 rfl rfl rfl ?_
 refine zyr ?_
 repeat' first|(refine zap rfl ?_;refine zaq (cs := [_, _, _, _, _]) rfl (fun nb => ?_))|refine zp ?_|refine zyn ?_
 refine zeb [1] rfl ?_
 refine zyr ?_
 repeat' refine zp ?_
 all_goals refine zyn ?_
 refine zyr ?_
 repeat' refine zp ?_
 all_goals refine zyn ?_
 refine run_loop (S := Nat × Int × Sp) (fun st => [(1, spP p), (2, .int .i64 b), (3, .pointer (some ⟨nb, 0, none⟩)), (8, .int .i64 st.2.1), (13, .int .i64 (st.1 : Int))])
   (fun st Γ => Γ = [SpaceA p st.2.2] ∧ At R (T.aloneK b (8 - st.1) (st.1 : Int) st.2.1) st.2.2 ∧ st.1 ≤ 8)
   (fun st => 8 - st.1) (0, 0, s) ⟨rfl, rfl, rfl, rfl, rfl, trivial⟩ ⟨rfl, hG, Nat.zero_le 8⟩ ?_
 rintro ⟨i, one, s⟩ Γ junk ⟨rfl, hG, hi⟩
 dsimp only at hG hi ⊢
 by_cases hlt : i < 8
 · obtain ⟨k, hk⟩ : ∃ k, 8 - i = k + 1 := ⟨7 - i, by omega⟩
   rw [hk, Tr.aloneK] at hG
   refine zyr ?_
   repeat' (refine zap rfl ?_;refine zbg rfl rfl (by omega) ?_)
   all_goals refine zyn ?_
   refine zci rfl ?_
   refine zyr ?_
   repeat' refine zp ?_
   all_goals refine zyn ?_
   refine zyr ?_
   repeat' first|(refine zap rfl ?_;first|refine zdk [0] hG (getG w0 p _) rfl rfl rfl zdj (fun x s hG => ?_)|refine zau rfl rfl (by omega) ?_)|refine zp ?_|refine zyn ?_
   by_cases h1 : x < 0
   · rw [if_pos h1] at hG
     rw [hG.done]
     repeat' first|refine zck ?_|refine zyq ?_|(refine zap rfl ?_;first|refine zak rfl ?_|refine zal rfl ?_|refine zbg rfl rfl (by omega) ?_|refine zbu rfl ?_)|refine zp ?_|refine zch ?_|refine zci rfl ?_
     exact qret2 (fun _ _ h => h) rfl ⟨rfl, rfl⟩
   · rw [if_neg h1] at hG
     by_cases h2 : x = 0
     · rw [if_pos h2] at hG
       repeat' first|refine zck ?_|refine zcm ?_|refine zcn ?_|refine zyq ?_|(refine zap rfl ?_;first|refine zaj rfl ?_|refine zak rfl ?_|refine zbf rfl rfl (by omega) ?_|refine zbh rfl rfl (by omega) ?_|refine zau rfl rfl (by omega) ?_|refine zbv rfl ?_)|refine zp ?_|refine zch ?_|refine zcj rfl ?_
       exact zeq ⟨rfl, (i + 1, one, s), ⟨rfl, rfl, rfl, rfl, zes (by dsimp only; omega), trivial⟩, ⟨rfl, by dsimp only; rw [show 8 - (i + 1) = k by omega, show ((i + 1 : Nat) : Int) = (i : Int) + 1 by omega]; exact hG, hlt⟩, by dsimp only; omega⟩
     · rw [if_neg h2] at hG
       by_cases h3 : one = 0
       · rw [if_pos h3] at hG
         repeat' first|refine zck ?_|refine zcm ?_|refine zcn ?_|refine zyq ?_|(refine zap rfl ?_;first|refine zaj rfl ?_|refine zbe rfl rfl (by omega) ?_|refine zbf rfl rfl (by omega) ?_|refine zbh rfl rfl (by omega) ?_|refine zau rfl rfl (by omega) ?_|refine zbu rfl ?_|refine zbv rfl ?_)|refine zp ?_|refine zch ?_|refine zci rfl ?_|refine zcj rfl ?_
         exact zeq ⟨rfl, (i + 1, x, s), ⟨rfl, rfl, rfl, rfl, zes (by dsimp only; omega), trivial⟩, ⟨rfl, by dsimp only; rw [show 8 - (i + 1) = k by omega, show ((i + 1 : Nat) : Int) = (i : Int) + 1 by omega]; exact hG, hlt⟩, by dsimp only; omega⟩
       · rw [if_neg h3] at hG
         rw [hG.done]
         repeat' first|refine zck ?_|refine zyq ?_|(refine zap rfl ?_;first|refine zaj rfl ?_|refine zbe rfl rfl (by omega) ?_|refine zbh rfl rfl (by omega) ?_|refine zbu rfl ?_|refine zbv rfl ?_)|refine zp ?_|refine zch ?_|refine zci rfl ?_
         exact qret2 (fun _ _ h => h) rfl ⟨rfl, rfl⟩
 · have hk : 8 - i = 0 := by omega
   rw [hk, Tr.aloneK] at hG
   refine zyr ?_
   repeat' (refine zap rfl ?_;refine zbh rfl rfl (by omega) ?_)
   all_goals refine zyn ?_
   refine zcj rfl ?_
   refine zer rfl rfl ?_
   refine zyr ?_
   repeat' first|(refine zap rfl ?_;refine zbo rfl rfl ?_)|refine zp ?_|refine zyn ?_
   refine zed rfl (fun h0 => ?_) (fun h0 => ?_)
   · rw [if_pos h0] at hG
     rw [hG.done]
     repeat' first|refine zck ?_|refine zyq ?_|refine zp ?_|refine zch ?_
     exact zei rfl ⟨rfl, rfl⟩
   · rw [if_neg h0] at hG
     refine zyr ?_
     repeat' first|(refine zap rfl ?_;refine zah [] (trNode w0 T hT _) rfl rfl rfl zdj rfl ?_)|refine zp ?_|refine zyl 0 rfl ?_|refine zyn ?_
     have hnb := Tr.nodeN_bd one
     generalize hbb : T.nodeB one = bb at hG ⊢
     cases bb with
     | false =>
       simp only [Bool.false_eq_true, if_false] at hG
       rw [hG.done]
       repeat' first|refine zyq ?_|(refine zap rfl ?_;first|refine zak rfl ?_|refine zbv rfl ?_)|refine zp ?_|refine zch ?_
       exact zei rfl ⟨rfl, rfl⟩
     | true =>
       simp only [if_true] at hG
       repeat' first|refine zyq ?_|(refine zap rfl ?_;first|refine zaj rfl ?_|refine zdk [0] hG (getG w0 p _) rfl rfl rfl zdj (fun x s hG => ?_)|refine zau rfl rfl (by omega) ?_|refine zbo rfl rfl ?_|refine zbu rfl ?_)|refine zp ?_|refine zch ?_
       rw [hG.done]
       exact zei rfl ⟨rfl, rfl⟩
end Go.Proofs.YtgdhcgnmffgkiaaGreatDoor
