import Derived.Test.YtgdhcgnmffgkiaaGreatDoorPart7
import Derived.Test.YtgdhcgnmffgkiaaGreatDoorKit
import Derived.Test.YtgdhcgnmffgkiaaGreatDoorPart3
/- Own work: lemmas of this claim. -/
namespace Sim
open Go Go.Vc
abbrev wkO (p : Nat) (T : Te) (w : Wk) (t : TypeId) : Obj := .cells (List.toArray [.int .i64 T.pool.root, .int .i64 T.pool.frm, .int .i64 T.pool.nodes, .int .i64 T.root, .pointer (some ⟨p, 0, none⟩), .bool w.1, .int .i64 w.2]) t (0, 0)
end Sim
namespace Go.Proofs.YtgdhcgnmffgkiaaGreatDoor
variable (w0 : World)
open Go.Vc Sim
set_option maxHeartbeats 4000000
abbrev wkA (wb p : Nat) (T : Te) (w : Wk) : Asn := pt wb (wkO p T w 182)
abbrev ptrT (b : Nat) : Value := .pointer (some ⟨b, 0, none⟩)
abbrev teV (T : Te) : Value := .agg (List.toArray [.int .i64 T.pool.root, .int .i64 T.pool.frm, .int .i64 T.pool.nodes, .int .i64 T.root])
abbrev FnK {α : Type} (w0 : World) (f : FuncId) (args : List Value) (p wb : Nat) (T : Te) (w : Wk) (g : Pg (α × Wk)) (enc : α → Value) : Prop :=
 ∀ s, Pg.Fits g s → FnE PP w0 [] f args [SpaceA p s, wkA wb p T w] (enc (Pg.run g s).1.1) [SpaceA p (Pg.run g s).2, wkA wb p T (Pg.run g s).1.2]
section
variable {w0 : World} {n : Nat} {sh : Shared} {Q : Exit → Env → List Deferred → List Asn → Prop} {k : List Item} {ρ : Env} {df : List Deferred} {Γ Γr : List Asn}
variable {ops : Array Oper} {l : List (Fl × Nat × Oper)} {i : Nat} {ty : TypeId} {pos : String} {aft : Array Edge} {dst : Option Tmp}
variable {f : FuncId} {args : List Value} {fo : Operand} {cargs : Array Operand} {ats : Array TypeId} {first cap : Array Value}
theorem zdq (is : List Nat) {α β : Type} {R : β × Sp} {g : Pg (α × Wk)} {kk : α × Wk → Pg β} {s : Sp} {p wb : Nat} {T : Te} {w : Wk} {enc : α → Value} (hG : At R (g >>= kk) s) (spec : FnK w0 f args p wb T w g enc)
   (hfo : ev ρ fo = .func (.func f) first cap) (hargs : first.toList ++ cargs.toList.map (ev ρ) ++ cap.toList = args)
   (hp : pick is Γ = some ([SpaceA p s, wkA wb p T w], Γr)) (h : ∀ x c s', At R (kk (x, c)) s' → Reg PP w0 n sh Q ops l k (ρ.setO dst (enc x)) df (SpaceA p s' :: wkA wb p T c :: Γr)) :
   Reg PP w0 n sh Q ops ((Fl.loud, i, ⟨dst, .call ⟨.value fo, cargs, ats⟩, ty, pos, aft, none⟩) :: l) k ρ df Γ :=
 zah is (spec s hG.step.1) hfo hargs hp zdj rfl (h _ _ _ hG.step.2)
end
theorem teGet (p wb : Nat) (T : Te) (w : Wk) (a c : Int) : FnG w0 [(wb, wkO p T w 182)] 134 [ptrT wb, .int .i64 a, .int .i64 c] p (Pg.gt (w64 (a + c))) (.int .i64) := by
 intro s hS
 have hG := (At.start hS).to (Pg.bind_pure _).symm
 generalize Pg.run _ s = R at hG ⊢
 refine zep en134 fn134 rfl rfl rfl ?_
 repeat' first|refine zck ?_|refine zyq ?_|(refine zap rfl ?_;first|refine zdu rfl rfl ?_|refine zdk [0] hG (getG w0 p _) rfl rfl rfl zdj (fun x s hG => ?_))|refine zp ?_|refine zyl 0 rfl ?_|refine zyf rfl ?_|refine zch ?_
 rw [hG.done]
 exact zej rfl ⟨rfl, rfl⟩
theorem tePut (p wb : Nat) (T : Te) (w : Wk) (a c v : Int) : FnG w0 [(wb, wkO p T w 182)] 135 [ptrT wb, .int .i64 a, .int .i64 c, .int .i64 v] p (Pg.pt (w64 (a + c)) v) encU := by
 intro s hS
 have hG := (At.start hS).to (Pg.bind_pure _).symm
 generalize Pg.run _ s = R at hG ⊢
 refine zep en135 fn135 rfl rfl rfl ?_
 repeat' first|refine zyq ?_|(refine zap rfl ?_;first|refine zdu rfl rfl ?_|refine zdk [0] hG (putG w0 p _ _) rfl rfl rfl zdj (fun u s hG => ?_))|refine zp ?_|refine zyl 0 rfl ?_|refine zyf rfl ?_|refine zch ?_
 rw [hG.done]
 exact end_tmp0 rfl ⟨rfl, rfl⟩
theorem teKid (k key : Int) : FnE PP w0 [] 271 [.int .i64 k, .int .i64 key] [] (.int .i64 (Te.kid k key)) [] := by
 refine zep en271 fn271 rfl rfl rfl ?_
 refine zyr ?_
 repeat' refine zp ?_
 all_goals refine zyn ?_
 refine zyr ?_
 repeat' first|(refine zap rfl ?_;refine zbq rfl rfl ?_)|refine zp ?_|refine zyn ?_
 refine zed rfl (fun h => ?_) (fun h => ?_)
 · rw [Te.kid, if_pos h]
   repeat' first|refine zck ?_|refine zyq ?_|refine zp ?_|refine zch ?_
   exact zej rfl ⟨rfl, rfl⟩
 · rw [Te.kid, if_neg h]
   repeat' first|refine zck ?_|refine zcm ?_|refine zyq ?_|refine zp ?_|refine zch ?_
   exact zej rfl ⟨rfl, rfl⟩
theorem teRank (k : Int) : FnE PP w0 [] 137 [.int .i64 k] [] (.int .u64 (rankT k)) [] := by
 refine zep en137 fn137 rfl rfl rfl ?_
 repeat' first|refine zck ?_|refine zyq ?_|(refine zap rfl ?_;first|refine reg_shr (q := 33) rfl rfl (by decide) ?_|refine reg_xor rfl rfl ?_|refine reg_mul (t := 163) rfl rfl ?_|refine zca rfl ?_)|refine zp ?_|refine zch ?_
 exact zej rfl ⟨rfl, rfl⟩
theorem teIs (p wb : Nat) (T : Te) (hT : T.Ok) (w : Wk) (a : Int) : FnE PP w0 [] 146 [ptrT wb, .int .i64 a] [wkA wb p T w] (.bool (T.is a w).1) [wkA wb p T (T.is a w).2] := by
 obtain ⟨b, l⟩ := w
 by_cases h : a = 0 ∨ b = true
 · have e : T.is a (b, l) = (false, (b, l)) := by rw [Te.is, if_pos h]
   rw [e]
   by_cases ha : a = 0
   · refine zep en146 fn146 rfl rfl rfl ?_
     repeat' first|refine zck ?_|refine zyq ?_|(refine zap rfl ?_;first|refine zak rfl ?_|refine zbc rfl rfl (by omega) ?_|refine zbu rfl ?_)|refine zp ?_|refine zch ?_|refine zci rfl ?_
     exact zej rfl ⟨rfl, rfl⟩
   · have hb : b = true := h.resolve_left ha
     subst hb
     refine zep en146 fn146 rfl rfl rfl ?_
     repeat' first|refine zck ?_|refine zyq ?_|(refine zap rfl ?_;first|refine zaj rfl ?_|refine zab 0 rfl rfl rfl ?_|refine zbd rfl rfl (by omega) ?_|refine zbv rfl ?_)|refine zp ?_|refine zyf rfl ?_|refine zch ?_|refine zci rfl ?_
     exact zej rfl ⟨rfl, rfl⟩
 · have ha : a ≠ 0 := fun q => h (.inl q)
   have hb : b = false := by cases b with
     | false => rfl
     | true => exact absurd (.inr rfl) h
   subst hb
   have kn := node_spec w0 T.pool hT.1 a
   have e : T.is a (false, l) = (!(if T.pool.node a = true then decide (w64 (l - 1) < 0) else true), (if T.pool.node a = true then decide (w64 (l - 1) < 0) else true), w64 (l - 1)) := by rw [Te.is, if_neg h]
   rw [e]
   cases hN : T.pool.node a with
   | false =>
     rw [hN] at kn
     refine zep en146 fn146 rfl rfl rfl ?_
     repeat' first|refine zck ?_|refine zcm ?_|refine zyq ?_|(refine zap rfl ?_;first|refine zbx rfl ?_|refine zev rfl rfl ?_|refine zaj rfl ?_|refine zak rfl ?_|refine zab 0 rfl rfl rfl ?_|refine zah [] kn rfl rfl rfl zdj rfl ?_|refine zbd rfl rfl (by omega) ?_|refine zbu rfl ?_|refine zbv rfl ?_|refine zae 0 rfl rfl rfl rfl rfl rfl rfl ?_)|refine zp ?_|refine zyf rfl ?_|refine zch ?_|refine zcj rfl ?_
     exact zej rfl ⟨rfl, rfl⟩
   | true =>
     rw [hN] at kn
     rw [if_pos rfl]
     by_cases hl : w64 (l - 1) < 0
     · rw [decide_eq_true hl]
       refine zep en146 fn146 rfl rfl rfl ?_
       repeat' first|refine zck ?_|refine zcm ?_|refine zyq ?_|(refine zap rfl ?_;first|refine zbg rfl rfl hl ?_|refine zbx rfl ?_|refine zev rfl rfl ?_|refine zaj rfl ?_|refine zab 0 rfl rfl rfl ?_|refine zah [] kn rfl rfl rfl zdj rfl ?_|refine zbd rfl rfl (by omega) ?_|refine zbv rfl ?_|refine zae 0 rfl rfl rfl rfl rfl rfl rfl ?_)|refine zp ?_|refine zyf rfl ?_|refine zch ?_|refine zcj rfl ?_
       exact zej rfl ⟨rfl, rfl⟩
     · rw [decide_eq_false hl]
       refine zep en146 fn146 rfl rfl rfl ?_
       repeat' first|refine zck ?_|refine zcm ?_|refine zyq ?_|(refine zap rfl ?_;first|refine zbh rfl rfl (Int.not_lt.1 hl) ?_|refine zbx rfl ?_|refine zev rfl rfl ?_|refine zaj rfl ?_|refine zab 0 rfl rfl rfl ?_|refine zah [] kn rfl rfl rfl zdj rfl ?_|refine zbd rfl rfl (by omega) ?_|refine zbv rfl ?_|refine zae 0 rfl rfl rfl rfl rfl rfl rfl ?_)|refine zp ?_|refine zyf rfl ?_|refine zch ?_|refine zcj rfl ?_
       exact zej rfl ⟨rfl, rfl⟩
theorem teStart (p : Nat) (T : Te) : Vc.Fn PP w0 [] 132 [teV T, spP p] [] (fun v Γ => ∃ wb, v = ptrT wb ∧ Γ = [wkA wb p T T.start]) := by
 refine zep en132 fn132 rfl rfl rfl ?_
 refine zyr ?_
 repeat' first|(refine zap rfl ?_;refine zaq (cs := [_, _, _, _]) rfl (fun nb => ?_))|refine zp ?_|refine zyn ?_
 refine zeb [0] rfl ?_
 repeat' first|refine zyq ?_|(refine zap rfl ?_;first|refine zdu rfl rfl ?_|refine reg_mul rfl rfl ?_|refine zaq (cs := [_, _, _, _, _, _, _]) rfl (fun nb => ?_)|refine zcb rfl ?_)|refine zp ?_|refine zyl 0 rfl ?_|refine zyf rfl ?_|refine zch ?_
 exact zej rfl ⟨_, rfl, rfl⟩
theorem teOf (p wb : Nat) (T : Te) (hT : T.Ok) (w : Wk) (a c : Int) : FnK w0 147 [ptrT wb, .int .i64 a, .int .i64 c] p wb T w (T.ofW a c w) (.int .i64) := by
 have ki := teIs w0 p wb T hT w a
 intro s hS; have hG := At.start hS; generalize Pg.run _ s = R at hG ⊢
 unfold Te.ofW at hG
 cases hI : (T.is a w).1 with
 | false =>
   rw [hI, if_neg (by decide)] at hG
   rw [hI] at ki
   rw [hG.done]
   refine zep en147 fn147 rfl rfl rfl ?_
   repeat' first|refine zck ?_|refine zyq ?_|(refine zap rfl ?_;first|refine zbx rfl ?_|refine zah [1] ki rfl rfl rfl zdj rfl ?_)|refine zp ?_|refine zch ?_|refine zci rfl ?_
   refine zec [1, 0] rfl ?_
   exact zej rfl ⟨rfl, rfl⟩
 | true =>
   rw [hI, if_pos rfl] at hG
   rw [hI] at ki
   refine zep en147 fn147 rfl rfl rfl ?_
   repeat' first|refine zck ?_|refine zcm ?_|refine zyq ?_|(refine zap rfl ?_;first|refine zbx rfl ?_|refine zah [1] ki rfl rfl rfl zdj rfl ?_|refine zdn [1, 0] hG (teGet w0 p wb T _ a c) rfl rfl rfl (fun v s hG => ?_))|refine zp ?_|refine zch ?_|refine zcj rfl ?_
   rw [hG.done]
   exact zej rfl ⟨rfl, rfl⟩
theorem teRefresh (p wb : Nat) (T : Te) (hT : T.Ok) (w : Wk) (a : Int) : FnK w0 139 [ptrT wb, .int .i64 a] p wb T w (T.refresh a w) encU := by
 intro s hS; have hG := At.start hS; generalize Pg.run _ s = R at hG ⊢
 unfold Te.refresh at hG
 refine zep en139 fn139 rfl rfl rfl ?_
 refine zyr ?_
 repeat' first|(refine zap rfl ?_;first|refine zdn [0, 0] hG (teGet w0 p wb T w a 2) rfl rfl rfl (fun l s hG => ?_)|refine zdn [0, 0] hG (teGet w0 p wb T w a 3) rfl rfl rfl (fun r s hG => ?_))|refine zp ?_|refine zyn ?_
 refine zyr ?_
 repeat' first|(refine zap rfl ?_;first|refine zdu rfl rfl ?_|refine zdq [0, 0] hG (teOf w0 p wb T hT w l 4) rfl rfl rfl (fun x w1 s hG => ?_)|refine zdq [0, 0] hG (teOf w0 p wb T hT w1 r 4) rfl rfl rfl (fun y w2 s hG => ?_)|refine zdn [0, 0] hG (tePut w0 p wb T w2 a 4 _) rfl rfl rfl (fun _ s hG => ?_))|refine zp ?_|refine zyn ?_
 repeat' first|refine zyq ?_|(refine zap rfl ?_;first|refine zdu rfl rfl ?_|refine zdn [0, 0] hG (teGet w0 p wb T w2 a 1) rfl rfl rfl (fun v s hG => ?_)|refine zdq [0, 0] hG (teOf w0 p wb T hT w2 l 5) rfl rfl rfl (fun x w3 s hG => ?_)|refine zdq [0, 0] hG (teOf w0 p wb T hT w3 r 5) rfl rfl rfl (fun y w4 s hG => ?_)|refine zdn [0, 0] hG (tePut w0 p wb T w4 a 5 _) rfl rfl rfl (fun _ s hG => ?_))|refine zp ?_|refine zch ?_
 rw [hG.done]
 exact end_tmp0 rfl ⟨rfl, rfl⟩
theorem teUndo (p : Nat) (s : Sp) (m : Nat) (eb : Nat) (e : Int) : FnD PP w0 [] 131 [spP p, .int .i64 m, ptrT eb] [SpaceA p s, erV eb e]
    fun v Γ' => v = .tuple #[] ∧ Γ' = [SpaceA p (if e ≠ 0 then s.back m else s), erV eb e] := by
  refine fnD_of_run en131 fn131 rfl rfl rfl ?_
 
  repeat' first|refine zck ?_|refine zyq ?_|(refine zap rfl ?_;first|refine zab 1 rfl rfl rfl ?_|refine zbp rfl rfl ?_)|refine zp ?_|refine zch ?_
  refine zed rfl (fun hE => ?_) (fun hE => ?_)
  · repeat' first|refine zyq ?_|(refine zap rfl ?_;refine zah [0] (back_spec w0 p s m) rfl rfl rfl zdj rfl ?_)|refine zp ?_|refine zch ?_
    refine run_nil ⟨rfl, ends_none rfl ?_⟩
    rw [if_pos hE]; exact ⟨rfl, rfl⟩
  · repeat' first|refine zcm ?_|(refine zap rfl ?_;first|refine zaj rfl ?_|refine zak rfl ?_|refine zal rfl ?_|refine zam rfl rfl (fun _ => ?_) (fun _ => ?_))|refine zch ?_
    refine run_nil ⟨rfl, ends_none rfl ?_⟩
    rw [if_neg hE]; exact ⟨rfl, rfl⟩
def teD (p eb : Nat) (m : Nat) : Deferred := { target := .fn (.func 131) #[], args := List.toArray [spP p, .int .i64 m, ptrT eb] }
theorem teLen (p : Nat) (T : Te) : FnG w0 [] 72 [teV T, spP p] p T.len (.int .i64) := by
 intro s hS; have hG := At.start hS; generalize Pg.run _ s = R at hG ⊢
 unfold Te.len at hG
 have hG := hG.to (Pg.bind_pure _).symm
 refine zep en72 fn72 rfl rfl rfl ?_
 refine zyr ?_
 repeat' first|(refine zap rfl ?_;refine zaq (cs := [_, _, _, _]) rfl (fun nb => ?_))|refine zp ?_|refine zyn ?_
 refine zeb [1] rfl ?_
 repeat' first|refine zyq ?_|(refine zap rfl ?_;first|refine zdu rfl rfl ?_|refine zdk [0] hG (getG w0 p _) rfl rfl rfl zdj (fun x s hG => ?_))|refine zp ?_|refine zyl 0 rfl ?_|refine zyf rfl ?_|refine zch ?_
 rw [hG.done]
 exact zej rfl ⟨rfl, rfl⟩
abbrev shW (wb b : Nat) : Nat × Obj := (b, .cells (List.toArray [ptrT wb]) 176 (0, 0))
abbrev shK (k : Int) (b : Nat) : Nat × Obj := (b, .cells (List.toArray [.int .i64 k]) 2 (0, 0))
theorem teWay (wb : Nat) (k : Int) : Vc.Fn PP w0 [] 141 [ptrT wb, .int .i64 k] [] (fun v Γ => ∃ b1 b2, v = .func (.func 272) #[] #[ptrT b1, ptrT b2] ∧
   Γ = [pt (shW wb b1).1 (shW wb b1).2, pt (shK k b2).1 (shK k b2).2]) := by
 refine zep en141 fn141 rfl rfl rfl ?_
 refine zyr ?_
 repeat' first|(refine zap rfl ?_;refine zaq (cs := [_]) rfl (fun nb => ?_))|refine zp ?_|refine zyn ?_
 repeat' first|refine zyq ?_|refine zp ?_|refine zch ?_
 exact zej rfl ⟨_, _, rfl, rfl⟩
abbrev YX (_ : Te) {β : Type} (φ : Nat → β → Prop) (f : β → Int × Int → Pg (β × Bool)) : Type := {x : β × (Int × Int) × Wk × Sp // Pg.Fits (f x.1 x.2.1) x.2.2.2 ∧ ∃ i, i < 128 ∧ φ i x.1}
def RYt (p wb : Nat) (T : Te) {β : Type} (φ : Nat → β → Prop) (f : β → Int × Int → Pg (β × Bool)) (A X : β → Asn) (x : YX T φ f) (jump : Option Code) (Γ : List Asn) : Prop :=
 jump = (if (Pg.run (f x.1.1 x.1.2.1) x.1.2.2.2).1.2 = true then none else some .ret) ∧
 Γ = [SpaceA p (Pg.run (f x.1.1 x.1.2.1) x.1.2.2.2).2, wkA wb p T x.1.2.2.1, if (Pg.run (f x.1.1 x.1.2.1) x.1.2.2.2).1.2 = true then A (Pg.run (f x.1.1 x.1.2.1) x.1.2.2.2).1.1 else X (Pg.run (f x.1.1 x.1.2.1) x.1.2.2.2).1.1]
theorem teWay1 (p wb : Nat) (T : Te) (hT : T.Ok) (k : Int) (sh : Shared) (b1 b2 : Nat) {β : Type} (f : β → Int × Int → Pg (β × Bool)) (A X : β → Asn) (φ : Nat → β → Prop) (hφ : ∀ i acc x s, i < 128 → φ i acc → (Pg.run (f acc x) s).1.2 = true → φ (i + 1) (Pg.run (f acc x) s).1.1) (L : Nat) (lp : Option Code → Asn)
   (hY : ∀ x : YX T φ f, Yld PP w0 (shW wb b1 :: shK k b2 :: sh) L [.agg (List.toArray [.int .i64 x.1.2.1.1, .int .i64 x.1.2.1.2])] (lp none :: [SpaceA p x.1.2.2.2, wkA wb p T x.1.2.2.1, A x.1.1])
     (fun b Γ' => ∃ jump Γ'', b = jump.isNone ∧ RYt p wb T φ f A X x jump Γ'' ∧ Γ' = lp jump :: Γ'')) (w : Wk) (acc : β) (h0 : φ 0 acc) (s : Sp) (hS : Pg.Fits (T.way f k w acc) s) :
   Vc.Fn PP w0 (shW wb b1 :: shK k b2 :: sh) 272 [.func (.yield L) #[] #[], ptrT b1, ptrT b2]
     [lp none, SpaceA p s, wkA wb p T w, A acc]
     (fun _ Γ' => Γ' = [lp (if (Pg.run (T.way f k w acc) s).1.1.2 = true then some .ret else none), SpaceA p (Pg.run (T.way f k w acc) s).2, wkA wb p T (Pg.run (T.way f k w acc) s).1.2, if (Pg.run (T.way f k w acc) s).1.1.2 = true then X (Pg.run (T.way f k w acc) s).1.1.1 else A (Pg.run (T.way f k w acc) s).1.1.1]) := by
 have hG := At.start hS
 generalize Pg.run _ s = R at hG ⊢
 unfold Te.way at hG
 obtain ⟨⟨hp1, hp2, hp3, hp4, hp5, hp6, hp7⟩, _, _⟩ := id hT
 refine zep en272 fn272 rfl rfl rfl ?_
 refine zyr ?_
 repeat' refine zp ?_
 all_goals refine zyn ?_
 first|refine zcp (by kernel_rfl) ?_|refine zeh PP_mixed (by kernel_rfl) (by kernel_rfl) ?_
 repeat' first|(refine zap rfl ?_;first|refine zab 2 rfl rfl rfl ?_|refine zdk [1] hG (getG w0 p _) rfl rfl rfl zdj (fun a s hG => ?_))|refine zp ?_|refine zyl 0 rfl ?_|refine zyf rfl ?_|refine zyn ?_
 repeat (first|refine zck ?_|refine zcl ?_|refine zcm ?_|refine zcn ?_|refine zco ?_)
 refine zec [0, 1, 0, 0] rfl ?_
 refine run_loop (S := Int × Nat × Wk × β × Sp) (fun v => [(0, .func (.yield L) #[] #[]), (1, ptrT b1), (2, ptrT b2), (4, .int .i64 (T.pool.nodes - v.2.1)), (5, .int .i64 v.1)])
   (fun v Γ => Γ = [SpaceA p v.2.2.2.2, wkA wb p T v.2.2.1, lp none, A v.2.2.2.1] ∧ At R (T.wayK f k v.2.1 v.1 v.2.2.1 v.2.2.2.1) v.2.2.2.2 ∧ v.2.1 ≤ T.pool.nodes.toNat ∧ φ (T.pool.nodes.toNat - v.2.1) v.2.2.2.1) (fun v => v.2.1) (a, T.pool.nodes.toNat, w, acc, s) ⟨rfl, rfl, rfl, by show Value.int .i64 0 = _; congr 1; dsimp only; omega, rfl, trivial⟩ ⟨rfl, hG, Nat.le_refl _, by dsimp only; rw [Nat.sub_self]; exact h0⟩ ?_
 rintro ⟨a, j, w, acc, s⟩ Γ junk ⟨rfl, hG, hle, hph⟩
 dsimp only at hG hle hph ⊢
 have ki := teIs w0 p wb T hT w a
 cases hI : (T.is a w).1 with
 | false =>
   have hG : At R (Pg.ret ((acc, false), (T.is a w).2)) s := by
     cases j with
     | zero => rw [Te.wayK, hI, if_neg (by decide)] at hG; exact hG
     | succ j => rw [Te.wayK, hI, if_neg (by decide)] at hG; exact hG
   rw [hI] at ki
   rw [hG.done]
   refine zyr ?_
   repeat' first|(refine zap rfl ?_;refine zah [1] ki rfl rfl rfl zdj rfl ?_)|refine zp ?_|refine zyl 0 rfl ?_|refine zyn ?_
   refine zcj rfl ?_
   refine zer rfl rfl ?_
   exact run_nil (zek (zel [2, 1, 0, 0] rfl (ends_none rfl ⟨rfl, by simp⟩)))
 | true =>
 rw [hI] at ki
 cases j with
 | zero =>
   rw [Te.wayK, hI, if_pos rfl] at hG
   rw [hG.done]
   repeat' first|refine zck ?_|refine zcm ?_|refine zcl ?_|refine zyq ?_|(refine zap rfl ?_;first|refine zab 0 rfl rfl rfl ?_|refine zah [1] ki rfl rfl rfl zdj rfl ?_|refine zbm rfl rfl (by omega) ?_|refine zae 0 rfl rfl rfl rfl rfl rfl rfl ?_)|refine zp ?_|refine zyl 0 rfl ?_|refine zyf rfl ?_|refine zch ?_|refine zci rfl ?_
   exact cut_ret (zek (zel [2, 1, 0, 0] rfl (ends_none rfl ⟨rfl, by first | rfl | simp⟩)))
 | succ j =>
   rw [Te.wayK, hI, if_pos rfl] at hG
   refine zyr ?_
   repeat' first|(refine zap rfl ?_;refine zah [1] ki rfl rfl rfl zdj rfl ?_)|refine zp ?_|refine zyl 0 rfl ?_|refine zyn ?_
   refine zci rfl ?_
   repeat (first|refine zck ?_|refine zcl ?_|refine zcm ?_|refine zcn ?_|refine zco ?_)
   refine zyr ?_
   repeat' first|(refine zap rfl ?_;first|refine zab 0 rfl rfl rfl ?_|refine zbn rfl rfl (by omega) ?_)|refine zp ?_|refine zyl 0 rfl ?_|refine zyf rfl ?_|refine zyn ?_
   refine zcj rfl ?_
   repeat (first|refine zck ?_|refine zcl ?_|refine zcm ?_|refine zcn ?_|refine zco ?_)
   refine zyr ?_
   repeat' first|(refine zap rfl ?_;refine zdn [1, 0] hG (teGet w0 p wb T _ a 0) rfl rfl rfl (fun key s hG => ?_))|refine zp ?_|refine zyl 0 rfl ?_|refine zyn ?_
   have hph2 := hφ _ acc (a, key) s (by omega) hph
   rw [show T.pool.nodes.toNat - (j + 1) + 1 = T.pool.nodes.toNat - j by omega] at hph2
   have hy := hY ⟨(acc, (a, key), (T.is a w).2, s), hG.step.1, T.pool.nodes.toNat - (j + 1), by omega, hph⟩
   have hG := hG.step.2
   unfold RYt at hy
   dsimp only at hG hy
   generalize Pg.run (f acc (a, key)) s = q at hG hph2 hy
   obtain ⟨⟨acc2, go⟩, s⟩ := q
   dsimp only at hG hph2 hy
   cases go with
   | false =>
     rw [if_pos rfl] at hG
     rw [hG.done]
     simp only [Bool.false_eq_true, if_false] at hy
     refine zyr ?_
     repeat' first|(refine zap rfl ?_;first|refine zbx rfl ?_|refine zak rfl ?_|refine reg_yield [2, 0, 0, 0] hy rfl rfl rfl (fun _ h => h) (fun | _, _, ⟨_, _, rfl, ⟨rfl, rfl⟩, rfl⟩ => ?_)|refine zbu rfl ?_|refine zcb rfl ?_)|refine zp ?_|refine zyn ?_
     refine zci rfl ?_
     exact cut_ret (zek (ends_none rfl rfl))
   | true =>
     rw [if_neg (by decide)] at hG
     simp only [if_true] at hy
     by_cases hk : key = k
     · rw [if_pos hk] at hG
       rw [hG.done]
       refine zyr ?_
       repeat' first|(refine zap rfl ?_;first|refine zbx rfl ?_|refine zaj rfl ?_|refine reg_yield [2, 0, 0, 0] hy rfl rfl rfl (fun _ h => h) (fun | _, _, ⟨_, _, rfl, ⟨rfl, rfl⟩, rfl⟩ => ?_)|refine zbc rfl rfl (by omega) ?_|refine zbv rfl ?_|refine zcb rfl ?_)|refine zp ?_|refine zyl 1 rfl ?_|refine zyn ?_
       refine zci rfl ?_
       exact cut_ret (zek (ends_none rfl rfl))
     · rw [if_neg hk] at hG
       refine zyr ?_
       repeat' first|(refine zap rfl ?_;first|refine zbx rfl ?_|refine zaj rfl ?_|refine reg_yield [2, 0, 0, 0] hy rfl rfl rfl (fun _ h => h) (fun | _, _, ⟨_, _, rfl, ⟨rfl, rfl⟩, rfl⟩ => ?_)|refine zbd rfl rfl (by omega) ?_|refine zbv rfl ?_|refine zcb rfl ?_)|refine zp ?_|refine zyl 1 rfl ?_|refine zyn ?_
       refine zcj rfl ?_
       repeat (first|refine zck ?_|refine zcl ?_|refine zcm ?_|refine zcn ?_|refine zco ?_)
       repeat' first|refine zcn ?_|refine zyq ?_|(refine zap rfl ?_;first|refine zah [] (teKid w0 k key) rfl rfl rfl zdj rfl ?_|refine zdn [1, 1] hG (teGet w0 p wb T _ a (Te.kid k key)) rfl rfl rfl (fun b s hG => ?_)|refine zau rfl rfl (by omega) ?_)|refine zp ?_|refine zyl 0 rfl ?_|refine zyl 1 rfl ?_|refine zch ?_
       exact zeq ⟨rfl, (b, j, (T.is a w).2, acc2, s), ⟨rfl, rfl, rfl, by show Value.int .i64 _ = _; congr 1; dsimp only; omega, rfl, trivial⟩, ⟨rfl, hG, by dsimp only; omega, hph2 rfl⟩, Nat.lt_succ_self j⟩
end Go.Proofs.YtgdhcgnmffgkiaaGreatDoor
namespace Sim
open Go Go.Vc
structure Gh where
 pool : Pl
 root : Int
def Gh.Ok (G : Gh) : Prop := G.pool.Ok ∧ 0 ≤ G.root ∧ G.root ≤ 4096
structure GL where
 head : Int
 nx : Int
 pv : Int
namespace Gh
variable (G : Gh)
def nd (n : Int) : Bool := G.pool.node n
def all : GL := ⟨w64 (G.root + 0), 2, 3⟩
def out (v : Int) : GL := ⟨w64 (v + 4), 4, 5⟩
def inn (v : Int) : GL := ⟨w64 (v + 5), 6, 7⟩
def vm : Int := -1 - 2 * G.root
def em : Int := -2 - 2 * G.root
def more (a n : Int) : Pg Unit := do
 let v ← Pg.gt a
 let _ ← Pg.pt a (w64 (v + n))
 pure ()
def vertex (n : Int) : Pg Bool :=
 if G.nd n = true then do
   let v ← Pg.gt (w64 (n + 0))
   pure (decide (v = G.vm))
 else pure false
def edge (n : Int) : Pg Bool :=
 if G.nd n = true then do
   let v ← Pg.gt (w64 (n + 0))
   pure (decide (v = G.em))
 else pure false
def link (l : GL) (n : Int) : Pg Int := do
 let was ← Pg.gt l.head
 let _ ← Pg.pt (w64 (n + l.nx)) was
 let _ ← Pg.pt (w64 (n + l.pv)) 0
 let _ ← Pg.pt l.head n
 if was = 0 then pure 0 else
 if G.nd was = true then do
   let _ ← Pg.pt (w64 (was + l.pv)) n
   pure 0
 else pure 24
def unlinkB (l : GL) (a b : Int) : Pg Int :=
 if b = 0 then pure 0 else
 if G.nd b = true then do
   let _ ← Pg.pt (w64 (b + l.pv)) a
   pure 0
 else pure 24
def unlink (l : GL) (n : Int) : Pg Int := do
 let a ← Pg.gt (w64 (n + l.pv))
 let b ← Pg.gt (w64 (n + l.nx))
 if a = 0 then do
   let _ ← Pg.pt l.head b
   G.unlinkB l a b
 else if G.nd a = true then do
   let _ ← Pg.pt (w64 (a + l.nx)) b
   G.unlinkB l a b
 else pure 24
def after (m : Nat) (r : Int × Int) : Pg (Int × Int) := if r.2 ≠ 0 then do
   let _ ← Pg.bk m
   pure r
 else pure r
def afterE (m : Nat) (e : Int) : Pg Int := if e ≠ 0 then do
   let _ ← Pg.bk m
   pure e
 else pure e
def addIn (name : Int) : Pg (Int × Int) := do
 let t ← G.pool.takeP
 if t.2 ≠ 0 then pure (0, t.2) else do
   let _ ← Pg.pt (w64 (t.1 + 0)) G.vm
   let _ ← Pg.pt (w64 (t.1 + 1)) name
   let _ ← Pg.pt (w64 (t.1 + 4)) 0
   let _ ← Pg.pt (w64 (t.1 + 5)) 0
   let _ ← Pg.pt (w64 (t.1 + 6)) 0
   let _ ← Pg.pt (w64 (t.1 + 7)) 0
   let e ← G.link G.all t.1
   if e ≠ 0 then pure (0, e) else do
     let _ ← more (w64 (G.root + 1)) 1
     let _ ← more (w64 (G.root + 7)) 1
     pure (t.1, 0)
def add (name : Int) : Pg (Int × Int) := do
 let m ← Pg.mk
 let r ← G.addIn name
 after m r
def thr {β : Type} (l : GL) (f : β → Int → Pg (β × Bool)) : Nat → Int → β → Pg (β × Int × Bool)
 | 0, n, acc => if n = 0 then pure (acc, 0, false) else pure (acc, 24, false)
 | k + 1, n, acc =>
   if n = 0 then pure (acc, 0, false) else
   if G.nd n = true then do
     let r ← f acc n
     if r.2 = true then do
       let m ← Pg.gt (w64 (n + l.nx))
       thr l f k m r.1
     else pure (r.1, 0, true)
   else pure (acc, 24, false)
def through {β : Type} (l : GL) (f : β → Int → Pg (β × Bool)) (acc : β) : Pg (β × Int × Bool) := do
 let n ← Pg.gt l.head
 G.thr l f G.pool.nodes.toNat n acc
def findF (b : Int) (acc n : Int) : Pg (Int × Bool) := do
 let x ← Pg.gt (w64 (n + 2))
 pure (if x = b then (n, false) else (acc, true))
def find (a b : Int) : Pg (Int × Int) := do
 let r ← G.through (out a) (findF b) 0
 pure (if r.2.2 = true then (r.1, 0) else (0, r.2.1))
def linkIn (a b heavy : Int) : Pg (Int × Int) := do
 let va ← G.vertex a
 if va = true then do
   let vb ← G.vertex b
   if vb = true then do
     let f ← G.find a b
     if f.1 ≠ 0 then pure (0, 11) else do
       let t ← G.pool.takeP
       if t.2 ≠ 0 then pure (0, t.2) else
       if f.2 ≠ 0 then pure (0, f.2) else do
         let _ ← Pg.pt (w64 (t.1 + 0)) G.em
         let _ ← Pg.pt (w64 (t.1 + 1)) a
         let _ ← Pg.pt (w64 (t.1 + 2)) b
         let _ ← Pg.pt (w64 (t.1 + 3)) heavy
         let e ← G.link (out a) t.1
         if e ≠ 0 then pure (0, e) else do
           let e ← G.link (inn b) t.1
           if e ≠ 0 then pure (0, e) else do
             let _ ← more (w64 (a + 6)) 1
             let _ ← more (w64 (b + 7)) 1
             let _ ← more (w64 (G.root + 2)) 1
             let _ ← more (w64 (G.root + 7)) 1
             pure (t.1, 0)
   else pure (0, 10)
 else pure (0, 10)
def lnk (a b heavy : Int) : Pg (Int × Int) := do
 let m ← Pg.mk
 let r ← G.linkIn a b heavy
 after m r
def cutN (n : Int) : Pg Int := do
 let a ← Pg.gt (w64 (n + 1))
 let b ← Pg.gt (w64 (n + 2))
 if G.nd a = true ∧ G.nd b = true then do
   let e ← G.unlink (out a) n
   if e ≠ 0 then pure e else do
     let e ← G.unlink (inn b) n
     if e ≠ 0 then pure e else do
       let _ ← more (w64 (a + 6)) (-1)
       let _ ← more (w64 (b + 7)) (-1)
       let _ ← more (w64 (G.root + 2)) (-1)
       let _ ← more (w64 (G.root + 7)) (-1)
       G.pool.giveP n
 else pure 24
def cut (n : Int) : Pg Int := do
 let m ← Pg.mk
 let is ← G.edge n
 if is = true then do
   let e ← G.cutN n
   afterE m e
 else afterE m 10
def emptyK (l : GL) : Nat → Pg Int
 | 0 => do
   let n ← Pg.gt l.head
   if n = 0 then pure 0 else pure 24
 | k + 1 => do
   let n ← Pg.gt l.head
   if n = 0 then pure 0 else
   if G.nd n = true then do
     let e ← G.cutN n
     if e ≠ 0 then pure e else emptyK l k
   else pure 24
def empty (l : GL) : Pg Int := G.emptyK l (G.pool.nodes.toNat + 1)
def dropEnd (n v : Int) : Pg (Int × Int) := do
 let e ← G.unlink G.all n
 if e ≠ 0 then pure (0, e) else do
   let _ ← more (w64 (G.root + 1)) (-1)
   let _ ← more (w64 (G.root + 7)) (-1)
   let e ← G.pool.giveP n
   if e ≠ 0 then pure (0, e) else pure (v, 0)
def dropIn (n : Int) : Pg (Int × Int) := do
 let is ← G.vertex n
 if is = true then do
   let v ← Pg.gt (w64 (n + 1))
   let e ← G.empty (out n)
   if e ≠ 0 then pure (0, e) else do
     let e ← G.empty (inn n)
     if e ≠ 0 then pure (0, e) else G.dropEnd n v
 else pure (0, 10)
def drop (n : Int) : Pg (Int × Int) := do
 let m ← Pg.mk
 let r ← G.dropIn n
 after m r
def weigh (a b : Int) : Pg (Int × Bool) := do
 let va ← G.vertex a
 if va = true then do
   let vb ← G.vertex b
   if vb = true then do
     let f ← G.find a b
     if f.1 = 0 ∨ f.2 ≠ 0 then pure (0, false) else do
       let w ← Pg.gt (w64 (f.1 + 3))
       pure (w, true)
   else pure (0, false)
 else pure (0, false)
def label (n : Int) : Pg (Int × Int) := do
 let is ← G.vertex n
 if is = true then do
   let v ← Pg.gt (w64 (n + 1))
   pure (v, 0)
 else pure (0, 10)
def endsF (whom : Int) (acc : List (Int × Int)) (n : Int) : Pg (List (Int × Int) × Bool) := do
 let x ← Pg.gt (w64 (n + whom))
 let y ← Pg.gt (w64 (n + 3))
 pure (acc ++ [(x, y)], true)
def ends (n : Int) (l : GL) (whom : Int) : Pg (List (Int × Int) × Int) := do
 let is ← G.vertex n
 if is = true then do
   let r ← G.through l (endsF whom) []
   pure (if r.2.1 ≠ 0 then ([], r.2.1) else (r.1, 0))
 else pure ([], 10)
def vertsF (acc : List Int) (n : Int) : Pg (List Int × Bool) := pure (acc ++ [n], true)
def verts : Pg (List Int × Int) := do
 let r ← G.through G.all vertsF []
 pure (if r.2.1 ≠ 0 then ([], r.2.1) else (r.1, 0))
def edges : Pg Int := Pg.gt (w64 (G.root + 2))
end Gh
namespace Gh
open Pg
variable (G : Gh)
theorem bd_more (a n : Int) : Bd 1 (more a n) := by unfold more; repeat' first|exact bd_pure _|with_reducible refine bd_then (bd_gt0 _) ?_ (by decide)|with_reducible refine bd_then (bd_pt _ _) ?_ (by decide) | intro _
theorem bd_vertex (n : Int) : Bd 0 (G.vertex n) := by unfold vertex; repeat' first|exact bd_pure _|with_reducible refine bd_ite ?_ ?_|with_reducible refine bd_then (bd_gt0 _) ?_ (by decide) | intro _
theorem bd_edge (n : Int) : Bd 0 (G.edge n) := by unfold edge; repeat' first|exact bd_pure _|with_reducible refine bd_ite ?_ ?_|with_reducible refine bd_then (bd_gt0 _) ?_ (by decide) | intro _
theorem bd_link (l : GL) (n : Int) : Bd 4 (G.link l n) := by unfold link; repeat' first|exact bd_pure _|with_reducible refine bd_ite ?_ ?_|with_reducible refine bd_then (bd_gt0 _) ?_ (by decide)|with_reducible refine bd_then (bd_pt _ _) ?_ (by decide) | intro _
theorem bd_unlinkB (l : GL) (a b : Int) : Bd 1 (G.unlinkB l a b) := by unfold unlinkB; repeat' first|exact bd_pure _|with_reducible refine bd_ite ?_ ?_|with_reducible refine bd_then (bd_pt _ _) ?_ (by decide) | intro _
theorem bd_unlink (l : GL) (n : Int) : Bd 2 (G.unlink l n) := by
 unfold unlink
 have h := fun a b => G.bd_unlinkB l a b
 repeat' first|exact (h _ _).mono (by decide)|exact bd_pure _|with_reducible refine bd_ite ?_ ?_|with_reducible refine bd_then (bd_gt0 _) ?_ (by decide)|with_reducible refine bd_then (bd_pt _ _) ?_ (by decide) | intro _
theorem bd_after (m : Nat) (r : Int × Int) : Bd 0 (after m r) := by unfold after; repeat' first|exact bd_pure _|with_reducible refine bd_ite ?_ ?_|with_reducible refine bd_then (bd_bk0 _) ?_ (by decide) | intro _
theorem bd_afterE (m : Nat) (e : Int) : Bd 0 (afterE m e) := by unfold afterE; repeat' first|exact bd_pure _|with_reducible refine bd_ite ?_ ?_|with_reducible refine bd_then (bd_bk0 _) ?_ (by decide) | intro _
theorem bd_thr {β : Type} (l : GL) (f : β → Int → Pg (β × Bool)) (hf : ∀ a n, Bd 0 (f a n)) : ∀ (k : Nat) (n : Int) (acc : β), Bd 0 (G.thr l f k n acc)
 | 0, n, acc => by unfold thr; repeat' first|exact bd_pure _|with_reducible refine bd_ite ?_ ?_
 | k + 1, n, acc => by
   unfold thr
   refine bd_ite (bd_pure _) (bd_ite ?_ (bd_pure _))
   refine bd_seq (hf acc n) (j := 0) (fun r => bd_ite ?_ (bd_pure _)) (by decide)
   exact bd_seq (bd_gt0 _) (fun m => bd_thr l f hf k m r.1) (by decide)
theorem bd_through {β : Type} (l : GL) (f : β → Int → Pg (β × Bool)) (hf : ∀ a n, Bd 0 (f a n)) (acc : β) : Bd 0 (G.through l f acc) := bd_seq (bd_gt0 _) (fun n => G.bd_thr _ _ hf _ n _) (by decide)
theorem thr_go {β : Type} (l : GL) (f : β → Int → Pg (β × Bool)) (hf : ∀ a n s, (Pg.run (f a n) s).1.2 = true) : ∀ (k : Nat) (n : Int) (acc : β) (s : Sp), (Pg.run (G.thr l f k n acc) s).1.2.2 = false
 | 0, n, acc, s => by unfold thr; split <;> rfl
 | k + 1, n, acc, s => by
   unfold thr
   split
   · rfl
   split
   · rw [Pg.run_bind, if_pos (hf _ _ _), Pg.run_bind]
     exact thr_go l f hf k _ _ _
   · rfl
theorem through_go {β : Type} (l : GL) (f : β → Int → Pg (β × Bool)) (hf : ∀ a n s, (Pg.run (f a n) s).1.2 = true) (acc : β) (s : Sp) : (Pg.run (G.through l f acc) s).1.2.2 = false := by
 unfold through; rw [Pg.run_bind]; exact G.thr_go l f hf _ _ _ _
theorem bd_findF (b acc n : Int) : Bd 0 (findF b acc n) := by unfold findF; repeat' first|exact bd_pure _|with_reducible refine bd_then (bd_gt0 _) ?_ (by decide) | intro _
theorem bd_find (a b : Int) : Bd 0 (G.find a b) := bd_seq (j := 0) (G.bd_through _ _ (bd_findF b) _) (fun _ => bd_pure _) (by decide)
theorem bd_addIn (name : Int) : Bd 14 (G.addIn name) := by unfold addIn; repeat' first|with_reducible refine bd_then (bd_more _ _) ?_ (by decide)|with_reducible refine bd_then (bd_takeP _) ?_ (by decide)|with_reducible refine bd_then (bd_link _ _ _) ?_ (by decide)|exact bd_pure _|with_reducible refine bd_ite ?_ ?_|with_reducible refine bd_then (bd_pt _ _) ?_ (by decide) | intro _
theorem bd_add (name : Int) : Bd 14 (G.add name) := by unfold add; repeat' first|with_reducible refine bd_then (bd_addIn _ _) ?_ (by decide)|exact (bd_after _ _).mono (by decide)|with_reducible refine bd_then bd_mk0 ?_ (by decide) | intro _
theorem bd_linkIn (a b heavy : Int) : Bd 18 (G.linkIn a b heavy) := by unfold linkIn; repeat' first|with_reducible refine bd_then (bd_more _ _) ?_ (by decide)|with_reducible refine bd_then (bd_vertex _ _) ?_ (by decide)|with_reducible refine bd_then (bd_takeP _) ?_ (by decide)|with_reducible refine bd_then (bd_link _ _ _) ?_ (by decide)|with_reducible refine bd_then (bd_find _ _ _) ?_ (by decide)|exact bd_pure _|with_reducible refine bd_ite ?_ ?_|with_reducible refine bd_then (bd_pt _ _) ?_ (by decide) | intro _
theorem bd_lnk (a b heavy : Int) : Bd 18 (G.lnk a b heavy) := by unfold lnk; repeat' first|with_reducible refine bd_then (bd_linkIn _ _ _ _) ?_ (by decide)|exact (bd_after _ _).mono (by decide)|with_reducible refine bd_then bd_mk0 ?_ (by decide) | intro _
theorem bd_cutN (n : Int) : Bd 11 (G.cutN n) := by unfold cutN; repeat' first|exact (bd_giveP _ _).mono (by decide)|with_reducible refine bd_then (bd_more _ _) ?_ (by decide)|with_reducible refine bd_then (bd_unlink _ _ _) ?_ (by decide)|exact bd_pure _|with_reducible refine bd_ite ?_ ?_|with_reducible refine bd_then (bd_gt0 _) ?_ (by decide) | intro _
theorem bd_cut (n : Int) : Bd 11 (G.cut n) := by unfold cut; repeat' first|with_reducible refine bd_then (bd_edge _ _) ?_ (by decide)|with_reducible refine bd_then (bd_cutN _ _) ?_ (by decide)|exact (bd_afterE _ _).mono (by decide)|with_reducible refine bd_ite ?_ ?_|with_reducible refine bd_then bd_mk0 ?_ (by decide) | intro _
theorem bd_emptyK (l : GL) : ∀ k : Nat, Bd (11 * k) (G.emptyK l k)
 | 0 => by unfold emptyK; repeat' first|exact bd_pure _|with_reducible refine bd_ite ?_ ?_|with_reducible refine bd_then (bd_gt0 _) ?_ (by decide) | intro _
 | k + 1 => by
   unfold emptyK
   refine bd_seq (bd_gt0 _) (j := 11 * (k + 1)) (fun n => ?_) (by omega)
   refine bd_ite (bd_pure _) (bd_ite ?_ (bd_pure _))
   exact bd_seq (G.bd_cutN n) (fun e => bd_ite (bd_pure _) (bd_emptyK l k)) (by omega)
theorem bd_empty (hG : G.Ok) (l : GL) : Bd 1419 (G.empty l) := (G.bd_emptyK l _).mono (by have := hG.1.2.2.2.2.2.2; omega)
theorem bd_dropEnd (n v : Int) : Bd 7 (G.dropEnd n v) := by unfold dropEnd; repeat' first|with_reducible refine bd_then (bd_more _ _) ?_ (by decide)|with_reducible refine bd_then (bd_unlink _ _ _) ?_ (by decide)|with_reducible refine bd_then (bd_giveP _ _) ?_ (by decide)|exact bd_pure _|with_reducible refine bd_ite ?_ ?_ | intro _
theorem bd_dropIn (hG : G.Ok) (n : Int) : Bd 2845 (G.dropIn n) := by unfold dropIn; repeat' first|with_reducible refine bd_then (bd_empty _ hG _) ?_ (by decide)|exact (bd_dropEnd _ _ _).mono (by decide)|with_reducible refine bd_then (bd_vertex _ _) ?_ (by decide)|exact bd_pure _|with_reducible refine bd_ite ?_ ?_|with_reducible refine bd_then (bd_gt0 _) ?_ (by decide) | intro _
theorem bd_drop (hG : G.Ok) (n : Int) : Bd 2845 (G.drop n) := by unfold drop; repeat' first|with_reducible refine bd_then (bd_dropIn _ hG _) ?_ (by decide)|exact (bd_after _ _).mono (by decide)|with_reducible refine bd_then bd_mk0 ?_ (by decide) | intro _
theorem bd_weigh (a b : Int) : Bd 0 (G.weigh a b) := by unfold weigh; repeat' first|with_reducible refine bd_then (bd_vertex _ _) ?_ (by decide)|with_reducible refine bd_then (bd_find _ _ _) ?_ (by decide)|exact bd_pure _|with_reducible refine bd_ite ?_ ?_|with_reducible refine bd_then (bd_gt0 _) ?_ (by decide) | intro _
theorem bd_label (n : Int) : Bd 0 (G.label n) := by unfold label; repeat' first|with_reducible refine bd_then (bd_vertex _ _) ?_ (by decide)|exact bd_pure _|with_reducible refine bd_ite ?_ ?_|with_reducible refine bd_then (bd_gt0 _) ?_ (by decide) | intro _
theorem bd_endsF (whom : Int) (acc : List (Int × Int)) (n : Int) : Bd 0 (endsF whom acc n) := by unfold endsF; repeat' first|exact bd_pure _|with_reducible refine bd_then (bd_gt0 _) ?_ (by decide) | intro _
theorem bd_ends (n : Int) (l : GL) (whom : Int) : Bd 0 (G.ends n l whom) := by
 unfold ends
 refine bd_seq (G.bd_vertex n) (j := 0) (fun is => bd_ite ?_ (bd_pure _)) (by decide)
 exact bd_seq (j := 0) (G.bd_through _ _ (bd_endsF whom) _) (fun _ => bd_pure _) (by decide)
theorem bd_verts : Bd 0 G.verts := bd_seq (j := 0) (G.bd_through _ _ (fun _ _ => bd_pure _) _) (fun _ => bd_pure _) (by decide)
end Gh
end Sim
