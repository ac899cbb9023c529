import Derived.Test.YtgdhcgnmffgkiaaGreatDoorPart7
import Derived.Test.YtgdhcgnmffgkiaaGreatDoorPart3
import Derived.Test.YtgdhcgnmffgkiaaGreatDoorKit
/- Own work: lemmas of this claim. -/
namespace Sim
open Go Go.Vc
abbrev hwO (p : Nat) (H : He) (b : Bool) (T : TypeId) : Obj := .cells (List.toArray [.int .i64 H.pool.root, .int .i64 H.pool.frm, .int .i64 H.pool.nodes, .int .i64 H.root, .pointer (some ⟨p, 0, none⟩), .bool b]) T (0, 0)
end Sim
namespace Go.Vc
theorem Fn.perm {P : Program} {w0 : World} {sh : Shared} {f : FuncId} {args : List Value} {Γ Γ' : List Asn} {R : Value → List Asn → Prop} (h : Fn P w0 sh f args Γ R) (hp : Γ'.Perm Γ) : Fn P w0 sh f args Γ' R :=
 ⟨h.enters, fun hF w hsh hst => h.calls hF w hsh (hst.perm hp)⟩
end Go.Vc
namespace Go.Proofs.YtgdhcgnmffgkiaaGreatDoor
variable (w0 : World)
open Go.Vc Sim
set_option maxHeartbeats 4000000
abbrev hwA (wb p : Nat) (H : He) (b : Bool) : Asn := pt wb (hwO p H b 200)
abbrev FnW {α : Type} (w0 : World) (f : FuncId) (args : List Value) (p wb : Nat) (H : He) (b : Bool) (g : Pg (α × Bool)) (enc : α → Value) : Prop :=
 ∀ s, Pg.Fits g s → FnE PP w0 [] f args [SpaceA p s, hwA wb p H b] (enc (Pg.run g s).1.1) [SpaceA p (Pg.run g s).2, hwA wb p H (Pg.run g s).1.2]
section
variable {w0 : World} {n : Nat} {sh : Shared} {Q : Exit → Env → List Deferred → List Asn → Prop} {k : List Item} {ρ : Env} {df : List Deferred} {Γ Γr : List Asn}
variable {ops : Array Oper} {l : List (Fl × Nat × Oper)} {i : Nat} {ty : TypeId} {pos : String} {aft : Array Edge} {dst : Option Tmp}
variable {f : FuncId} {args : List Value} {fo : Operand} {cargs : Array Operand} {ats : Array TypeId} {first cap : Array Value}
theorem FnG.own {α : Type} {f : FuncId} {args : List Value} {p b : Nat} {o : Obj} {g : Pg α} {enc : α → Value} (h : FnG w0 [(b, o)] f args p g enc) (s : Sp) (hs : Pg.Fits g s) :
   FnE PP w0 [] f args [SpaceA p s, pt b o] (enc (Pg.run g s).1) [SpaceA p (Pg.run g s).2, pt b o] :=
 (Fn.perm (h s hs).owned (List.Perm.swap _ _ _)).mono fun v Γ' ⟨_, ⟨e1, e2⟩, e3⟩ => ⟨e1, by rw [e3, e2]; rfl⟩
theorem zdn (is : List Nat) {α β : Type} {R : β × Sp} {g : Pg α} {kk : α → Pg β} {s : Sp} {p b : Nat} {o : Obj} {enc : α → Value} (hG : At R (g >>= kk) s) (spec : FnG w0 [(b, o)] f args p g enc)
   (hfo : ev ρ fo = .func (.func f) first cap) (hargs : first.toList ++ cargs.toList.map (ev ρ) ++ cap.toList = args)
   (hp : pick is Γ = some ([SpaceA p s, pt b o], Γr)) (h : ∀ x s', At R (kk x) s' → Reg PP w0 n sh Q ops l k (ρ.setO dst (enc x)) df (SpaceA p s' :: pt b o :: Γr)) :
   Reg PP w0 n sh Q ops ((Fl.loud, i, ⟨dst, .call ⟨.value fo, cargs, ats⟩, ty, pos, aft, none⟩) :: l) k ρ df Γ :=
 zah is (FnG.own spec s hG.step.1) hfo hargs hp zdj rfl (h _ _ hG.step.2)
theorem zdo (is : List Nat) {α β : Type} {R : β × Sp} {g : Pg α} {kk : α → Pg β} {s : Sp} {p b : Nat} {o : Obj} {enc : α → Value} {φ : α → Prop} (hG : At R (g >>= kk) s) (hφ : Pg.All φ g) (spec : FnG w0 [(b, o)] f args p g enc)
   (hfo : ev ρ fo = .func (.func f) first cap) (hargs : first.toList ++ cargs.toList.map (ev ρ) ++ cap.toList = args)
   (hp : pick is Γ = some ([SpaceA p s, pt b o], Γr)) (h : ∀ x s', φ x → At R (kk x) s' → Reg PP w0 n sh Q ops l k (ρ.setO dst (enc x)) df (SpaceA p s' :: pt b o :: Γr)) :
   Reg PP w0 n sh Q ops ((Fl.loud, i, ⟨dst, .call ⟨.value fo, cargs, ats⟩, ty, pos, aft, none⟩) :: l) k ρ df Γ :=
 zah is (FnG.own spec s hG.step.1) hfo hargs hp zdj rfl (h _ _ (Pg.all_run hφ) hG.step.2)
theorem zdp (is : List Nat) {α β : Type} {R : β × Sp} {g : Pg (α × Bool)} {kk : α × Bool → Pg β} {s : Sp} {p wb : Nat} {H : He} {b : Bool} {enc : α → Value} (hG : At R (g >>= kk) s) (spec : FnW w0 f args p wb H b g enc)
   (hfo : ev ρ fo = .func (.func f) first cap) (hargs : first.toList ++ cargs.toList.map (ev ρ) ++ cap.toList = args)
   (hp : pick is Γ = some ([SpaceA p s, hwA wb p H b], Γr)) (h : ∀ x c s', At R (kk (x, c)) s' → Reg PP w0 n sh Q ops l k (ρ.setO dst (enc x)) df (SpaceA p s' :: hwA wb p H c :: Γr)) :
   Reg PP w0 n sh Q ops ((Fl.loud, i, ⟨dst, .call ⟨.value fo, cargs, ats⟩, ty, pos, aft, none⟩) :: l) k ρ df Γ :=
 zah is (spec s hG.step.1) hfo hargs hp zdj rfl (h _ _ _ hG.step.2)
end
theorem key_underlying : PP.underlying 264 = some (.array 2 2) := by rw [PP_def, Tryz.underlying264]
theorem key_guard : PP.eqGuardType PP.depth 264 = false := by rw [PP_def]; kernel_rfl
theorem i64_eqIn (d : Nat) (m n : Int) (w : World) : (Op.equalIn (d + 1) 2 (.int .i64 m) (.int .i64 n)).run PP w = .ok (decide (m = n)) w := by
 have h2 : PP.underlying 2 = some (.int .i64) := by rw [PP_def, Tryz.underlying2]
 simp [Op.equalIn, run_underlying h2]
 by_cases h : m = n <;> simp [h]
theorem run_equalK {P : Program} {t : TypeId} {u v : Value} {q : Bool} {w : World} (h : ∀ d, (Op.equalIn (d + 2) t u v).run P w = .ok q w) : (Op.equal t u v).run P w = .ok q w := h 9998
theorem key_equal (a b c d : Int) (w : World) : (Op.equal 264 (.agg #[.int .i64 a, .int .i64 b]) (.agg #[.int .i64 c, .int .i64 d])).run PP w = .ok (decide (a = c ∧ b = d)) w := by
 have a2 : ∀ w, (isAgg 2).run PP w = .ok false w := fun w => TShape.agg_run w
 have s2 : ∀ w, (sizeOf 2).run PP w = .ok 1 w := fun w => TShape.size_run w
 have p0 : ∀ (x y : Int) w, (part 2 #[Value.int .i64 x, .int .i64 y] 0).run PP w = .ok (.int .i64 x) w := fun x y w => by simp [part, a2]
 have p1 : ∀ (x y : Int) w, (part 2 #[Value.int .i64 x, .int .i64 y] 1).run PP w = .ok (.int .i64 y) w := fun x y w => by simp [part, a2]
 refine run_equalK (fun e => ?_)
 rw [Op.equalIn]
 simp only [Sem.run_bind, run_underlying key_underlying, Result.andThen_ok, s2]
 by_cases h1 : a = c <;> by_cases h2 : b = d <;> simp [Std.Legacy.Range.forIn_eq_forIn_range', Std.Legacy.Range.size, List.range', p0, p1, i64_eqIn, h1, h2]
section
variable {w0 : World} {n : Nat} {sh : Shared} {Q : Exit → Env → List Deferred → List Asn → Prop} {k : List Item} {ρ : Env} {df : List Deferred} {Γ : List Asn}
variable {ops : Array Oper} {l : List (Fl × Nat × Oper)} {bf : Fl} {i d : Nat} {ty : TypeId} {pos : String} {aft : Array Edge} {x y : Operand} {yt : TypeId}
theorem reg_ne_key {a b a' b' : Int} (q : Bool) (hx : ev ρ x = .agg #[.int .i64 a, .int .i64 b]) (hy : ev ρ y = .agg #[.int .i64 a', .int .i64 b']) (he : (!decide (a = a' ∧ b = b')) = q)
   (h : Reg PP w0 n sh Q ops l k (ρ.set d (.bool q)) df Γ) : Reg PP w0 n sh Q ops ((bf, i, ⟨some d, .binOp .neq 264 x y yt, ty, pos, aft, none⟩) :: l) k ρ df Γ :=
 reg_quiet rfl (fun hF _ => quiet_of_run fun w => by
   have hs : (program).run PP w = .ok PP w := rfl
   have hg : (eqGuard .neq 264 x y (.agg #[.int .i64 a, .int .i64 b]) (.agg #[.int .i64 a', .int .i64 b'])).run PP w = .ok () w := by
     simp [eqGuard, hs, key_guard]
   have hb : (binOp .neq 264 (.agg #[.int .i64 a, .int .i64 b]) (.agg #[.int .i64 a', .int .i64 b'])).run PP w = .ok (.bool q) w := by
     show (do let r ← Op.equal _ _ _; pure (Value.bool (!r)) : Sem Value).run PP w = _
     simp [key_equal, ← he]
   simp only [execOp, hx, hy, Sem.run_bind, hg, hb, Result.andThen_ok, Sem.run_pure]) h
end
theorem heAhead (a b : Int × Int) : FnE PP w0 [] 275 [.agg (List.toArray [.int .i64 a.1, .int .i64 a.2]), .agg (List.toArray [.int .i64 b.1, .int .i64 b.2])] [] (.bool (ahdB a b)) [] := by
 obtain ⟨x, y⟩ := a
 obtain ⟨u, v⟩ := b
 refine zep en275 fn275 rfl rfl rfl ?_
 refine zyr ?_
 repeat' first|(refine zap rfl ?_;refine zaq (cs := [_, _]) rfl (fun nb => ?_))|refine zp ?_|refine zyn ?_
 refine zeb [0] rfl ?_
 refine zeb [0] rfl ?_
 by_cases h0 : x = u
 · by_cases h1 : y = v
   · have hb : ahdB (x, y) (u, v) = false := decide_eq_false (by dsimp only; omega)
     rw [hb]
     repeat' first|refine zyq ?_|(refine zap rfl ?_;first|refine reg_ne_key false rfl rfl (by rw [decide_eq_true (And.intro h0 h1)]; rfl) ?_|refine zak rfl ?_|refine zal rfl ?_|refine zbv rfl ?_)|refine zp ?_|refine zyl 0 rfl ?_|refine zyl 1 rfl ?_|refine zch ?_
     exact zej rfl ⟨rfl, rfl⟩
   · by_cases h2 : y < v
     · have hb : ahdB (x, y) (u, v) = true := decide_eq_true (by dsimp only; omega)
       rw [hb]
       repeat' first|refine zyq ?_|(refine zap rfl ?_;first|refine reg_ne_key true rfl rfl (by rw [decide_eq_false (fun q => h1 q.2)]; rfl) ?_|refine zaj rfl ?_|refine zbc rfl rfl (by omega) ?_|refine zbg rfl rfl (by omega) ?_|refine zbh rfl rfl (by omega) ?_|refine zbu rfl ?_|refine zbv rfl ?_|refine zat rfl rfl (by omega) ?_)|refine zp ?_|refine zyl 0 rfl ?_|refine zyl 1 rfl ?_|refine zch ?_
       exact zej rfl ⟨rfl, rfl⟩
     · have hb : ahdB (x, y) (u, v) = false := decide_eq_false (by dsimp only; omega)
       rw [hb]
       repeat' first|refine zyq ?_|(refine zap rfl ?_;first|refine reg_ne_key true rfl rfl (by rw [decide_eq_false (fun q => h1 q.2)]; rfl) ?_|refine zaj rfl ?_|refine zbc rfl rfl (by omega) ?_|refine zbh rfl rfl (by omega) ?_|refine zbu rfl ?_|refine zbv rfl ?_|refine zat rfl rfl (by omega) ?_)|refine zp ?_|refine zyl 0 rfl ?_|refine zyl 1 rfl ?_|refine zch ?_
       exact zej rfl ⟨rfl, rfl⟩
 · by_cases h2 : x < u
   · have hb : ahdB (x, y) (u, v) = true := decide_eq_true (by dsimp only; omega)
     rw [hb]
     repeat' first|refine zyq ?_|(refine zap rfl ?_;first|refine reg_ne_key true rfl rfl (by rw [decide_eq_false (fun q => h0 q.1)]; rfl) ?_|refine zaj rfl ?_|refine zak rfl ?_|refine zal rfl ?_|refine zbg rfl rfl (by omega) ?_|refine zbu rfl ?_|refine zat rfl rfl (by omega) ?_)|refine zp ?_|refine zyl 0 rfl ?_|refine zyl 1 rfl ?_|refine zch ?_
     exact zej rfl ⟨rfl, rfl⟩
   · have hb : ahdB (x, y) (u, v) = false := decide_eq_false (by dsimp only; omega)
     rw [hb]
     repeat' first|refine zyq ?_|(refine zap rfl ?_;first|refine reg_ne_key true rfl rfl (by rw [decide_eq_false (fun q => h0 q.1)]; rfl) ?_|refine zaj rfl ?_|refine zak rfl ?_|refine zbd rfl rfl (by omega) ?_|refine zbh rfl rfl (by omega) ?_|refine zbu rfl ?_|refine zbv rfl ?_|refine zat rfl rfl (by omega) ?_)|refine zp ?_|refine zyl 0 rfl ?_|refine zyl 1 rfl ?_|refine zch ?_
     exact zej rfl ⟨rfl, rfl⟩
theorem heGet (p wb : Nat) (H : He) (b : Bool) (a c : Int) : FnG w0 [(wb, hwO p H b 200)] 158 [.pointer (some ⟨wb, 0, none⟩), .int .i64 a, .int .i64 c] p (He.get a c) (.int .i64) := by
 by_cases ha : a = 0
 · intro s hS; have hG := At.start hS; generalize Pg.run _ s = R at hG ⊢
   unfold He.get at hG
   rw [if_pos ha] at hG
   refine zep en158 fn158 rfl rfl rfl ?_
   repeat' first|refine zck ?_|refine zyq ?_|(refine zap rfl ?_;refine zbc rfl rfl (by omega) ?_)|refine zp ?_|refine zch ?_|refine zci rfl ?_
   rw [hG.done]
   exact zej rfl ⟨rfl, rfl⟩
 · intro s hS
   have hG := (At.start hS).to (Pg.bind_pure _).symm
   generalize Pg.run _ s = R at hG ⊢
   unfold He.get at hG
   rw [if_neg ha] at hG
   refine zep en158 fn158 rfl rfl rfl ?_
   repeat' first|refine zck ?_|refine zcm ?_|refine zyq ?_|(refine zap rfl ?_;first|refine zdu rfl rfl ?_|refine zdk [0] hG (getG w0 p _) rfl rfl rfl zdj (fun x s hG => ?_)|refine zbd rfl rfl (by omega) ?_)|refine zp ?_|refine zyl 0 rfl ?_|refine zyf rfl ?_|refine zch ?_|refine zcj rfl ?_
   rw [hG.done]
   exact zej rfl ⟨rfl, rfl⟩
theorem hePut (p wb : Nat) (H : He) (b : Bool) (a c v : Int) : FnG w0 [(wb, hwO p H b 200)] 153 [.pointer (some ⟨wb, 0, none⟩), .int .i64 a, .int .i64 c, .int .i64 v] p (He.put a c v) encU := by
 by_cases ha : a = 0
 · intro s hS; have hG := At.start hS; generalize Pg.run _ s = R at hG ⊢
   unfold He.put at hG
   rw [if_pos ha] at hG
   refine zep en153 fn153 rfl rfl rfl ?_
   repeat' first|refine zck ?_|refine zcm ?_|refine zyq ?_|(refine zap rfl ?_;refine zbf rfl rfl (by omega) ?_)|refine zp ?_|refine zch ?_|refine zcj rfl ?_
   rw [hG.done]
   exact end_tmp0 rfl ⟨rfl, rfl⟩
 · intro s hS; have hG := At.start hS; generalize Pg.run _ s = R at hG ⊢
   unfold He.put at hG
   rw [if_neg ha] at hG
   refine zep en153 fn153 rfl rfl rfl ?_
   repeat' first|refine zck ?_|refine zyq ?_|(refine zap rfl ?_;first|refine zdu rfl rfl ?_|refine zdk [0] hG (putG w0 p _ _) rfl rfl rfl zdj (fun u s hG => ?_)|refine zbe rfl rfl (by omega) ?_)|refine zp ?_|refine zyl 0 rfl ?_|refine zyf rfl ?_|refine zch ?_|refine zci rfl ?_
   rw [hG.done]
   exact end_tmp0 rfl ⟨rfl, rfl⟩
theorem heRoot (p wb : Nat) (H : He) (b : Bool) (c : Int) : FnG w0 [(wb, hwO p H b 200)] 151 [.pointer (some ⟨wb, 0, none⟩), .int .i64 c] p (H.rt c) (.int .i64) := by
 intro s hS
 have hG := (At.start hS).to (Pg.bind_pure _).symm
 generalize Pg.run _ s = R at hG ⊢
 unfold He.rt at hG
 refine zep en151 fn151 rfl rfl rfl ?_
 repeat' first|refine zck ?_|refine zyq ?_|(refine zap rfl ?_;first|refine zdu rfl rfl ?_|refine zdk [0] hG (getG w0 p _) rfl rfl rfl zdj (fun x s hG => ?_))|refine zp ?_|refine zyl 0 rfl ?_|refine zyf rfl ?_|refine zch ?_
 rw [hG.done]
 exact zej rfl ⟨rfl, rfl⟩
theorem heAdd (p wb : Nat) (H : He) (b : Bool) (c n : Int) : FnG w0 [(wb, hwO p H b 200)] 154 [.pointer (some ⟨wb, 0, none⟩), .int .i64 c, .int .i64 n] p (H.add c n) encU := by
 intro s hS; have hG := At.start hS; generalize Pg.run _ s = R at hG ⊢
 unfold He.add at hG
 refine zep en154 fn154 rfl rfl rfl ?_
 repeat' first|refine zyq ?_|(refine zap rfl ?_;first|refine zdu rfl rfl ?_|refine zdk [0] hG (heRoot w0 p wb H b c) rfl rfl rfl (fun _ h => h) (fun x s hG => ?_)|refine zdk [0] hG (putG w0 p _ _) rfl rfl rfl zdj (fun u s hG => ?_))|refine zp ?_|refine zyl 0 rfl ?_|refine zyf rfl ?_|refine zch ?_
 rw [hG.done]
 exact end_tmp0 rfl ⟨rfl, rfl⟩
theorem heKey (p wb : Nat) (H : He) (b : Bool) (a : Int) : FnG w0 [(wb, hwO p H b 200)] 274 [.pointer (some ⟨wb, 0, none⟩), .int .i64 a] p (He.key a) (fun k => .agg (List.toArray [.int .i64 k.1, .int .i64 k.2])) := by
 intro s hS; have hG := At.start hS; generalize Pg.run _ s = R at hG ⊢
 unfold He.key at hG
 refine zep en274 fn274 rfl rfl rfl ?_
 repeat' first|refine zck ?_|refine zyq ?_|(refine zap rfl ?_;first|refine zdk [0] hG (heGet w0 p wb H b a _) rfl rfl rfl (fun _ h => h) (fun x s hG => ?_)|refine zae 1 rfl rfl rfl rfl rfl rfl rfl ?_|refine zar (fun nb => ?_)|refine zex rfl ?_)|refine zp ?_|refine zch ?_
 rw [hG.done]
 exact zeg (zek (zel [0] rfl (zem rfl (zeo 1 rfl rfl rfl) ⟨rfl, rfl, rfl⟩)))
theorem heTake (p wb : Nat) (H : He) (hH : H.Ok) (b : Bool) : FnG w0 [(wb, hwO p H b 200)] 152 [.pointer (some ⟨wb, 0, none⟩)] p H.take encI2 := by
 intro s hS; have hG := At.start hS; generalize Pg.run _ s = R at hG ⊢
 unfold He.take at hG
 refine zep en152 fn152 rfl rfl rfl ?_
 refine zyr ?_
 repeat' refine zp ?_
 all_goals refine zyn ?_
 refine zyr ?_
 repeat' first|(refine zap rfl ?_;refine zdk [0] hG (takeG w0 p H.pool hH.1) rfl rfl rfl zdj (fun t s hG => ?_))|refine zp ?_|refine zyl 0 rfl ?_|refine zyf rfl ?_|refine zyn ?_
 obtain ⟨a, e⟩ := t
 dsimp only at hG
 refine zyr ?_
 repeat' first|(refine zap rfl ?_;refine zbo rfl rfl ?_)|refine zp ?_|refine zyn ?_
 refine zed rfl (fun hE => ?_) (fun hE => ?_)
 · rw [if_pos hE] at hG
   repeat' first|refine zck ?_|refine zyq ?_|(refine zap rfl ?_;refine zdk [0] hG (heAdd w0 p wb H b _ _) rfl rfl rfl (fun _ h => h) (fun u s hG => ?_))|refine zp ?_|refine zch ?_
   rw [hG.done]
   exact zei rfl ⟨rfl, rfl⟩
 · rw [if_neg hE] at hG
   repeat' first|refine zck ?_|refine zcm ?_|refine zyq ?_|refine zp ?_|refine zch ?_
   rw [hG.done]
   exact zei rfl ⟨rfl, rfl⟩
theorem heGive (p wb : Nat) (H : He) (hH : H.Ok) (b : Bool) (a : Int) : FnG w0 [(wb, hwO p H b 200)] 279 [.pointer (some ⟨wb, 0, none⟩), .int .i64 a] p (H.give a) (.int .i64) := by
 intro s hS; have hG := At.start hS; generalize Pg.run _ s = R at hG ⊢
 unfold He.give at hG
 refine zep en279 fn279 rfl rfl rfl ?_
 refine zyr ?_
 repeat' refine zp ?_
 all_goals refine zyn ?_
 refine zyr ?_
 repeat' first|(refine zap rfl ?_;refine zdk [0] hG (giveG w0 p H.pool hH.1 a) rfl rfl rfl zdj (fun e s hG => ?_))|refine zp ?_|refine zyl 0 rfl ?_|refine zyf rfl ?_|refine zyn ?_
 refine zyr ?_
 repeat' first|(refine zap rfl ?_;refine zbo rfl rfl ?_)|refine zp ?_|refine zyn ?_
 refine zed rfl (fun hE => ?_) (fun hE => ?_)
 · rw [if_pos hE] at hG
   repeat' first|refine zck ?_|refine zyq ?_|(refine zap rfl ?_;refine zdk [0] hG (heAdd w0 p wb H b _ _) rfl rfl rfl (fun _ h => h) (fun u s hG => ?_))|refine zp ?_|refine zch ?_
   rw [hG.done]
   exact zej rfl ⟨rfl, rfl⟩
 · rw [if_neg hE] at hG
   repeat' first|refine zck ?_|refine zcm ?_|refine zyq ?_|refine zp ?_|refine zch ?_
   rw [hG.done]
   exact zej rfl ⟨rfl, rfl⟩
theorem heMany (p wb : Nat) (H : He) (b : Bool) : FnG w0 [(wb, hwO p H b 200)] 150 [.pointer (some ⟨wb, 0, none⟩)] p H.many (fun r => .tuple #[.int .i64 r.1, .bool r.2]) := by
 intro s hS; have hG := At.start hS; generalize Pg.run _ s = R at hG ⊢
 unfold He.many at hG
 refine zep en150 fn150 rfl rfl rfl ?_
 refine zyr ?_
 repeat' refine zp ?_
 all_goals refine zyn ?_
 refine zyr ?_
 repeat' first|(refine zap rfl ?_;refine zdk [0] hG (heRoot w0 p wb H b 0) rfl rfl rfl (fun _ h => h) (fun x s hG => ?_))|refine zp ?_|refine zyn ?_
 rw [hG.done]
 by_cases h0 : 0 ≤ x
 · by_cases h1 : x ≤ 32
   · repeat' first|refine zyq ?_|(refine zap rfl ?_;first|refine zaj rfl ?_|refine zbi rfl rfl (by omega) ?_|refine zbm rfl rfl (by omega) ?_|refine zbu rfl ?_)|refine zp ?_|refine zch ?_
     exact zei rfl ⟨by rw [decide_eq_true (And.intro h0 h1)]; rfl, rfl⟩
   · repeat' first|refine zyq ?_|(refine zap rfl ?_;first|refine zaj rfl ?_|refine zbj rfl rfl (by omega) ?_|refine zbm rfl rfl (by omega) ?_|refine zbu rfl ?_)|refine zp ?_|refine zch ?_
     exact zei rfl ⟨by rw [decide_eq_false (fun q : 0 ≤ x ∧ x ≤ 32 => h1 q.2)]; rfl, rfl⟩
 · repeat' first|refine zyq ?_|(refine zap rfl ?_;first|refine zak rfl ?_|refine zbn rfl rfl (by omega) ?_|refine zbv rfl ?_)|refine zp ?_|refine zch ?_
   exact zei rfl ⟨by rw [decide_eq_false (fun q : 0 ≤ x ∧ x ≤ 32 => h0 q.1)]; rfl, rfl⟩
end Go.Proofs.YtgdhcgnmffgkiaaGreatDoor
namespace Sim
open Go Go.Vc
abbrev wkO (p : Nat) (T : Te) (w : Wk) (t : TypeId) : Obj := .cells (List.toArray [.int .i64 T.pool.root, .int .i64 T.pool.frm, .int .i64 T.pool.nodes, .int .i64 T.root, .pointer (some ⟨p, 0, none⟩), .bool w.1, .int .i64 w.2]) t (0, 0)
end Sim
namespace Go.Proofs.YtgdhcgnmffgkiaaGreatDoor
variable (w0 : World)
open Go.Vc Sim
set_option maxHeartbeats 4000000
abbrev wkA (wb p : Nat) (T : Te) (w : Wk) : Asn := pt wb (wkO p T w 182)
abbrev ptrT (b : Nat) : Value := .pointer (some ⟨b, 0, none⟩)
abbrev teV (T : Te) : Value := .agg (List.toArray [.int .i64 T.pool.root, .int .i64 T.pool.frm, .int .i64 T.pool.nodes, .int .i64 T.root])
abbrev FnK {α : Type} (w0 : World) (f : FuncId) (args : List Value) (p wb : Nat) (T : Te) (w : Wk) (g : Pg (α × Wk)) (enc : α → Value) : Prop :=
 ∀ s, Pg.Fits g s → FnE PP w0 [] f args [SpaceA p s, wkA wb p T w] (enc (Pg.run g s).1.1) [SpaceA p (Pg.run g s).2, wkA wb p T (Pg.run g s).1.2]
section
variable {w0 : World} {n : Nat} {sh : Shared} {Q : Exit → Env → List Deferred → List Asn → Prop} {k : List Item} {ρ : Env} {df : List Deferred} {Γ Γr : List Asn}
variable {ops : Array Oper} {l : List (Fl × Nat × Oper)} {i : Nat} {ty : TypeId} {pos : String} {aft : Array Edge} {dst : Option Tmp}
variable {f : FuncId} {args : List Value} {fo : Operand} {cargs : Array Operand} {ats : Array TypeId} {first cap : Array Value}
theorem zdq (is : List Nat) {α β : Type} {R : β × Sp} {g : Pg (α × Wk)} {kk : α × Wk → Pg β} {s : Sp} {p wb : Nat} {T : Te} {w : Wk} {enc : α → Value} (hG : At R (g >>= kk) s) (spec : FnK w0 f args p wb T w g enc)
   (hfo : ev ρ fo = .func (.func f) first cap) (hargs : first.toList ++ cargs.toList.map (ev ρ) ++ cap.toList = args)
   (hp : pick is Γ = some ([SpaceA p s, wkA wb p T w], Γr)) (h : ∀ x c s', At R (kk (x, c)) s' → Reg PP w0 n sh Q ops l k (ρ.setO dst (enc x)) df (SpaceA p s' :: wkA wb p T c :: Γr)) :
   Reg PP w0 n sh Q ops ((Fl.loud, i, ⟨dst, .call ⟨.value fo, cargs, ats⟩, ty, pos, aft, none⟩) :: l) k ρ df Γ :=
 zah is (spec s hG.step.1) hfo hargs hp zdj rfl (h _ _ _ hG.step.2)
end
theorem teGet (p wb : Nat) (T : Te) (w : Wk) (a c : Int) : FnG w0 [(wb, wkO p T w 182)] 134 [ptrT wb, .int .i64 a, .int .i64 c] p (Pg.gt (w64 (a + c))) (.int .i64) := by
 intro s hS
 have hG := (At.start hS).to (Pg.bind_pure _).symm
 generalize Pg.run _ s = R at hG ⊢
 refine zep en134 fn134 rfl rfl rfl ?_
 repeat' first|refine zck ?_|refine zyq ?_|(refine zap rfl ?_;first|refine zdu rfl rfl ?_|refine zdk [0] hG (getG w0 p _) rfl rfl rfl zdj (fun x s hG => ?_))|refine zp ?_|refine zyl 0 rfl ?_|refine zyf rfl ?_|refine zch ?_
 rw [hG.done]
 exact zej rfl ⟨rfl, rfl⟩
theorem tePut (p wb : Nat) (T : Te) (w : Wk) (a c v : Int) : FnG w0 [(wb, wkO p T w 182)] 135 [ptrT wb, .int .i64 a, .int .i64 c, .int .i64 v] p (Pg.pt (w64 (a + c)) v) encU := by
 intro s hS
 have hG := (At.start hS).to (Pg.bind_pure _).symm
 generalize Pg.run _ s = R at hG ⊢
 refine zep en135 fn135 rfl rfl rfl ?_
 repeat' first|refine zyq ?_|(refine zap rfl ?_;first|refine zdu rfl rfl ?_|refine zdk [0] hG (putG w0 p _ _) rfl rfl rfl zdj (fun u s hG => ?_))|refine zp ?_|refine zyl 0 rfl ?_|refine zyf rfl ?_|refine zch ?_
 rw [hG.done]
 exact end_tmp0 rfl ⟨rfl, rfl⟩
theorem teKid (k key : Int) : FnE PP w0 [] 271 [.int .i64 k, .int .i64 key] [] (.int .i64 (Te.kid k key)) [] := by
 refine zep en271 fn271 rfl rfl rfl ?_
 refine zyr ?_
 repeat' refine zp ?_
 all_goals refine zyn ?_
 refine zyr ?_
 repeat' first|(refine zap rfl ?_;refine zbq rfl rfl ?_)|refine zp ?_|refine zyn ?_
 refine zed rfl (fun h => ?_) (fun h => ?_)
 · rw [Te.kid, if_pos h]
   repeat' first|refine zck ?_|refine zyq ?_|refine zp ?_|refine zch ?_
   exact zej rfl ⟨rfl, rfl⟩
 · rw [Te.kid, if_neg h]
   repeat' first|refine zck ?_|refine zcm ?_|refine zyq ?_|refine zp ?_|refine zch ?_
   exact zej rfl ⟨rfl, rfl⟩
theorem teRank (k : Int) : FnE PP w0 [] 137 [.int .i64 k] [] (.int .u64 (rankT k)) [] := by
 refine zep en137 fn137 rfl rfl rfl ?_
 repeat' first|refine zck ?_|refine zyq ?_|(refine zap rfl ?_;first|refine reg_shr (q := 33) rfl rfl (by decide) ?_|refine reg_xor rfl rfl ?_|refine reg_mul (t := 163) rfl rfl ?_|refine zca rfl ?_)|refine zp ?_|refine zch ?_
 exact zej rfl ⟨rfl, rfl⟩
theorem teIs (p wb : Nat) (T : Te) (hT : T.Ok) (w : Wk) (a : Int) : FnE PP w0 [] 146 [ptrT wb, .int .i64 a] [wkA wb p T w] (.bool (T.is a w).1) [wkA wb p T (T.is a w).2] := by
 obtain ⟨b, l⟩ := w
 by_cases h : a = 0 ∨ b = true
 · have e : T.is a (b, l) = (false, (b, l)) := by rw [Te.is, if_pos h]
   rw [e]
   by_cases ha : a = 0
   · refine zep en146 fn146 rfl rfl rfl ?_
     repeat' first|refine zck ?_|refine zyq ?_|(refine zap rfl ?_;first|refine zak rfl ?_|refine zbc rfl rfl (by omega) ?_|refine zbu rfl ?_)|refine zp ?_|refine zch ?_|refine zci rfl ?_
     exact zej rfl ⟨rfl, rfl⟩
   · have hb : b = true := h.resolve_left ha
     subst hb
     refine zep en146 fn146 rfl rfl rfl ?_
     repeat' first|refine zck ?_|refine zyq ?_|(refine zap rfl ?_;first|refine zaj rfl ?_|refine zab 0 rfl rfl rfl ?_|refine zbd rfl rfl (by omega) ?_|refine zbv rfl ?_)|refine zp ?_|refine zyf rfl ?_|refine zch ?_|refine zci rfl ?_
     exact zej rfl ⟨rfl, rfl⟩
 · have ha : a ≠ 0 := fun q => h (.inl q)
   have hb : b = false := by cases b with
     | false => rfl
     | true => exact absurd (.inr rfl) h
   subst hb
   have kn := node_spec w0 T.pool hT.1 a
   have e : T.is a (false, l) = (!(if T.pool.node a = true then decide (w64 (l - 1) < 0) else true), (if T.pool.node a = true then decide (w64 (l - 1) < 0) else true), w64 (l - 1)) := by rw [Te.is, if_neg h]
   rw [e]
   cases hN : T.pool.node a with
   | false =>
     rw [hN] at kn
     refine zep en146 fn146 rfl rfl rfl ?_
     repeat' first|refine zck ?_|refine zcm ?_|refine zyq ?_|(refine zap rfl ?_;first|refine zbx rfl ?_|refine zev rfl rfl ?_|refine zaj rfl ?_|refine zak rfl ?_|refine zab 0 rfl rfl rfl ?_|refine zah [] kn rfl rfl rfl zdj rfl ?_|refine zbd rfl rfl (by omega) ?_|refine zbu rfl ?_|refine zbv rfl ?_|refine zae 0 rfl rfl rfl rfl rfl rfl rfl ?_)|refine zp ?_|refine zyf rfl ?_|refine zch ?_|refine zcj rfl ?_
     exact zej rfl ⟨rfl, rfl⟩
   | true =>
     rw [hN] at kn
     rw [if_pos rfl]
     by_cases hl : w64 (l - 1) < 0
     · rw [decide_eq_true hl]
       refine zep en146 fn146 rfl rfl rfl ?_
       repeat' first|refine zck ?_|refine zcm ?_|refine zyq ?_|(refine zap rfl ?_;first|refine zbg rfl rfl hl ?_|refine zbx rfl ?_|refine zev rfl rfl ?_|refine zaj rfl ?_|refine zab 0 rfl rfl rfl ?_|refine zah [] kn rfl rfl rfl zdj rfl ?_|refine zbd rfl rfl (by omega) ?_|refine zbv rfl ?_|refine zae 0 rfl rfl rfl rfl rfl rfl rfl ?_)|refine zp ?_|refine zyf rfl ?_|refine zch ?_|refine zcj rfl ?_
       exact zej rfl ⟨rfl, rfl⟩
     · rw [decide_eq_false hl]
       refine zep en146 fn146 rfl rfl rfl ?_
       repeat' first|refine zck ?_|refine zcm ?_|refine zyq ?_|(refine zap rfl ?_;first|refine zbh rfl rfl (Int.not_lt.1 hl) ?_|refine zbx rfl ?_|refine zev rfl rfl ?_|refine zaj rfl ?_|refine zab 0 rfl rfl rfl ?_|refine zah [] kn rfl rfl rfl zdj rfl ?_|refine zbd rfl rfl (by omega) ?_|refine zbv rfl ?_|refine zae 0 rfl rfl rfl rfl rfl rfl rfl ?_)|refine zp ?_|refine zyf rfl ?_|refine zch ?_|refine zcj rfl ?_
       exact zej rfl ⟨rfl, rfl⟩
theorem teStart (p : Nat) (T : Te) : Vc.Fn PP w0 [] 132 [teV T, spP p] [] (fun v Γ => ∃ wb, v = ptrT wb ∧ Γ = [wkA wb p T T.start]) := by
 refine zep en132 fn132 rfl rfl rfl ?_
 refine zyr ?_
 repeat' first|(refine zap rfl ?_;refine zaq (cs := [_, _, _, _]) rfl (fun nb => ?_))|refine zp ?_|refine zyn ?_
 refine zeb [0] rfl ?_
 repeat' first|refine zyq ?_|(refine zap rfl ?_;first|refine zdu rfl rfl ?_|refine reg_mul rfl rfl ?_|refine zaq (cs := [_, _, _, _, _, _, _]) rfl (fun nb => ?_)|refine zcb rfl ?_)|refine zp ?_|refine zyl 0 rfl ?_|refine zyf rfl ?_|refine zch ?_
 exact zej rfl ⟨_, rfl, rfl⟩
theorem teOf (p wb : Nat) (T : Te) (hT : T.Ok) (w : Wk) (a c : Int) : FnK w0 147 [ptrT wb, .int .i64 a, .int .i64 c] p wb T w (T.ofW a c w) (.int .i64) := by
 have ki := teIs w0 p wb T hT w a
 intro s hS; have hG := At.start hS; generalize Pg.run _ s = R at hG ⊢
 unfold Te.ofW at hG
 cases hI : (T.is a w).1 with
 | false =>
   rw [hI, if_neg (by decide)] at hG
   rw [hI] at ki
   rw [hG.done]
   refine zep en147 fn147 rfl rfl rfl ?_
   repeat' first|refine zck ?_|refine zyq ?_|(refine zap rfl ?_;first|refine zbx rfl ?_|refine zah [1] ki rfl rfl rfl zdj rfl ?_)|refine zp ?_|refine zch ?_|refine zci rfl ?_
   refine zec [1, 0] rfl ?_
   exact zej rfl ⟨rfl, rfl⟩
 | true =>
   rw [hI, if_pos rfl] at hG
   rw [hI] at ki
   refine zep en147 fn147 rfl rfl rfl ?_
   repeat' first|refine zck ?_|refine zcm ?_|refine zyq ?_|(refine zap rfl ?_;first|refine zbx rfl ?_|refine zah [1] ki rfl rfl rfl zdj rfl ?_|refine zdn [1, 0] hG (teGet w0 p wb T _ a c) rfl rfl rfl (fun v s hG => ?_))|refine zp ?_|refine zch ?_|refine zcj rfl ?_
   rw [hG.done]
   exact zej rfl ⟨rfl, rfl⟩
theorem teRefresh (p wb : Nat) (T : Te) (hT : T.Ok) (w : Wk) (a : Int) : FnK w0 139 [ptrT wb, .int .i64 a] p wb T w (T.refresh a w) encU := by
 intro s hS; have hG := At.start hS; generalize Pg.run _ s = R at hG ⊢
 unfold Te.refresh at hG
 refine zep en139 fn139 rfl rfl rfl ?_
 refine zyr ?_
 repeat' first|(refine zap rfl ?_;first|refine zdn [0, 0] hG (teGet w0 p wb T w a 2) rfl rfl rfl (fun l s hG => ?_)|refine zdn [0, 0] hG (teGet w0 p wb T w a 3) rfl rfl rfl (fun r s hG => ?_))|refine zp ?_|refine zyn ?_
 refine zyr ?_
 repeat' first|(refine zap rfl ?_;first|refine zdu rfl rfl ?_|refine zdq [0, 0] hG (teOf w0 p wb T hT w l 4) rfl rfl rfl (fun x w1 s hG => ?_)|refine zdq [0, 0] hG (teOf w0 p wb T hT w1 r 4) rfl rfl rfl (fun y w2 s hG => ?_)|refine zdn [0, 0] hG (tePut w0 p wb T w2 a 4 _) rfl rfl rfl (fun _ s hG => ?_))|refine zp ?_|refine zyn ?_
 repeat' first|refine zyq ?_|(refine zap rfl ?_;first|refine zdu rfl rfl ?_|refine zdn [0, 0] hG (teGet w0 p wb T w2 a 1) rfl rfl rfl (fun v s hG => ?_)|refine zdq [0, 0] hG (teOf w0 p wb T hT w2 l 5) rfl rfl rfl (fun x w3 s hG => ?_)|refine zdq [0, 0] hG (teOf w0 p wb T hT w3 r 5) rfl rfl rfl (fun y w4 s hG => ?_)|refine zdn [0, 0] hG (tePut w0 p wb T w4 a 5 _) rfl rfl rfl (fun _ s hG => ?_))|refine zp ?_|refine zch ?_
 rw [hG.done]
 exact end_tmp0 rfl ⟨rfl, rfl⟩
theorem teUndo (p : Nat) (s : Sp) (m : Nat) (eb : Nat) (e : Int) : FnD PP w0 [] 131 [spP p, .int .i64 m, ptrT eb] [SpaceA p s, erV eb e]
    fun v Γ' => v = .tuple #[] ∧ Γ' = [SpaceA p (if e ≠ 0 then s.back m else s), erV eb e] := by
  refine fnD_of_run en131 fn131 rfl rfl rfl ?_
 
  repeat' first|refine zck ?_|refine zyq ?_|(refine zap rfl ?_;first|refine zab 1 rfl rfl rfl ?_|refine zbp rfl rfl ?_)|refine zp ?_|refine zch ?_
  refine zed rfl (fun hE => ?_) (fun hE => ?_)
  · repeat' first|refine zyq ?_|(refine zap rfl ?_;refine zah [0] (back_spec w0 p s m) rfl rfl rfl zdj rfl ?_)|refine zp ?_|refine zch ?_
    refine run_nil ⟨rfl, ends_none rfl ?_⟩
    rw [if_pos hE]; exact ⟨rfl, rfl⟩
  · repeat' first|refine zcm ?_|(refine zap rfl ?_;first|refine zaj rfl ?_|refine zak rfl ?_|refine zal rfl ?_|refine zam rfl rfl (fun _ => ?_) (fun _ => ?_))|refine zch ?_
    refine run_nil ⟨rfl, ends_none rfl ?_⟩
    rw [if_neg hE]; exact ⟨rfl, rfl⟩
def teD (p eb : Nat) (m : Nat) : Deferred := { target := .fn (.func 131) #[], args := List.toArray [spP p, .int .i64 m, ptrT eb] }
theorem teLen (p : Nat) (T : Te) : FnG w0 [] 72 [teV T, spP p] p T.len (.int .i64) := by
 intro s hS; have hG := At.start hS; generalize Pg.run _ s = R at hG ⊢
 unfold Te.len at hG
 have hG := hG.to (Pg.bind_pure _).symm
 refine zep en72 fn72 rfl rfl rfl ?_
 refine zyr ?_
 repeat' first|(refine zap rfl ?_;refine zaq (cs := [_, _, _, _]) rfl (fun nb => ?_))|refine zp ?_|refine zyn ?_
 refine zeb [1] rfl ?_
 repeat' first|refine zyq ?_|(refine zap rfl ?_;first|refine zdu rfl rfl ?_|refine zdk [0] hG (getG w0 p _) rfl rfl rfl zdj (fun x s hG => ?_))|refine zp ?_|refine zyl 0 rfl ?_|refine zyf rfl ?_|refine zch ?_
 rw [hG.done]
 exact zej rfl ⟨rfl, rfl⟩
abbrev shW (wb b : Nat) : Nat × Obj := (b, .cells (List.toArray [ptrT wb]) 176 (0, 0))
abbrev shK (k : Int) (b : Nat) : Nat × Obj := (b, .cells (List.toArray [.int .i64 k]) 2 (0, 0))
theorem teWay (wb : Nat) (k : Int) : Vc.Fn PP w0 [] 141 [ptrT wb, .int .i64 k] [] (fun v Γ => ∃ b1 b2, v = .func (.func 272) #[] #[ptrT b1, ptrT b2] ∧
   Γ = [pt (shW wb b1).1 (shW wb b1).2, pt (shK k b2).1 (shK k b2).2]) := by
 refine zep en141 fn141 rfl rfl rfl ?_
 refine zyr ?_
 repeat' first|(refine zap rfl ?_;refine zaq (cs := [_]) rfl (fun nb => ?_))|refine zp ?_|refine zyn ?_
 repeat' first|refine zyq ?_|refine zp ?_|refine zch ?_
 exact zej rfl ⟨_, _, rfl, rfl⟩
abbrev YX (_ : Te) {β : Type} (φ : Nat → β → Prop) (f : β → Int × Int → Pg (β × Bool)) : Type := {x : β × (Int × Int) × Wk × Sp // Pg.Fits (f x.1 x.2.1) x.2.2.2 ∧ ∃ i, i < 128 ∧ φ i x.1}
def RYt (p wb : Nat) (T : Te) {β : Type} (φ : Nat → β → Prop) (f : β → Int × Int → Pg (β × Bool)) (A X : β → Asn) (x : YX T φ f) (jump : Option Code) (Γ : List Asn) : Prop :=
 jump = (if (Pg.run (f x.1.1 x.1.2.1) x.1.2.2.2).1.2 = true then none else some .ret) ∧
 Γ = [SpaceA p (Pg.run (f x.1.1 x.1.2.1) x.1.2.2.2).2, wkA wb p T x.1.2.2.1, if (Pg.run (f x.1.1 x.1.2.1) x.1.2.2.2).1.2 = true then A (Pg.run (f x.1.1 x.1.2.1) x.1.2.2.2).1.1 else X (Pg.run (f x.1.1 x.1.2.1) x.1.2.2.2).1.1]
theorem teWay1 (p wb : Nat) (T : Te) (hT : T.Ok) (k : Int) (sh : Shared) (b1 b2 : Nat) {β : Type} (f : β → Int × Int → Pg (β × Bool)) (A X : β → Asn) (φ : Nat → β → Prop) (hφ : ∀ i acc x s, i < 128 → φ i acc → (Pg.run (f acc x) s).1.2 = true → φ (i + 1) (Pg.run (f acc x) s).1.1) (L : Nat) (lp : Option Code → Asn)
   (hY : ∀ x : YX T φ f, Yld PP w0 (shW wb b1 :: shK k b2 :: sh) L [.agg (List.toArray [.int .i64 x.1.2.1.1, .int .i64 x.1.2.1.2])] (lp none :: [SpaceA p x.1.2.2.2, wkA wb p T x.1.2.2.1, A x.1.1])
     (fun b Γ' => ∃ jump Γ'', b = jump.isNone ∧ RYt p wb T φ f A X x jump Γ'' ∧ Γ' = lp jump :: Γ'')) (w : Wk) (acc : β) (h0 : φ 0 acc) (s : Sp) (hS : Pg.Fits (T.way f k w acc) s) :
   Vc.Fn PP w0 (shW wb b1 :: shK k b2 :: sh) 272 [.func (.yield L) #[] #[], ptrT b1, ptrT b2]
     [lp none, SpaceA p s, wkA wb p T w, A acc]
     (fun _ Γ' => Γ' = [lp (if (Pg.run (T.way f k w acc) s).1.1.2 = true then some .ret else none), SpaceA p (Pg.run (T.way f k w acc) s).2, wkA wb p T (Pg.run (T.way f k w acc) s).1.2, if (Pg.run (T.way f k w acc) s).1.1.2 = true then X (Pg.run (T.way f k w acc) s).1.1.1 else A (Pg.run (T.way f k w acc) s).1.1.1]) := by
 have hG := At.start hS
 generalize Pg.run _ s = R at hG ⊢
 unfold Te.way at hG
 obtain ⟨⟨hp1, hp2, hp3, hp4, hp5, hp6, hp7⟩, _, _⟩ := id hT
 refine zep en272 fn272 rfl rfl rfl ?_
 refine zyr ?_
 repeat' refine zp ?_
 all_goals refine zyn ?_
 first|refine zcp (by kernel_rfl) ?_|refine zeh PP_mixed (by kernel_rfl) (by kernel_rfl) ?_
 repeat' first|(refine zap rfl ?_;first|refine zab 2 rfl rfl rfl ?_|refine zdk [1] hG (getG w0 p _) rfl rfl rfl zdj (fun a s hG => ?_))|refine zp ?_|refine zyl 0 rfl ?_|refine zyf rfl ?_|refine zyn ?_
 repeat (first|refine zck ?_|refine zcl ?_|refine zcm ?_|refine zcn ?_|refine zco ?_)
 refine zec [0, 1, 0, 0] rfl ?_
 refine run_loop (S := Int × Nat × Wk × β × Sp) (fun v => [(0, .func (.yield L) #[] #[]), (1, ptrT b1), (2, ptrT b2), (4, .int .i64 (T.pool.nodes - v.2.1)), (5, .int .i64 v.1)])
   (fun v Γ => Γ = [SpaceA p v.2.2.2.2, wkA wb p T v.2.2.1, lp none, A v.2.2.2.1] ∧ At R (T.wayK f k v.2.1 v.1 v.2.2.1 v.2.2.2.1) v.2.2.2.2 ∧ v.2.1 ≤ T.pool.nodes.toNat ∧ φ (T.pool.nodes.toNat - v.2.1) v.2.2.2.1) (fun v => v.2.1) (a, T.pool.nodes.toNat, w, acc, s) ⟨rfl, rfl, rfl, by show Value.int .i64 0 = _; congr 1; dsimp only; omega, rfl, trivial⟩ ⟨rfl, hG, Nat.le_refl _, by dsimp only; rw [Nat.sub_self]; exact h0⟩ ?_
 rintro ⟨a, j, w, acc, s⟩ Γ junk ⟨rfl, hG, hle, hph⟩
 dsimp only at hG hle hph ⊢
 have ki := teIs w0 p wb T hT w a
 cases hI : (T.is a w).1 with
 | false =>
   have hG : At R (Pg.ret ((acc, false), (T.is a w).2)) s := by
     cases j with
     | zero => rw [Te.wayK, hI, if_neg (by decide)] at hG; exact hG
     | succ j => rw [Te.wayK, hI, if_neg (by decide)] at hG; exact hG
   rw [hI] at ki
   rw [hG.done]
   refine zyr ?_
   repeat' first|(refine zap rfl ?_;refine zah [1] ki rfl rfl rfl zdj rfl ?_)|refine zp ?_|refine zyl 0 rfl ?_|refine zyn ?_
   refine zcj rfl ?_
   refine zer rfl rfl ?_
   exact run_nil (zek (zel [2, 1, 0, 0] rfl (ends_none rfl ⟨rfl, by simp⟩)))
 | true =>
 rw [hI] at ki
 cases j with
 | zero =>
   rw [Te.wayK, hI, if_pos rfl] at hG
   rw [hG.done]
   repeat' first|refine zck ?_|refine zcm ?_|refine zcl ?_|refine zyq ?_|(refine zap rfl ?_;first|refine zab 0 rfl rfl rfl ?_|refine zah [1] ki rfl rfl rfl zdj rfl ?_|refine zbm rfl rfl (by omega) ?_|refine zae 0 rfl rfl rfl rfl rfl rfl rfl ?_)|refine zp ?_|refine zyl 0 rfl ?_|refine zyf rfl ?_|refine zch ?_|refine zci rfl ?_
   exact cut_ret (zek (zel [2, 1, 0, 0] rfl (ends_none rfl ⟨rfl, by first | rfl | simp⟩)))
 | succ j =>
   rw [Te.wayK, hI, if_pos rfl] at hG
   refine zyr ?_
   repeat' first|(refine zap rfl ?_;refine zah [1] ki rfl rfl rfl zdj rfl ?_)|refine zp ?_|refine zyl 0 rfl ?_|refine zyn ?_
   refine zci rfl ?_
   repeat (first|refine zck ?_|refine zcl ?_|refine zcm ?_|refine zcn ?_|refine zco ?_)
   refine zyr ?_
   repeat' first|(refine zap rfl ?_;first|refine zab 0 rfl rfl rfl ?_|refine zbn rfl rfl (by omega) ?_)|refine zp ?_|refine zyl 0 rfl ?_|refine zyf rfl ?_|refine zyn ?_
   refine zcj rfl ?_
   repeat (first|refine zck ?_|refine zcl ?_|refine zcm ?_|refine zcn ?_|refine zco ?_)
   refine zyr ?_
   repeat' first|(refine zap rfl ?_;refine zdn [1, 0] hG (teGet w0 p wb T _ a 0) rfl rfl rfl (fun key s hG => ?_))|refine zp ?_|refine zyl 0 rfl ?_|refine zyn ?_
   have hph2 := hφ _ acc (a, key) s (by omega) hph
   rw [show T.pool.nodes.toNat - (j + 1) + 1 = T.pool.nodes.toNat - j by omega] at hph2
   have hy := hY ⟨(acc, (a, key), (T.is a w).2, s), hG.step.1, T.pool.nodes.toNat - (j + 1), by omega, hph⟩
   have hG := hG.step.2
   unfold RYt at hy
   dsimp only at hG hy
   generalize Pg.run (f acc (a, key)) s = q at hG hph2 hy
   obtain ⟨⟨acc2, go⟩, s⟩ := q
   dsimp only at hG hph2 hy
   cases go with
   | false =>
     rw [if_pos rfl] at hG
     rw [hG.done]
     simp only [Bool.false_eq_true, if_false] at hy
     refine zyr ?_
     repeat' first|(refine zap rfl ?_;first|refine zbx rfl ?_|refine zak rfl ?_|refine reg_yield [2, 0, 0, 0] hy rfl rfl rfl (fun _ h => h) (fun | _, _, ⟨_, _, rfl, ⟨rfl, rfl⟩, rfl⟩ => ?_)|refine zbu rfl ?_|refine zcb rfl ?_)|refine zp ?_|refine zyn ?_
     refine zci rfl ?_
     exact cut_ret (zek (ends_none rfl rfl))
   | true =>
     rw [if_neg (by decide)] at hG
     simp only [if_true] at hy
     by_cases hk : key = k
     · rw [if_pos hk] at hG
       rw [hG.done]
       refine zyr ?_
       repeat' first|(refine zap rfl ?_;first|refine zbx rfl ?_|refine zaj rfl ?_|refine reg_yield [2, 0, 0, 0] hy rfl rfl rfl (fun _ h => h) (fun | _, _, ⟨_, _, rfl, ⟨rfl, rfl⟩, rfl⟩ => ?_)|refine zbc rfl rfl (by omega) ?_|refine zbv rfl ?_|refine zcb rfl ?_)|refine zp ?_|refine zyl 1 rfl ?_|refine zyn ?_
       refine zci rfl ?_
       exact cut_ret (zek (ends_none rfl rfl))
     · rw [if_neg hk] at hG
       refine zyr ?_
       repeat' first|(refine zap rfl ?_;first|refine zbx rfl ?_|refine zaj rfl ?_|refine reg_yield [2, 0, 0, 0] hy rfl rfl rfl (fun _ h => h) (fun | _, _, ⟨_, _, rfl, ⟨rfl, rfl⟩, rfl⟩ => ?_)|refine zbd rfl rfl (by omega) ?_|refine zbv rfl ?_|refine zcb rfl ?_)|refine zp ?_|refine zyl 1 rfl ?_|refine zyn ?_
       refine zcj rfl ?_
       repeat (first|refine zck ?_|refine zcl ?_|refine zcm ?_|refine zcn ?_|refine zco ?_)
       repeat' first|refine zcn ?_|refine zyq ?_|(refine zap rfl ?_;first|refine zah [] (teKid w0 k key) rfl rfl rfl zdj rfl ?_|refine zdn [1, 1] hG (teGet w0 p wb T _ a (Te.kid k key)) rfl rfl rfl (fun b s hG => ?_)|refine zau rfl rfl (by omega) ?_)|refine zp ?_|refine zyl 0 rfl ?_|refine zyl 1 rfl ?_|refine zch ?_
       exact zeq ⟨rfl, (b, j, (T.is a w).2, acc2, s), ⟨rfl, rfl, rfl, by show Value.int .i64 _ = _; congr 1; dsimp only; omega, rfl, trivial⟩, ⟨rfl, hG, by dsimp only; omega, hph2 rfl⟩, Nat.lt_succ_self j⟩
end Go.Proofs.YtgdhcgnmffgkiaaGreatDoor
