import Derived.Test.YtgdhcgnmffgkiaaGreatDoorPart1
import Derived.Test.YtgdhcgnmffgkiaaGreatDoorKit
/- Own work: lemmas of this claim. -/
namespace Sim
open Go Go.Vc
inductive Pg (α : Type) : Type where
 | ret : α → Pg α
 | get : Int → (Int → Pg α) → Pg α
 | put : Int → Int → Pg α → Pg α
 | mark : (Nat → Pg α) → Pg α
 | back : Nat → Pg α → Pg α
namespace Pg
variable {α β γ : Type}
def bind : Pg α → (α → Pg β) → Pg β
 | ret a, f => f a
 | get x k, f => get x fun v => (k v).bind f
 | put x v k, f => put x v (k.bind f)
 | mark k, f => mark fun m => (k m).bind f
 | back m k, f => back m (k.bind f)
instance : Monad Pg where
 pure := ret
 bind := bind
def gt (x : Int) : Pg Int := get x ret
def pt (x v : Int) : Pg Unit := put x v (ret ())
def mk : Pg Nat := mark ret
def bk (m : Nat) : Pg Unit := back m (ret ())
def run : Pg α → Sp → α × Sp
 | ret a, s => (a, s)
 | get x k, s => run (k (s.get x).1) (s.get x).2
 | put x v k, s => run k (s.put x v)
 | mark k, s => run (k s.puts.length) s
 | back m k, s => run k (s.back m)
def Fits : Pg α → Sp → Prop
 | ret _, s => s.puts.length ≤ 1099511627776
 | get x k, s => s.puts.length ≤ 1099511627776 ∧ Fits (k (s.get x).1) (s.get x).2
 | put x v k, s => s.puts.length ≤ 1099511627776 ∧ Fits k (s.put x v)
 | mark k, s => s.puts.length ≤ 1099511627776 ∧ Fits (k s.puts.length) s
 | back m k, s => s.puts.length ≤ 1099511627776 ∧ Fits k (s.back m)
theorem Fits.here : ∀ {g : Pg α} {s : Sp}, Fits g s → s.puts.length ≤ 1099511627776
 | ret _, _, h => h
 | get _ _, _, h => h.1
 | put _ _ _, _, h => h.1
 | mark _, _, h => h.1
 | back _ _, _, h => h.1
theorem run_bind (f : α → Pg β) : ∀ (g : Pg α) (s : Sp), run (g >>= f) s = run (f (run g s).1) (run g s).2
 | ret _, _ => rfl
 | get x k, s => run_bind f (k (s.get x).1) (s.get x).2
 | put x v k, s => run_bind f k (s.put x v)
 | mark k, s => run_bind f (k s.puts.length) s
 | back m k, s => run_bind f k (s.back m)
theorem fits_bind (f : α → Pg β) : ∀ (g : Pg α) (s : Sp), Fits (g >>= f) s → Fits g s ∧ Fits (f (run g s).1) (run g s).2
 | ret _, _, h => ⟨Fits.here h, h⟩
 | get x k, s, h => let ⟨h1, h2⟩ := fits_bind f (k (s.get x).1) (s.get x).2 h.2; ⟨⟨h.1, h1⟩, h2⟩
 | put x v k, s, h => let ⟨h1, h2⟩ := fits_bind f k (s.put x v) h.2; ⟨⟨h.1, h1⟩, h2⟩
 | mark k, s, h => let ⟨h1, h2⟩ := fits_bind f (k s.puts.length) s h.2; ⟨⟨h.1, h1⟩, h2⟩
 | back m k, s, h => let ⟨h1, h2⟩ := fits_bind f k (s.back m) h.2; ⟨⟨h.1, h1⟩, h2⟩
theorem bind_assoc (f : α → Pg β) (g : β → Pg γ) : ∀ (x : Pg α), (x >>= f) >>= g = x >>= fun a => f a >>= g
 | ret _ => rfl
 | get x k => congrArg (get x) (funext fun v => bind_assoc f g (k v))
 | put x v k => congrArg (put x v) (bind_assoc f g k)
 | mark k => congrArg mark (funext fun m => bind_assoc f g (k m))
 | back m k => congrArg (back m) (bind_assoc f g k)
theorem pure_bind (a : α) (f : α → Pg β) : (pure a >>= f) = f a := rfl
theorem ite_bind (c : Prop) [Decidable c] (x y : Pg α) (f : α → Pg β) : ((if c then x else y) >>= f) = if c then x >>= f else y >>= f := by split <;> rfl
theorem bind_pure : ∀ (x : Pg α), (x >>= fun a => pure a) = x
 | ret _ => rfl
 | get x k => congrArg (get x) (funext fun v => bind_pure (k v))
 | put x v k => congrArg (put x v) (bind_pure k)
 | mark k => congrArg mark (funext fun m => bind_pure (k m))
 | back m k => congrArg (back m) (bind_pure k)
def Bd : Nat → Pg α → Prop
 | _, ret _ => True
 | j, get _ k => ∀ v, Bd j (k v)
 | 0, put _ _ _ => False
 | j + 1, put _ _ k => Bd j k
 | j, mark k => ∀ m, Bd j (k m)
 | j, back _ k => Bd j k
theorem Bd.mono : ∀ {g : Pg α} {i j : Nat}, i ≤ j → Bd i g → Bd j g
 | ret _, i, j, _, _ => by simp [Bd]
 | get _ k, i, j, h, hb => by simp only [Bd] at hb ⊢; exact fun v => Bd.mono h (hb v)
 | put _ _ k, 0, j, h, hb => by simp [Bd] at hb
 | put _ _ k, i + 1, 0, h, hb => absurd h (by omega)
 | put _ _ k, i + 1, j + 1, h, hb => by simp only [Bd] at hb ⊢; exact Bd.mono (by omega) hb
 | mark k, i, j, h, hb => by simp only [Bd] at hb ⊢; exact fun v => Bd.mono h (hb v)
 | back _ k, i, j, h, hb => by simp only [Bd] at hb ⊢; exact Bd.mono h hb
theorem bd_bind {f : α → Pg β} {j : Nat} (hf : ∀ a, Bd j (f a)) : ∀ {g : Pg α} {i : Nat}, Bd i g → Bd (i + j) (g >>= f)
 | ret a, i, _ => Bd.mono (by omega) (hf a)
 | get x k, i, h => by
   simp only [Bd] at h
   show Bd (i + j) (get x fun v => (k v >>= f))
   simp only [Bd]
   exact fun v => bd_bind hf (h v)
 | put x v k, 0, h => by simp [Bd] at h
 | put x v k, i + 1, h => by
   simp only [Bd] at h
   show Bd (i + 1 + j) (put x v (k >>= f))
   rw [show i + 1 + j = (i + j) + 1 by omega]
   simp only [Bd]
   exact bd_bind hf h
 | mark k, i, h => by
   simp only [Bd] at h
   show Bd (i + j) (mark fun v => (k v >>= f))
   simp only [Bd]
   exact fun v => bd_bind hf (h v)
 | back m k, i, h => by
   simp only [Bd] at h
   show Bd (i + j) (back m (k >>= f))
   simp only [Bd]
   exact bd_bind hf h
theorem bd_seq {f : α → Pg β} {g : Pg α} {i j n : Nat} (hg : Bd i g) (hf : ∀ a, Bd j (f a)) (h : i + j ≤ n) : Bd n (g >>= f) := (bd_bind hf hg).mono h
theorem bd_then {f : α → Pg β} {g : Pg α} {i n : Nat} (hg : Bd i g) (hf : ∀ a, Bd (n - i) (f a)) (h : i ≤ n) : Bd n (g >>= f) := bd_seq hg hf (by omega)
theorem bd_gt0 (x : Int) : Bd 0 (gt x) := fun _ => trivial
theorem bd_mk0 : Bd 0 mk := fun _ => trivial
theorem bd_bk0 (m : Nat) : Bd 0 (bk m) := trivial
theorem bd_pure {j : Nat} (a : α) : Bd j (pure a : Pg α) := by show Bd j (ret a); simp [Bd]
theorem bd_pt (x v : Int) : Bd 1 (pt x v) := by simp [pt, Bd]
theorem bd_ite {c : Prop} [Decidable c] {x y : Pg α} {j : Nat} (hx : Bd j x) (hy : Bd j y) : Bd j (if c then x else y) := by split <;> assumption
theorem reads_puts' (s : Sp) (x : Int) : (s.reads x).2.puts = s.puts := by unfold Sp.reads; split; rfl; split <;> rfl
theorem get_puts (s : Sp) (x : Int) : (s.get x).2.puts = s.puts := by simp only [Sp.get]; split <;> exact reads_puts' s x
theorem put_len (s : Sp) (x v : Int) : (s.put x v).puts.length ≤ s.puts.length + 1 := by
 simp only [Sp.put]; split
 · simp
 · rw [reads_puts']; omega
theorem back_len (s : Sp) (m : Int) : (s.back m).puts.length ≤ s.puts.length := by
 simp only [Sp.back]; split
 · simp; omega
 · exact Nat.le_refl _
theorem run_len : ∀ (g : Pg α) (j : Nat) (s : Sp), Bd j g → (run g s).2.puts.length ≤ s.puts.length + j
 | ret _, _, _, _ => Nat.le_add_right _ _
 | get x k, j, s, h => by
   simp only [Bd] at h
   have := run_len (k (s.get x).1) j (s.get x).2 (h _)
   rw [get_puts] at this; exact this
 | put x v k, 0, s, h => by simp [Bd] at h
 | put x v k, j + 1, s, h => by
   simp only [Bd] at h
   have := run_len k j (s.put x v) h
   have h2 := put_len s x v
   simp only [run]; omega
 | mark k, j, s, h => by
   simp only [Bd] at h
   exact run_len (k s.puts.length) j s (h _)
 | back m k, j, s, h => by
   simp only [Bd] at h
   have := run_len k j (s.back m) h
   have h2 := back_len s m
   simp only [run]; omega
theorem fits_of : ∀ (g : Pg α) (j : Nat) (s : Sp), Bd j g → s.puts.length + j ≤ 1099511627776 → Fits g s
 | ret _, _, s, _, h => by simp only [Fits]; omega
 | get x k, j, s, hb, h => by
   simp only [Bd] at hb
   exact ⟨by omega, fits_of _ j _ (hb _) (by rw [get_puts]; exact h)⟩
 | put x v k, 0, s, hb, h => by simp [Bd] at hb
 | put x v k, j + 1, s, hb, h => by
   simp only [Bd] at hb
   have h2 := put_len s x v
   exact ⟨by omega, fits_of _ j _ hb (by omega)⟩
 | mark k, j, s, hb, h => by
   simp only [Bd] at hb
   exact ⟨by omega, fits_of _ j _ (hb _) h⟩
 | back m k, j, s, hb, h => by
   simp only [Bd] at hb
   have h2 := back_len s m
   exact ⟨by omega, fits_of _ j _ hb (by omega)⟩
def All (φ : α → Prop) : Pg α → Prop
 | ret a => φ a
 | get _ k => ∀ v, All φ (k v)
 | put _ _ k => All φ k
 | mark k => ∀ m, All φ (k m)
 | back _ k => All φ k
theorem all_run {φ : α → Prop} : ∀ {g : Pg α} {s : Sp}, All φ g → φ (run g s).1
 | ret _, _, h => h
 | get x k, s, h => all_run (g := k (s.get x).1) (s := (s.get x).2) (h _)
 | put x v k, s, h => all_run (g := k) (s := s.put x v) h
 | mark k, s, h => all_run (g := k s.puts.length) (s := s) (h _)
 | back m k, s, h => all_run (g := k) (s := s.back m) h
theorem all_bind {φ : β → Prop} {ψ : α → Prop} {f : α → Pg β} (hf : ∀ a, ψ a → All φ (f a)) : ∀ {g : Pg α}, All ψ g → All φ (g >>= f)
 | ret a, h => hf a h
 | get _ _, h => fun v => all_bind hf (h v)
 | put _ _ k, h => all_bind (g := k) hf h
 | mark _, h => fun m => all_bind hf (h m)
 | back _ k, h => all_bind (g := k) hf h
theorem all_then {φ : β → Prop} {f : α → Pg β} (hf : ∀ a, All φ (f a)) : ∀ {g : Pg α}, All φ (g >>= f)
 | ret a => hf a
 | get _ _ => fun _ => all_then hf
 | put _ _ k => all_then (g := k) hf
 | mark _ => fun _ => all_then hf
 | back _ k => all_then (g := k) hf
theorem all_ite {φ : α → Prop} {c : Prop} [Decidable c] {x y : Pg α} (hx : c → All φ x) (hy : ¬ c → All φ y) : All φ (if c then x else y) := by split; exact hx ‹_›; exact hy ‹_›
theorem all_pure {φ : α → Prop} {a : α} (h : φ a) : All φ (pure a : Pg α) := h
end Pg
structure At {α : Type} (R : α × Sp) (g : Pg α) (s : Sp) : Prop where
 eq : R = Pg.run g s
 fits : Pg.Fits g s
theorem At.start {α : Type} {g : Pg α} {s : Sp} (h : Pg.Fits g s) : At (Pg.run g s) g s := ⟨rfl, h⟩
theorem At.step {α β : Type} {R : β × Sp} {g : Pg α} {f : α → Pg β} {s : Sp} (h : At R (g >>= f) s) : Pg.Fits g s ∧ At R (f (Pg.run g s).1) (Pg.run g s).2 :=
 ⟨(Pg.fits_bind f g s h.fits).1, h.eq.trans (Pg.run_bind f g s), (Pg.fits_bind f g s h.fits).2⟩
theorem At.to {α : Type} {R : α × Sp} {g g' : Pg α} {s : Sp} (h : At R g s) (e : g = g') : At R g' s := e ▸ h
theorem At.last {α : Type} {R : α × Sp} {g : Pg α} {s : Sp} (h : At R g s) : Pg.Fits g s ∧ At R (Pg.ret (Pg.run g s).1) (Pg.run g s).2 :=
 At.step (f := fun a => (pure a : Pg α)) (h.to (Pg.bind_pure g).symm)
theorem At.done {α : Type} {R : α × Sp} {a : α} {s : Sp} (h : At R (Pg.ret a) s) : R = (a, s) := h.eq
end Sim
namespace Go.Proofs.YtgdhcgnmffgkiaaGreatDoor
variable (w0 : World)
open Go.Vc Sim
abbrev FnG {α : Type} (w0 : World) (sh : Shared) (f : FuncId) (args : List Value) (p : Nat) (g : Pg α) (enc : α → Value) : Prop :=
 ∀ s, Pg.Fits g s → FnE PP w0 sh f args [SpaceA p s] (enc (Pg.run g s).1) [SpaceA p (Pg.run g s).2]
section
variable {w0 : World} {n : Nat} {sh shf : Shared} {Q : Exit → Env → List Deferred → List Asn → Prop} {k : List Item} {ρ : Env} {df : List Deferred} {Γ Γr : List Asn}
variable {ops : Array Oper} {l : List (Fl × Nat × Oper)} {i : Nat} {ty : TypeId} {pos : String} {aft : Array Edge} {dst : Option Tmp}
variable {f : FuncId} {args : List Value} {fo : Operand} {cargs : Array Operand} {ats : Array TypeId} {first cap : Array Value}
theorem zdk (is : List Nat) {α β : Type} {R : β × Sp} {g : Pg α} {kk : α → Pg β} {s : Sp} {p : Nat} {enc : α → Value} (hG : At R (g >>= kk) s) (spec : FnG w0 shf f args p g enc)
   (hfo : ev ρ fo = .func (.func f) first cap) (hargs : first.toList ++ cargs.toList.map (ev ρ) ++ cap.toList = args)
   (hp : pick is Γ = some ([SpaceA p s], Γr)) (hsh : ∀ p ∈ shf, p ∈ sh) (h : ∀ x s', At R (kk x) s' → Reg PP w0 n sh Q ops l k (ρ.setO dst (enc x)) df (SpaceA p s' :: Γr)) :
   Reg PP w0 n sh Q ops ((Fl.loud, i, ⟨dst, .call ⟨.value fo, cargs, ats⟩, ty, pos, aft, none⟩) :: l) k ρ df Γ :=
 zah is (spec s hG.step.1) hfo hargs hp hsh rfl (h _ _ hG.step.2)
theorem zdl (is : List Nat) {α β : Type} {R : β × Sp} {g : Pg α} {kk : α → Pg β} {s : Sp} {p : Nat} {enc : α → Value} {φ : α → Prop} (hG : At R (g >>= kk) s) (hφ : Pg.All φ g) (spec : FnG w0 shf f args p g enc)
   (hfo : ev ρ fo = .func (.func f) first cap) (hargs : first.toList ++ cargs.toList.map (ev ρ) ++ cap.toList = args)
   (hp : pick is Γ = some ([SpaceA p s], Γr)) (hsh : ∀ p ∈ shf, p ∈ sh) (h : ∀ x s', φ x → At R (kk x) s' → Reg PP w0 n sh Q ops l k (ρ.setO dst (enc x)) df (SpaceA p s' :: Γr)) :
   Reg PP w0 n sh Q ops ((Fl.loud, i, ⟨dst, .call ⟨.value fo, cargs, ats⟩, ty, pos, aft, none⟩) :: l) k ρ df Γ :=
 zah is (spec s hG.step.1) hfo hargs hp hsh rfl (h _ _ (Pg.all_run hφ) hG.step.2)
end
theorem getG (p : Nat) (x : Int) : FnG w0 [] 36 [spP p, .int .i64 x] p (Pg.gt x) (.int .i64) := fun s h => get_spec w0 p s x h.1
theorem putG (p : Nat) (x v : Int) : FnG w0 [] 109 [spP p, .int .i64 x, .int .i64 v] p (Pg.pt x v) (fun _ => .tuple #[]) := fun s h => put_spec w0 p s x v h.1
theorem markG (p : Nat) : FnG w0 [] 19 [spP p] p Pg.mk (fun m => .int .i64 m) := fun s _ => mark_spec w0 p s
end Go.Proofs.YtgdhcgnmffgkiaaGreatDoor
namespace Sim
open Go Go.Vc
def Sm (s : Sp) (j : Nat) : Prop := s.puts.length + j ≤ 1099511627776
theorem Sm.mono {s : Sp} {j i : Nat} (h : Sm s j) (hi : i ≤ j) : Sm s i := by unfold Sm at *; omega
theorem reads_putsL (s : Sp) (x : Int) : (s.reads x).2.puts = s.puts := by unfold Sp.reads; split; rfl; split <;> rfl
theorem sm_get {s : Sp} {j : Nat} {a : Int} (h : Sm s j) : Sm (s.get a).2 j := by
 unfold Sm at *; simp only [Sp.get]; split <;> simpa [reads_putsL] using h
theorem sm_put {s : Sp} {j : Nat} {a v : Int} (h : Sm s (j + 1)) : Sm (s.put a v) j := by
 unfold Sm at *; simp only [Sp.put]; split
 · simp; omega
 · simp only [reads_putsL]; omega
theorem sm_back {s : Sp} {j : Nat} {m : Int} (h : Sm s j) : Sm (s.back m) j := by
 unfold Sm at *; simp only [Sp.back]; split
 · simp; omega
 · exact h
def w64 (x : Int) : Int := IntKind.i64.wrap x
structure Pl where
 root : Int
 frm : Int
 nodes : Int
def Pl.chk (P : Pl) : Int :=
 if P.root < 0 ∨ P.frm < 1 ∨ P.nodes < 0 ∨ 128 < P.nodes then 1 else if 4093 < P.root ∨ 4096 - 8 * P.nodes < P.frm then 1 else if 0 < P.nodes ∧ P.frm < P.root + 3 ∧ P.root < P.frm + 8 * P.nodes then 1 else 0
def Pl.Ok (P : Pl) : Prop := P.chk = 0 ∧ 0 ≤ P.root ∧ P.root ≤ 4093 ∧ 1 ≤ P.frm ∧ P.frm ≤ 4096 ∧ 0 ≤ P.nodes ∧ P.nodes ≤ 128
def Pl.node (P : Pl) (a : Int) : Bool := decide (P.frm ≤ a) && decide ((w64 (a - P.frm)).tmod 8 = 0) && decide (w64 ((w64 (a - P.frm)).tdiv 8) < P.nodes)
def Pl.idx (P : Pl) (a : Int) : Int := if P.node a then w64 ((w64 (a - P.frm)).tdiv 8) else 0
def Pl.add (P : Pl) (s : Sp) (c n : Int) : Sp := (s.get (P.root + c)).2.put (P.root + c) (w64 ((s.get (P.root + c)).1 + n))
def Pl.take (P : Pl) (s : Sp) : Int × Int × Sp :=
 if (s.get P.root).1 ≠ 0 then
   if P.node (s.get P.root).1 then
     ((s.get P.root).1, 0, P.add (((s.get P.root).2.get (s.get P.root).1).2.put P.root ((s.get P.root).2.get (s.get P.root).1).1) 2 (-1))
   else (0, 24, (s.get P.root).2)
 else
   if ((s.get P.root).2.get (P.root + 1)).1 < 0 ∨ P.nodes ≤ ((s.get P.root).2.get (P.root + 1)).1 then (0, 9, ((s.get P.root).2.get (P.root + 1)).2)
   else (P.frm + 8 * ((s.get P.root).2.get (P.root + 1)).1, 0, ((s.get P.root).2.get (P.root + 1)).2.put (P.root + 1) (((s.get P.root).2.get (P.root + 1)).1 + 1))
def Pl.give (P : Pl) (s : Sp) (a : Int) : Int × Sp :=
 if P.node a then (0, P.add (((s.get P.root).2.put a (s.get P.root).1).put P.root a) 2 1) else (1, s)
def Pl.left (P : Pl) (s : Sp) : Int × Sp :=
 (max (w64 (w64 ((s.get (P.root + 2)).1 + P.nodes) - ((s.get (P.root + 2)).2.get (P.root + 1)).1)) 0, ((s.get (P.root + 2)).2.get (P.root + 1)).2)
end Sim
namespace Go.Proofs.YtgdhcgnmffgkiaaGreatDoor
variable (w0 : World)
open Go.Vc Sim
def poolV (P : Pl) : Value := .agg #[.int .i64 P.root, .int .i64 P.frm, .int .i64 P.nodes]
theorem getS (p : Nat) (s : Sp) (x : Int) (h : Sm s 0) : FnE PP w0 [] 36 [spP p, .int .i64 x] [SpaceA p s] (.int .i64 (s.get x).1) [SpaceA p (s.get x).2] := get_spec w0 p s x h
theorem putS (p : Nat) (s : Sp) (x v : Int) (h : Sm s 0) : FnE PP w0 [] 109 [spP p, .int .i64 x, .int .i64 v] [SpaceA p s] (.tuple #[]) [SpaceA p (s.put x v)] := put_spec w0 p s x v h
theorem check_spec (P : Pl) (hP : P.Ok) : FnE PP w0 [] 268 [poolV P] [] (.int .i64 0) [] := by
 obtain ⟨h, _⟩ := hP
 refine zep en268 fn268 rfl rfl rfl ?_
 refine zyr ?_
 repeat' first|(refine zap rfl ?_;refine zaq (cs := [_, _, _]) rfl (fun nb => ?_))|refine zp ?_|refine zyn ?_
 refine zeb [0] rfl ?_
 repeat' first|refine zck ?_|refine zcm ?_|refine zcn ?_|refine zyq ?_|(refine zap rfl ?_;first|refine zaj rfl ?_|refine zak rfl ?_|refine zam rfl rfl (fun _ => ?_) (fun _ => ?_)|refine zau rfl rfl (by omega) ?_|refine zav rfl rfl (by omega) ?_|refine zaw rfl rfl (by omega) ?_|refine zbq rfl rfl ?_|refine zbs rfl rfl ?_|refine zbu rfl ?_|refine zbv rfl ?_)|refine zp ?_|refine zyl 0 rfl ?_|refine zyf rfl ?_|refine zch ?_|refine zci rfl ?_|refine zcj rfl ?_|refine zed rfl (fun _ => ?_) (fun _ => ?_)
 all_goals (refine zej rfl ?_;refine ⟨zes ?_, rfl⟩)
 all_goals (unfold Pl.chk at h; split at h <;> try split at h <;> try split at h)
 all_goals omega
theorem node_spec (P : Pl) (hP : P.Ok) (a : Int) : FnE PP w0 [] 113 [poolV P, .int .i64 a] [] (.tuple #[.int .i64 (P.idx a), .bool (P.node a)]) [] := by
 refine zep en113 fn113 rfl rfl rfl ?_
 refine zyr ?_
 repeat' first|(refine zap rfl ?_;refine zaq (cs := [_, _, _]) rfl (fun nb => ?_))|refine zp ?_|refine zyn ?_
 refine zeb [0] rfl ?_
 repeat' first|refine zck ?_|refine zcm ?_|refine zyq ?_|(refine zap rfl ?_;first|refine zev rfl rfl ?_|refine reg_rem rfl rfl (by decide) ?_|refine reg_quo rfl rfl (by decide) ?_|refine zaj rfl ?_|refine zak rfl ?_|refine zam rfl rfl (fun _ => ?_) (fun _ => ?_)|refine zah [] (check_spec w0 P hP) rfl rfl rfl zdj rfl ?_|refine zbp rfl rfl ?_|refine zbq rfl rfl ?_|refine zbt rfl rfl ?_|refine zbu rfl ?_|refine zbv rfl ?_)|refine zp ?_|refine zyl 0 rfl ?_|refine zyf rfl ?_|refine zch ?_|refine zci rfl ?_|refine zed rfl (fun _ => ?_) (fun _ => ?_)
 all_goals refine zei rfl ⟨?_, rfl⟩
 all_goals refine congrArg Value.tuple (?_ : #[Value.int .i64 _, .bool _] = #[Value.int .i64 _, .bool _])
 all_goals simp_all [Pl.idx, Pl.node, w64, ← Int.not_lt]
theorem add_spec (p : Nat) (P : Pl) (hP : P.Ok) (s : Sp) (c m : Int) (hc : 0 ≤ c ∧ c ≤ 3) (hsm : Sm s 1) : FnE PP w0 [] 269 [poolV P, spP p, .int .i64 c, .int .i64 m] [SpaceA p s] (.tuple #[]) [SpaceA p (P.add s c m)] := by
 obtain ⟨_, h1, h2, h3, h4, h5, h6⟩ := id hP
 refine zep en269 fn269 rfl rfl rfl ?_
 refine zyr ?_
 repeat' (refine zap rfl ?_;refine zaq (cs := [_, _, _]) rfl (fun nb => ?_))
 all_goals refine zyn ?_
 refine zeb [1] rfl ?_
 repeat' first|refine zyq ?_|(refine zap rfl ?_;first|refine zdu (t := 2) rfl rfl ?_|refine zah [0] (getS w0 p _ _ (by first|exact hsm.mono (by decide) | (repeat (first|refine sm_get ?_|refine sm_put ?_)); exact hsm.mono (by decide))) rfl rfl rfl zdj rfl ?_|refine zah [0] (putS w0 p _ _ _ (by first|exact hsm.mono (by decide) | (repeat (first|refine sm_get ?_|refine sm_put ?_)); exact hsm.mono (by decide))) rfl rfl rfl zdj rfl ?_|refine zau rfl rfl (by omega) ?_)|refine zp ?_|refine zyl 0 rfl ?_|refine zyf rfl ?_|refine zch ?_
 refine end_tmp0 rfl ⟨rfl, rfl⟩
end Go.Proofs.YtgdhcgnmffgkiaaGreatDoor
namespace Sim
open Go Go.Vc
def Pl.addP (P : Pl) (c n : Int) : Pg Unit := do
 let v ← Pg.gt (P.root + c)
 let _ ← Pg.pt (P.root + c) (w64 (v + n))
 pure ()
def Pl.takeP (P : Pl) : Pg (Int × Int) := do
 let first ← Pg.gt P.root
 if first ≠ 0 then
   if P.node first = true then do
     let x ← Pg.gt first
     let _ ← Pg.pt P.root x
     let _ ← P.addP 2 (-1)
     pure (first, 0)
   else pure (0, 24)
 else do
   let n ← Pg.gt (P.root + 1)
   if n < 0 ∨ P.nodes ≤ n then pure (0, 9) else do
     let _ ← Pg.pt (P.root + 1) (n + 1)
     pure (P.frm + 8 * n, 0)
def Pl.giveP (P : Pl) (a : Int) : Pg Int :=
 if P.node a = true then do
   let f ← Pg.gt P.root
   let _ ← Pg.pt a f
   let _ ← Pg.pt P.root a
   let _ ← P.addP 2 1
   pure 0
 else pure 1
def encI2 (r : Int × Int) : Value := .tuple #[.int .i64 r.1, .int .i64 r.2]
def encU (_ : Unit) : Value := .tuple #[]
theorem bd_takeP (P : Pl) : Pg.Bd 2 P.takeP := by
 intro v
 dsimp only
 refine Pg.bd_ite (Pg.bd_ite (fun _ => fun _ => trivial) trivial) (fun _ => Pg.bd_ite trivial trivial)
theorem bd_giveP (P : Pl) (a : Int) : Pg.Bd 3 (P.giveP a) := Pg.bd_ite (fun _ => fun _ => trivial) trivial
end Sim
namespace Go.Proofs.YtgdhcgnmffgkiaaGreatDoor
variable (w0 : World)
open Go.Vc Sim
theorem addG (p : Nat) (P : Pl) (hP : P.Ok) (c m : Int) (hc : 0 ≤ c ∧ c ≤ 3) : FnG w0 [] 269 [poolV P, spP p, .int .i64 c, .int .i64 m] p (P.addP c m) encU := by
 obtain ⟨_, h1, h2, h3, h4, h5, h6⟩ := id hP
 intro s hF; have hG := At.start hF; generalize Pg.run _ s = R at hG ⊢
 refine zep en269 fn269 rfl rfl rfl ?_
 refine zyr ?_
 repeat' (refine zap rfl ?_;refine zaq (cs := [_, _, _]) rfl (fun nb => ?_))
 all_goals refine zyn ?_
 refine zeb [1] rfl ?_
 repeat' first|refine zyq ?_|(refine zap rfl ?_;first|refine zdu (t := 2) rfl rfl ?_|refine zdk [0] hG (getG w0 p _) rfl rfl rfl zdj (fun x s hG => ?_)|refine zdk [0] hG (putG w0 p _ _) rfl rfl rfl zdj (fun x s hG => ?_)|refine zau rfl rfl (by omega) ?_)|refine zp ?_|refine zyl 0 rfl ?_|refine zyf rfl ?_|refine zch ?_
 rw [hG.done]
 refine end_tmp0 rfl ⟨rfl, rfl⟩
theorem takeG (p : Nat) (P : Pl) (hP : P.Ok) : FnG w0 [] 111 [poolV P, spP p] p P.takeP encI2 := by
 obtain ⟨_, h1, h2, h3, h4, h5, h6⟩ := id hP
 intro s hF; have hG := At.start hF; generalize Pg.run _ s = R at hG ⊢
 refine zep en111 fn111 rfl rfl rfl ?_
 refine zyr ?_
 repeat' first|(refine zap rfl ?_;refine zaq (cs := [_, _, _]) rfl (fun nb => ?_))|refine zp ?_|refine zyn ?_
 refine zeb [1] rfl ?_
 repeat' first|refine zck ?_|refine zcm ?_|refine zyq ?_|(refine zap rfl ?_;first|refine zah [] (check_spec w0 P hP) rfl rfl rfl zdj rfl ?_|refine zdk [0] hG (getG w0 p _) rfl rfl rfl zdj (fun x s hG => ?_)|refine zbp rfl rfl ?_)|refine zp ?_|refine zyl 0 rfl ?_|refine zyf rfl ?_|refine zch ?_|refine zcj rfl ?_
 refine zed rfl (fun hE => ?_) (fun hE => ?_)
 · simp only [if_pos hE] at hG
   repeat' first|refine zck ?_|refine zyq ?_|(refine zap rfl ?_;first|refine zah [] (node_spec w0 P hP _) rfl rfl rfl zdj rfl ?_|refine zbx rfl ?_)|refine zp ?_|refine zyl 0 rfl ?_|refine zch ?_
   refine zee rfl (fun hN => ?_) (fun hN => ?_)
   · have hN : P.node x = false := by simpa using hN
     simp only [hN, Bool.false_eq_true, if_false] at hG
     repeat' first|refine zck ?_|refine zyq ?_|refine zp ?_|refine zch ?_
     rw [hG.done]
     exact zei rfl ⟨rfl, rfl⟩
   · have hN : P.node x = true := by simpa using hN
     simp only [hN, if_true] at hG
     repeat' first|refine zck ?_|refine zcm ?_|refine zyq ?_|(refine zap rfl ?_;first|refine zdk [0] hG (getG w0 p _) rfl rfl rfl zdj (fun x s hG => ?_)|refine zdk [0] hG (putG w0 p _ _) rfl rfl rfl zdj (fun x s hG => ?_)|refine zdk [0] hG (addG w0 p P hP _ _ (by decide)) rfl rfl rfl zdj (fun x s hG => ?_))|refine zp ?_|refine zyl 0 rfl ?_|refine zyf rfl ?_|refine zch ?_
     rw [hG.done]
     exact zei rfl ⟨rfl, rfl⟩
 · simp only [if_neg hE] at hG
   repeat' first|refine zck ?_|refine zcm ?_|refine zyq ?_|(refine zap rfl ?_;first|refine zaj rfl ?_|refine zak rfl ?_|refine zam rfl rfl (fun _ => ?_) (fun _ => ?_)|refine zdk [0] hG (getG w0 p _) rfl rfl rfl zdj (fun x s hG => ?_)|refine zau rfl rfl (by omega) ?_|refine zbq rfl rfl ?_|refine zbt rfl rfl ?_|refine zbu rfl ?_|refine zbv rfl ?_)|refine zp ?_|refine zyl 0 rfl ?_|refine zyf rfl ?_|refine zch ?_|refine zci rfl ?_|refine zed rfl (fun _ => ?_) (fun _ => ?_)
   all_goals first|rw [if_pos (by omega)] at hG|rw [if_neg (by omega)] at hG
   · rw [hG.done]
     exact zei rfl ⟨rfl, rfl⟩
   · rw [hG.done]
     exact zei rfl ⟨rfl, rfl⟩
   · repeat' first|refine zck ?_|refine zyq ?_|(refine zap rfl ?_;first|refine zdk [0] hG (putG w0 p _ _) rfl rfl rfl zdj (fun x s hG => ?_)|refine zau rfl rfl (by omega) ?_|refine zaw rfl rfl (by omega) ?_)|refine zp ?_|refine zyl 0 rfl ?_|refine zyf rfl ?_|refine zch ?_
     rw [hG.done]
     exact zei rfl ⟨rfl, rfl⟩
theorem giveG (p : Nat) (P : Pl) (hP : P.Ok) (a : Int) : FnG w0 [] 114 [poolV P, spP p, .int .i64 a] p (P.giveP a) (.int .i64) := by
 obtain ⟨_, h1, h2, h3, h4, h5, h6⟩ := id hP
 intro s hF; have hG := At.start hF; generalize Pg.run _ s = R at hG ⊢
 refine zep en114 fn114 rfl rfl rfl ?_
 refine zyr ?_
 repeat' first|(refine zap rfl ?_;refine zaq (cs := [_, _, _]) rfl (fun nb => ?_))|refine zp ?_|refine zyn ?_
 refine zeb [1] rfl ?_
 repeat' first|refine zck ?_|refine zyq ?_|(refine zap rfl ?_;first|refine zah [] (node_spec w0 P hP _) rfl rfl rfl zdj rfl ?_|refine zbx rfl ?_)|refine zp ?_|refine zyl 0 rfl ?_|refine zch ?_
 refine zee rfl (fun hE => ?_) (fun hE => ?_)
 · have hE : P.node a = false := by simpa using hE
   simp only [Pl.giveP, hE, Bool.false_eq_true, if_false] at hG
   repeat' first|refine zck ?_|refine zyq ?_|refine zp ?_|refine zch ?_
   rw [hG.done]
   exact zej rfl ⟨rfl, rfl⟩
 · have hE : P.node a = true := by simpa using hE
   simp only [Pl.giveP, hE, if_true] at hG
   repeat' first|refine zck ?_|refine zcm ?_|refine zyq ?_|(refine zap rfl ?_;first|refine zdk [0] hG (getG w0 p _) rfl rfl rfl zdj (fun x s hG => ?_)|refine zdk [0] hG (putG w0 p _ _) rfl rfl rfl zdj (fun x s hG => ?_)|refine zdk [0] hG (addG w0 p P hP _ _ (by decide)) rfl rfl rfl zdj (fun x s hG => ?_))|refine zp ?_|refine zyl 0 rfl ?_|refine zyf rfl ?_|refine zch ?_
   rw [hG.done]
   exact zej rfl ⟨rfl, rfl⟩
end Go.Proofs.YtgdhcgnmffgkiaaGreatDoor
namespace Sim
open Go Go.Vc
def Qu.after (m : Nat) (e : Int) : Pg Int := if e ≠ 0 then do
   let _ ← Pg.bk m
   pure e
 else pure e
def Qu.tail (r v a : Int) : Pg Int := do
 let _ ← Pg.pt (w64 (a + 0)) v
 let _ ← Pg.pt (w64 (a + 1)) 0
 let _ ← Pg.pt (w64 (r + 1)) a
 let h ← Pg.gt (w64 (r + 7))
 let _ ← Pg.pt (w64 (r + 7)) (w64 (h + 1))
 pure 0
def Qu.putIn (P : Pl) (r v : Int) : Pg Int := do
 let t ← P.takeP
 if t.2 ≠ 0 then pure t.2 else do
   let e ← Pg.gt (w64 (r + 1))
   if e = 0 then do
     let _ ← Pg.pt (w64 (r + 0)) t.1
     Qu.tail r v t.1
   else if P.node e = true then do
     let _ ← Pg.pt (w64 (e + 1)) t.1
     Qu.tail r v t.1
   else pure 24
def Qu.put (P : Pl) (r v : Int) : Pg Int := do
 let m ← Pg.mk
 let e ← Qu.putIn P r v
 Qu.after m e
def Qu.takeIn (P : Pl) (r : Int) : Pg (Int × Int) := do
 let a ← Pg.gt (w64 (r + 0))
 if a = 0 then pure (0, 8) else
 if P.node a = true then do
   let v ← Pg.gt (w64 (a + 0))
   let b ← Pg.gt (w64 (a + 1))
   let e ← P.giveP a
   if e ≠ 0 then pure (0, e) else do
     let _ ← Pg.pt (w64 (r + 0)) b
     if b = 0 then do
       let _ ← Pg.pt (w64 (r + 1)) 0
       let h ← Pg.gt (w64 (r + 7))
       let _ ← Pg.pt (w64 (r + 7)) (w64 (h - 1))
       pure (v, 0)
     else do
       let h ← Pg.gt (w64 (r + 7))
       let _ ← Pg.pt (w64 (r + 7)) (w64 (h - 1))
       pure (v, 0)
 else pure (0, 24)
def Qu.after2 (m : Nat) (q : Int × Int) : Pg (Int × Int) := if q.2 ≠ 0 then do
   let _ ← Pg.bk m
   pure q
 else pure q
def Qu.take (P : Pl) (r : Int) : Pg (Int × Int) := do
 let m ← Pg.mk
 let e ← Qu.takeIn P r
 Qu.after2 m e
def Qu.first (r : Int) : Pg (Int × Int) := do
 let a ← Pg.gt (w64 (r + 0))
 if a = 0 then pure (0, 8) else do
   let v ← Pg.gt (w64 (a + 0))
   pure (v, 0)
def Qu.len (r : Int) : Pg Int := Pg.gt (w64 (r + 7))
namespace Qu
open Pg
theorem bd_after (m : Nat) (e : Int) : Bd 0 (after m e) := by unfold after; repeat' first|exact bd_pure _|with_reducible refine bd_ite ?_ ?_|with_reducible refine bd_then (bd_bk0 _) ?_ (by decide) | intro _
theorem bd_after2 (m : Nat) (e : Int × Int) : Bd 0 (after2 m e) := by unfold after2; repeat' first|exact bd_pure _|with_reducible refine bd_ite ?_ ?_|with_reducible refine bd_then (bd_bk0 _) ?_ (by decide) | intro _
theorem bd_tail (r v a : Int) : Bd 4 (tail r v a) := by unfold tail; repeat' first|exact bd_pure _|with_reducible refine bd_then (bd_gt0 _) ?_ (by decide)|with_reducible refine bd_then (bd_pt _ _) ?_ (by decide) | intro _
theorem bd_putIn (P : Pl) (r v : Int) : Bd 7 (putIn P r v) := by unfold putIn; repeat' first|with_reducible refine bd_then (bd_takeP _) ?_ (by decide)|exact (bd_tail _ _ _).mono (by decide)|exact bd_pure _|with_reducible refine bd_ite ?_ ?_|with_reducible refine bd_then (bd_gt0 _) ?_ (by decide)|with_reducible refine bd_then (bd_pt _ _) ?_ (by decide) | intro _
theorem bd_put (P : Pl) (r v : Int) : Bd 7 (put P r v) := by unfold put; repeat' first|with_reducible refine bd_then (bd_putIn _ _ _) ?_ (by decide)|exact (bd_after _ _).mono (by decide)|with_reducible refine bd_then bd_mk0 ?_ (by decide) | intro _
theorem bd_takeIn (P : Pl) (r : Int) : Bd 6 (takeIn P r) := by unfold takeIn; repeat' first|with_reducible refine bd_then (bd_giveP _ _) ?_ (by decide)|exact bd_pure _|with_reducible refine bd_ite ?_ ?_|with_reducible refine bd_then (bd_gt0 _) ?_ (by decide)|with_reducible refine bd_then (bd_pt _ _) ?_ (by decide) | intro _
theorem bd_take (P : Pl) (r : Int) : Bd 6 (take P r) := by unfold take; repeat' first|with_reducible refine bd_then (bd_takeIn _ _) ?_ (by decide)|exact (bd_after2 _ _).mono (by decide)|with_reducible refine bd_then bd_mk0 ?_ (by decide) | intro _
theorem bd_first (r : Int) : Bd 0 (first r) := by unfold first; repeat' first|exact bd_pure _|with_reducible refine bd_ite ?_ ?_|with_reducible refine bd_then (bd_gt0 _) ?_ (by decide) | intro _
theorem bd_len (r : Int) : Bd 0 (len r) := bd_gt0 _
end Qu
end Sim
namespace Go.Proofs.YtgdhcgnmffgkiaaGreatDoor
variable (w0 : World)
open Go.Vc Sim
set_option maxHeartbeats 4000000
abbrev erV (eb : Nat) (e : Int) : Asn := pt eb (.cells (List.toArray [.int .i64 e]) 39 (0, 0))
theorem quUndo (p : Nat) (s : Sp) (m : Nat) (eb : Nat) (e : Int) : FnD PP w0 [] 115 [spP p, .int .i64 m, .pointer (some ⟨eb, 0, none⟩)] [SpaceA p s, erV eb e]
    fun v Γ' => v = .tuple #[] ∧ Γ' = [SpaceA p (if e ≠ 0 then s.back m else s), erV eb e] := by
  refine fnD_of_run en115 fn115 rfl rfl rfl ?_
 
  repeat' first|refine zck ?_|refine zyq ?_|(refine zap rfl ?_;first|refine zab 1 rfl rfl rfl ?_|refine zbp rfl rfl ?_)|refine zp ?_|refine zch ?_
  refine zed rfl (fun hE => ?_) (fun hE => ?_)
  · repeat' first|refine zyq ?_|(refine zap rfl ?_;refine zah [0] (back_spec w0 p s m) rfl rfl rfl zdj rfl ?_)|refine zp ?_|refine zch ?_
    refine run_nil ⟨rfl, ends_none rfl ?_⟩
    rw [if_pos hE]; exact ⟨rfl, rfl⟩
  · repeat' first|refine zcm ?_|(refine zap rfl ?_;first|refine zaj rfl ?_|refine zak rfl ?_|refine zal rfl ?_|refine zam rfl rfl (fun _ => ?_) (fun _ => ?_))|refine zch ?_
    refine run_nil ⟨rfl, ends_none rfl ?_⟩
    rw [if_neg hE]; exact ⟨rfl, rfl⟩
theorem quNode (P : Pl) (hP : P.Ok) (n : Int) : FnE PP w0 [] 116 [poolV P, .int .i64 n] [] (.bool (P.node n)) [] := by
 refine zep en116 fn116 rfl rfl rfl ?_
 refine zyr ?_
 repeat' first|(refine zap rfl ?_;refine zaq (cs := [_, _, _]) rfl (fun nb => ?_))|refine zp ?_|refine zyn ?_
 refine zeb [0] rfl ?_
 repeat' first|refine zck ?_|refine zyq ?_|(refine zap rfl ?_;refine zah [] (node_spec w0 P hP _) rfl rfl rfl zdj rfl ?_)|refine zp ?_|refine zyl 0 rfl ?_|refine zch ?_
 exact zej rfl ⟨rfl, rfl⟩
def quD (p eb : Nat) (m : Nat) : Deferred := { target := .fn (.func 115) #[], args := List.toArray [spP p, .int .i64 m, .pointer (some ⟨eb, 0, none⟩)] }
theorem quLen (p : Nat) (r : Int) : FnG w0 [] 53 [spP p, .int .i64 r] p (Qu.len r) (.int .i64) := by
 intro s hS; have hG := At.start hS; generalize Pg.run _ s = R at hG ⊢
 refine zep en53 fn53 rfl rfl rfl ?_
 unfold Qu.len at hG
 repeat' first|refine zck ?_|refine zyq ?_|(refine zap rfl ?_;first|refine zdu rfl rfl ?_|refine zdk [0] hG (getG w0 p _) rfl rfl rfl zdj (fun x s hG => ?_))|refine zp ?_|refine zch ?_
 rw [hG.done]
 exact zej rfl ⟨rfl, rfl⟩
theorem quFirst (p : Nat) (r : Int) : FnG w0 [] 52 [spP p, .int .i64 r] p (Qu.first r) encI2 := by
 intro s hS; have hG := At.start hS; generalize Pg.run _ s = R at hG ⊢
 refine zep en52 fn52 rfl rfl rfl ?_
 unfold Qu.first at hG
 repeat' first|refine zck ?_|refine zyq ?_|(refine zap rfl ?_;first|refine zdu rfl rfl ?_|refine zdk [0] hG (getG w0 p _) rfl rfl rfl zdj (fun x s hG => ?_)|refine zbo rfl rfl ?_)|refine zp ?_|refine zch ?_
 refine zed rfl (fun hE => ?_) (fun hE => ?_)
 · rw [if_pos hE] at hG
   rw [hG.done]
   repeat' first|refine zck ?_|refine zyq ?_|refine zp ?_|refine zch ?_
   exact zei rfl ⟨rfl, rfl⟩
 · rw [if_neg hE] at hG
   repeat' first|refine zck ?_|refine zcm ?_|refine zyq ?_|(refine zap rfl ?_;first|refine zdu rfl rfl ?_|refine zdk [0] hG (getG w0 p _) rfl rfl rfl zdj (fun x s hG => ?_))|refine zp ?_|refine zch ?_
   rw [hG.done]
   exact zei rfl ⟨rfl, rfl⟩
theorem quPut_fin (p eb m : Nat) (R : Int × Sp) (e : Int) (s : Sp) (ρ : Env) (h8 : ρ 8 = .int .i64 e) (hG : At R (Qu.after m e) s) :
   LeavesS PP w0 [] Tryz.f50 ρ [quD p eb m] [SpaceA p s, erV eb e] (fun v Γ => v = .int .i64 R.1 ∧ Γ = [SpaceA p R.2]) := by
 refine leaves_defer1 [0, 0] (quUndo w0 p s m eb e) rfl rfl zdj ?_
 refine zek (zel [0] rfl (zem rfl h8 ?_))
 refine ⟨rfl, ?_⟩
 unfold Qu.after at hG
 by_cases hE : e ≠ 0
 · rw [if_pos hE] at hG
   rw [hG.step.2.done, if_pos hE]
   exact ⟨rfl, rfl⟩
 · rw [if_neg hE] at hG
   rw [hG.done, if_neg hE]
   exact ⟨rfl, rfl⟩
theorem quPut (p : Nat) (P : Pl) (hP : P.Ok) (r v : Int) : FnG w0 [] 50 [spP p, poolV P, .int .i64 r, .int .i64 v] p (Qu.put P r v) (.int .i64) := by
 intro s hS
 have hG := At.start hS
 generalize Pg.run _ s = R at hG ⊢
 simp only [Qu.put, Qu.putIn, Pg.bind_assoc, Pg.ite_bind, Pg.pure_bind] at hG
 refine zep en50 fn50 rfl rfl rfl ?_
 refine zyr ?_
 repeat' first|(refine zap rfl ?_;refine zaq (cs := [_, _, _]) rfl (fun nb => ?_))|refine zp ?_|refine zyn ?_
 refine zeb [1] rfl ?_
 refine zyr ?_
 repeat' (refine zap rfl ?_;refine zar (fun eb => ?_))
 all_goals refine zyn ?_
 refine zyr ?_
 repeat' first|(refine zap rfl ?_;first|refine zcd rfl rfl ?_|refine zdk [0] hG (markG w0 p) rfl rfl rfl zdj (fun m s hG => ?_))|refine zp ?_|refine zyn ?_
 refine zyr ?_
 repeat' refine zp ?_
 all_goals refine zyn ?_
 refine zyr ?_
 repeat' first|(refine zap rfl ?_;first|refine zdk [0] hG (takeG w0 p P hP) rfl rfl rfl zdj (fun t s hG => ?_)|refine zae 1 rfl rfl rfl rfl rfl rfl rfl ?_)|refine zp ?_|refine zyl 0 rfl ?_|refine zyn ?_
 obtain ⟨a, e⟩ := t
 dsimp only at hG
 refine zyr ?_
 repeat' (refine zap rfl ?_;first|refine zab 1 rfl rfl rfl ?_|refine zbp rfl rfl ?_)
 all_goals refine zyn ?_
 refine zed rfl (fun hE => ?_) (fun hE => ?_)
 · rw [if_pos hE] at hG
   refine zyr ?_
   repeat' first|(refine zap rfl ?_;refine zab 1 rfl rfl rfl ?_)|refine zp ?_|refine zyn ?_
   exact zeg (quPut_fin w0 p eb m R e s _ rfl hG)
 rw [if_neg hE] at hG
 have hE : e = 0 := by simpa using hE
 subst hE
 refine zyr ?_
 repeat' first|(refine zap rfl ?_;first|refine zdu rfl rfl ?_|refine zdk [0] hG (getG w0 p _) rfl rfl rfl zdj (fun en s hG => ?_))|refine zp ?_|refine zyn ?_
 by_cases hn : en = 0
 · subst hn
   rw [if_pos rfl] at hG
   simp only [Qu.tail, Pg.bind_assoc, Pg.pure_bind] at hG
   repeat' first|refine zck ?_|refine zcn ?_|refine zyq ?_|(refine zap rfl ?_;first|refine zdu rfl rfl ?_|refine zab 1 rfl rfl rfl ?_|refine zdk [0] hG (getG w0 p _) rfl rfl rfl zdj (fun x s hG => ?_)|refine zdk [0] hG (putG w0 p _ _) rfl rfl rfl zdj (fun u s hG => ?_)|refine zbc rfl rfl (by omega) ?_)|refine zp ?_|refine zch ?_|refine zci rfl ?_
   exact zeg (quPut_fin w0 p eb m R 0 s _ rfl hG)
 rw [if_neg hn] at hG
 cases hN : P.node en with
 | true =>
   rw [hN, if_pos rfl] at hG
   have kn := quNode w0 P hP en
   rw [hN] at kn
   simp only [Qu.tail, Pg.bind_assoc, Pg.pure_bind] at hG
   repeat' first|refine zck ?_|refine zcn ?_|refine zyq ?_|(refine zap rfl ?_;first|refine zdu rfl rfl ?_|refine zab 1 rfl rfl rfl ?_|refine zah [] kn rfl rfl rfl zdj rfl ?_|refine zdk [0] hG (getG w0 p _) rfl rfl rfl zdj (fun x s hG => ?_)|refine zdk [0] hG (putG w0 p _ _) rfl rfl rfl zdj (fun u s hG => ?_)|refine zbd rfl rfl (by omega) ?_|refine zbx rfl ?_)|refine zp ?_|refine zyl 0 rfl ?_|refine zch ?_|refine zcj rfl ?_
   exact zeg (quPut_fin w0 p eb m R 0 s _ rfl hG)
 | false =>
   rw [hN, if_neg (by decide)] at hG
   have kn := quNode w0 P hP en
   rw [hN] at kn
   try simp only [Pg.pure_bind] at hG
   repeat' first|refine zck ?_|refine zyq ?_|(refine zap rfl ?_;first|refine zab 1 rfl rfl rfl ?_|refine zah [] kn rfl rfl rfl zdj rfl ?_|refine zbd rfl rfl (by omega) ?_|refine zbx rfl ?_|refine zae 1 rfl rfl rfl rfl rfl rfl rfl ?_)|refine zp ?_|refine zyl 0 rfl ?_|refine zch ?_|refine zci rfl ?_|refine zcj rfl ?_
   exact zeg (quPut_fin w0 p eb m R 24 s _ rfl hG)
theorem quTake_fin (p eb m : Nat) (R : (Int × Int) × Sp) (q : Int × Int) (s : Sp) (ρ : Env) (h6 : ρ 6 = .int .i64 q.1) (h7 : ρ 7 = .int .i64 q.2) (hG : At R (Qu.after2 m q) s) :
   LeavesS PP w0 [] Tryz.f51 ρ [quD p eb m] [SpaceA p s, erV eb q.2] (fun v Γ => v = encI2 R.1 ∧ Γ = [SpaceA p R.2]) := by
 refine leaves_defer1 [0, 0] (quUndo w0 p s m eb q.2) rfl rfl zdj ?_
 refine zek (zel [0] rfl (zen rfl h6 h7 ?_))
 refine ⟨rfl, ?_⟩
 unfold Qu.after2 at hG
 by_cases hE : q.2 ≠ 0
 · rw [if_pos hE] at hG
   rw [hG.step.2.done, if_pos hE]
   exact ⟨rfl, rfl⟩
 · rw [if_neg hE] at hG
   rw [hG.done, if_neg hE]
   exact ⟨rfl, rfl⟩
theorem quTake (p : Nat) (P : Pl) (hP : P.Ok) (r : Int) : FnG w0 [] 51 [spP p, poolV P, .int .i64 r] p (Qu.take P r) encI2 := by
 intro s hS
 have hG := At.start hS
 generalize Pg.run _ s = R at hG ⊢
 simp only [Qu.take, Qu.takeIn, Pg.bind_assoc, Pg.ite_bind, Pg.pure_bind] at hG
 refine zep en51 fn51 rfl rfl rfl ?_
 refine zyr ?_
 repeat' first|(refine zap rfl ?_;refine zaq (cs := [_, _, _]) rfl (fun nb => ?_))|refine zp ?_|refine zyn ?_
 refine zeb [1] rfl ?_
 refine zyr ?_
 repeat' (refine zap rfl ?_;refine zar (fun eb => ?_))
 all_goals refine zyn ?_
 refine zyr ?_
 repeat' first|(refine zap rfl ?_;first|refine zcd rfl rfl ?_|refine zdk [0] hG (markG w0 p) rfl rfl rfl zdj (fun m s hG => ?_))|refine zp ?_|refine zyn ?_
 refine zyr ?_
 repeat' first|(refine zap rfl ?_;first|refine zdu rfl rfl ?_|refine zdk [0] hG (getG w0 p _) rfl rfl rfl zdj (fun a s hG => ?_))|refine zp ?_|refine zyn ?_
 by_cases ha : a = 0
 · subst ha
   rw [if_pos rfl] at hG
   refine zyr ?_
   repeat' first|(refine zap rfl ?_;refine zbc rfl rfl (by omega) ?_)|refine zp ?_|refine zyn ?_
   refine zci rfl ?_
   refine zyr ?_
   repeat' (refine zap rfl ?_;refine zae 1 rfl rfl rfl rfl rfl rfl rfl ?_)
   all_goals refine zyn ?_
   refine run_share_keep [1] rfl ?_
   repeat (first|refine zck ?_|refine zcl ?_|refine zcm ?_|refine zcn ?_|refine zco ?_)
   refine zyr ?_
   repeat' first|refine zp ?_|refine zyl 0 rfl ?_|refine zyn ?_
   exact zeg (quTake_fin w0 p eb m R (0, 8) s _ rfl rfl hG)
 rw [if_neg ha] at hG
 have kn := quNode w0 P hP a
 cases hN : P.node a with
 | false =>
   rw [hN, if_neg (by decide)] at hG
   rw [hN] at kn
   refine zyr ?_
   repeat' first|(refine zap rfl ?_;refine zbd rfl rfl (by omega) ?_)|refine zp ?_|refine zyn ?_
   refine zcj rfl ?_
   refine zyr ?_
   repeat' first|(refine zap rfl ?_;first|refine zah [] kn rfl rfl rfl zdj rfl ?_|refine zbx rfl ?_)|refine zp ?_|refine zyl 0 rfl ?_|refine zyn ?_
   refine zci rfl ?_
   refine zyr ?_
   repeat' (refine zap rfl ?_;refine zae 1 rfl rfl rfl rfl rfl rfl rfl ?_)
   all_goals refine zyn ?_
   refine run_share_keep [1] rfl ?_
   repeat (first|refine zck ?_|refine zcl ?_|refine zcm ?_|refine zcn ?_|refine zco ?_)
   refine zyr ?_
   repeat' first|refine zp ?_|refine zyl 0 rfl ?_|refine zyn ?_
   exact zeg (quTake_fin w0 p eb m R (0, 24) s _ rfl rfl hG)
 | true =>
   rw [hN, if_pos rfl] at hG
   rw [hN] at kn
   refine zyr ?_
   repeat' first|(refine zap rfl ?_;refine zbd rfl rfl (by omega) ?_)|refine zp ?_|refine zyn ?_
   refine zcj rfl ?_
   refine zyr ?_
   repeat' first|(refine zap rfl ?_;first|refine zah [] kn rfl rfl rfl zdj rfl ?_|refine zbx rfl ?_)|refine zp ?_|refine zyl 0 rfl ?_|refine zyn ?_
   refine zcj rfl ?_
   refine zyr ?_
   repeat' first|(refine zap rfl ?_;first|refine zdu rfl rfl ?_|refine zdk [0] hG (getG w0 p _) rfl rfl rfl zdj (fun x s hG => ?_))|refine zp ?_|refine zyn ?_
   refine zyr ?_
   repeat' first|(refine zap rfl ?_;first|refine zdk [0] hG (giveG w0 p P hP a) rfl rfl rfl zdj (fun e s hG => ?_)|refine zae 1 rfl rfl rfl rfl rfl rfl rfl ?_)|refine zp ?_|refine zyl 0 rfl ?_|refine zyn ?_
   by_cases hE : e = 0
   rotate_left
   · rw [if_pos hE] at hG
     refine zyr ?_
     repeat' (refine zap rfl ?_;first|refine zab 1 rfl rfl rfl ?_|refine zbe rfl rfl (by omega) ?_)
     all_goals refine zyn ?_
     refine zci rfl ?_
     refine run_share_keep [1] rfl ?_
     repeat (first|refine zck ?_|refine zcl ?_|refine zcm ?_|refine zcn ?_|refine zco ?_)
     refine zyr ?_
     repeat' first|refine zp ?_|refine zyl 0 rfl ?_|refine zyn ?_
     exact zeg (quTake_fin w0 p eb m R (0, e) s _ rfl rfl hG)
   subst hE
   rw [if_neg (fun q => q rfl)] at hG
   refine zyr ?_
   repeat' (refine zap rfl ?_;first|refine zab 1 rfl rfl rfl ?_|refine zbf rfl rfl (by omega) ?_)
   all_goals refine zyn ?_
   refine zcj rfl ?_
   refine zyr ?_
   repeat' first|(refine zap rfl ?_;first|refine zdu rfl rfl ?_|refine zdk [0] hG (putG w0 p _ _) rfl rfl rfl zdj (fun u s hG => ?_))|refine zp ?_|refine zyn ?_
   by_cases hb : x = 0
   · subst hb
     rw [if_pos rfl] at hG
     refine zyr ?_
     repeat' first|(refine zap rfl ?_;refine zbc rfl rfl (by omega) ?_)|refine zp ?_|refine zyn ?_
     refine zci rfl ?_
     refine zyr ?_
     repeat' first|(refine zap rfl ?_;first|refine zdu rfl rfl ?_|refine zdk [0] hG (putG w0 p _ _) rfl rfl rfl zdj (fun u s hG => ?_))|refine zp ?_|refine zyn ?_
     refine zyr ?_
     repeat' first|(refine zap rfl ?_;first|refine zdu rfl rfl ?_|refine zev rfl rfl ?_|refine zdk [0] hG (getG w0 p _) rfl rfl rfl zdj (fun h s hG => ?_)|refine zdk [0] hG (putG w0 p _ _) rfl rfl rfl zdj (fun u s hG => ?_))|refine zp ?_|refine zyn ?_
     refine run_share_keep [1] rfl ?_
     repeat (first|refine zck ?_|refine zcl ?_|refine zcm ?_|refine zcn ?_|refine zco ?_)
     refine zyr ?_
     repeat' first|refine zp ?_|refine zyl 0 rfl ?_|refine zyn ?_
     exact zeg (quTake_fin w0 p eb m R (_, 0) s _ rfl rfl hG)
   · rw [if_neg hb] at hG
     refine zyr ?_
     repeat' first|(refine zap rfl ?_;refine zbd rfl rfl (by omega) ?_)|refine zp ?_|refine zyn ?_
     refine zcj rfl ?_
     refine zyr ?_
     repeat' first|(refine zap rfl ?_;first|refine zdu rfl rfl ?_|refine zev rfl rfl ?_|refine zdk [0] hG (getG w0 p _) rfl rfl rfl zdj (fun h s hG => ?_)|refine zdk [0] hG (putG w0 p _ _) rfl rfl rfl zdj (fun u s hG => ?_))|refine zp ?_|refine zyn ?_
     refine run_share_keep [1] rfl ?_
     repeat (first|refine zck ?_|refine zcl ?_|refine zcm ?_|refine zcn ?_|refine zco ?_)
     refine zyr ?_
     repeat' first|refine zp ?_|refine zyl 0 rfl ?_|refine zyn ?_
     exact zeg (quTake_fin w0 p eb m R (_, 0) s _ rfl rfl hG)
end Go.Proofs.YtgdhcgnmffgkiaaGreatDoor
namespace Sim
open Go Go.Vc
structure Tr where
 pool : Pl
 root : Int
 hash : Int → Int
 has : Int → Bool
structure Tr.Ok (T : Tr) : Prop where
 pool : T.pool.Ok
 r0 : 0 ≤ T.root
 r1 : T.root ≤ 4096
 nodes : T.pool.nodes ≤ 100
 h0 : ∀ n, 0 ≤ T.hash n
 h1 : ∀ n, T.hash n ≤ 18446744073709551615
structure TWay where
 bs : List Int
 cs : List Int
 cell : Int
 depth : Nat
def dig (h : Int) (d : Nat) : Int := h / 8 ^ d % 8
namespace Tr
variable (T : Tr)
def nodeN (n : Int) : Int := if n ≤ 0 ∨ 4096 < n then 0 else n
def nodeB (n : Int) : Bool := if n ≤ 0 ∨ 4096 < n then false else T.pool.node n
def add (c n : Int) : Pg Unit := do
 let v ← Pg.gt (T.root + c)
 let _ ← Pg.pt (T.root + c) (w64 (v + n))
 pure ()
def downK (h : Int) : Nat → TWay → Pg (TWay × Bool)
 | 0, w => pure (w, false)
 | k + 1, w => do
   let x ← Pg.gt w.cell
   if x < 0 then do
     let y ← Pg.gt w.cell
     if T.nodeB (w64 (0 - y)) = true then
       if w.depth = 4 then pure (w, false) else
       downK h k ⟨w.bs ++ [nodeN (w64 (0 - y))], w.cs ++ [w.cell], nodeN (w64 (0 - y)) + dig h w.depth, w.depth + 1⟩
     else pure (w, false)
   else pure (w, true)
def down (h : Int) : Pg (TWay × Bool) := T.downK h 5 ⟨[], [], T.root, 0⟩
def leafK (n : Int) (d : Nat) : Nat → Int → Pg ((Int × Int) × Bool)
 | 0, cell => do
   let x ← Pg.gt cell
   if x = 0 then pure ((cell, 0), true) else do
     let _ ← Pg.gt cell
     pure ((0, 0), false)
 | k + 1, cell => do
   let x ← Pg.gt cell
   if x = 0 then pure ((cell, 0), true) else do
     let y ← Pg.gt cell
     if T.nodeB y = true then do
       let z ← Pg.gt (nodeN y)
       if z = n then pure ((cell, nodeN y), true) else
       if d < 4 then pure ((cell, 0), true) else leafK n d k (nodeN y + 2)
     else pure ((0, 0), false)
def leaf (w : TWay) (n : Int) : Pg ((Int × Int) × Bool) := T.leafK n w.depth T.pool.nodes.toNat w.cell
def get (n h : Int) : Pg (Int × Bool) := do
 let w ← T.down h
 if w.2 = true then do
   let l ← T.leaf w.1 n
   if l.2 = true then
     if l.1.2 = 0 then pure (0, false) else do
       let v ← Pg.gt (l.1.2 + 1)
       pure (v, true)
   else pure (0, false)
 else pure (0, false)
def putsL (a : Int) : Int → List Int → Pg Unit
 | _, [] => pure ()
 | i, v :: l => do
   let _ ← Pg.pt (w64 (a + i)) v
   putsL a (i + 1) l
def take (l : List Int) : Pg (Int × Int) := do
 let t ← T.pool.takeP
 if t.2 ≠ 0 then pure (0, t.2) else do
   let _ ← putsL t.1 0 l
   let _ ← T.add 7 1
   pure (t.1, 0)
def splitK (h : Int) : Nat → TWay → Pg (TWay × Int)
 | 0, w => pure (w, 0)
 | k + 1, w => do
   let x ← Pg.gt w.cell
   if x = 0 then pure (w, 0) else do
     let old ← Pg.gt w.cell
     if T.nodeB old = true then do
       let o ← Pg.gt (nodeN old)
       if T.has o = true then do
         let b ← T.take (List.replicate 8 0)
         if b.2 ≠ 0 then pure (w, b.2) else do
           let _ ← Pg.pt (w64 (b.1 + dig (T.hash o) w.depth)) old
           let _ ← Pg.pt w.cell (w64 (0 - b.1))
           splitK h k { w with cell := w64 (b.1 + dig h w.depth), depth := w.depth + 1 }
       else pure (w, 24)
     else pure (w, 24)
def split (w : TWay) (h : Int) : Pg (TWay × Int) := T.splitK h (4 - w.depth) w
def afterP (m : Nat) (r : (Int × Bool) × Int) : Pg ((Int × Bool) × Int) := if r.2 ≠ 0 then do let _ ← Pg.bk m; pure r else pure r
def newIn (n v : Int) (w : TWay) : Pg ((Int × Bool) × Int) := do
 let x ← Pg.gt w.cell
 let a ← T.take [n, v, x]
 if a.2 ≠ 0 then pure ((0, false), a.2) else do
   let _ ← Pg.pt w.cell a.1
   let _ ← T.add 1 1
   pure ((0, false), 0)
def putIn (n h v : Int) : Pg ((Int × Bool) × Int) := do
 let w ← T.down h
 if w.2 = true then do
   let l ← T.leaf w.1 n
   if l.2 = true then
     if l.1.2 = 0 then do
       let w ← T.split w.1 h
       if w.2 ≠ 0 then pure ((0, false), w.2) else T.newIn n v w.1
     else do
       let was ← Pg.gt (l.1.2 + 1)
       let _ ← Pg.pt (l.1.2 + 1) v
       pure ((was, true), 0)
   else pure ((0, false), 24)
 else pure ((0, false), 24)
def put (n h v : Int) : Pg ((Int × Bool) × Int) := do
 let m ← Pg.mk
 let r ← T.putIn n h v
 afterP m r
def give (a : Int) : Pg Int := do
 let e ← T.pool.giveP a
 if e ≠ 0 then pure e else do
   let _ ← T.add 7 (-1)
   pure 0
def aloneK (b : Int) : Nat → Int → Int → Pg (Int × Bool)
 | 0, _, one =>
   if one = 0 then pure (0, true) else
   if T.nodeB one = true then do
     let x ← Pg.gt (nodeN one + 2)
     pure (one, decide (x = 0))
   else pure (one, false)
 | k + 1, i, one => do
   let x ← Pg.gt (b + i)
   if x < 0 then pure (0, false) else
   if x = 0 then aloneK b k (i + 1) one else
   if one = 0 then aloneK b k (i + 1) x else pure (0, false)
def alone (b : Int) : Pg (Int × Bool) := T.aloneK b 8 0 0
def fold (was : Int) : List (Int × Int) → Pg ((Int × Bool) × Int)
 | [] => pure ((was, true), 0)
 | (b, c) :: l => do
   let o ← T.alone b
   if o.2 = true then do
     let _ ← Pg.pt c o.1
     let e ← T.give b
     if e ≠ 0 then pure ((0, false), e) else fold was l
   else pure ((was, true), 0)
def afterD (m : Nat) (r : (Int × Bool) × Int) : Pg ((Int × Bool) × Int) := if r.2 ≠ 0 then do let _ ← Pg.bk m; pure ((0, false), r.2) else pure r
def dropAt (w : TWay) (cell at_ : Int) : Pg ((Int × Bool) × Int) := do
 let was ← Pg.gt (at_ + 1)
 let x ← Pg.gt (at_ + 2)
 let _ ← Pg.pt cell x
 let e ← T.give at_
 if e ≠ 0 then pure ((0, false), e) else do
   let _ ← T.add 1 (-1)
   T.fold was (w.bs.zip w.cs).reverse
def dropIn (n h : Int) : Pg ((Int × Bool) × Int) := do
 let w ← T.down h
 if w.2 = true then do
   let l ← T.leaf w.1 n
   if l.2 = true then
     if l.1.2 = 0 then pure ((0, false), 0) else T.dropAt w.1 l.1.1 l.1.2
   else pure ((0, false), 24)
 else pure ((0, false), 24)
def drop (n h : Int) : Pg ((Int × Bool) × Int) := do
 let m ← Pg.mk
 let r ← T.dropIn n h
 afterD m r
def len : Pg Int := Pg.gt (T.root + 1)
end Tr
end Sim
namespace Sim
open Go Go.Vc
open Pg
theorem dig_tmod {h : Int} (h0 : 0 ≤ h) (d : Nat) : (h / 2 ^ (3 * d)).tmod 8 = dig h d := by
 have e : (2 : Int) ^ (3 * d) = 8 ^ d := by rw [Int.pow_mul]; rfl
 rw [e, Int.tmod_eq_emod_of_nonneg (Int.ediv_nonneg h0 (Int.le_of_lt (Int.pow_pos (by decide))))]; rfl
theorem dig_bd8 (h : Int) (d : Nat) : 0 ≤ dig h d ∧ dig h d < 8 := by unfold dig; omega
namespace Tr
variable (T : Tr)
theorem bd_add (c n : Int) : Bd 1 (T.add c n) := by unfold Tr.add; repeat' first|exact bd_pure _|with_reducible refine bd_then (bd_gt0 _) ?_ (by decide)|with_reducible refine bd_then (bd_pt _ _) ?_ (by decide) | intro _
theorem bd_downK (h : Int) : ∀ (k : Nat) (w : TWay), Bd 0 (T.downK h k w)
 | 0, _ => trivial
 | k + 1, w => by unfold Tr.downK; repeat' first|exact bd_downK h k _|exact bd_pure _|with_reducible refine bd_ite ?_ ?_|with_reducible refine bd_then (bd_gt0 _) ?_ (by decide) | intro _
theorem bd_down (h : Int) : Bd 0 (T.down h) := T.bd_downK h _ _
theorem bd_leafK (n : Int) (d : Nat) : ∀ (k : Nat) (c : Int), Bd 0 (T.leafK n d k c)
 | 0, _ => by unfold Tr.leafK; repeat' first|exact bd_pure _|with_reducible refine bd_ite ?_ ?_|with_reducible refine bd_then (bd_gt0 _) ?_ (by decide) | intro _
 | k + 1, c => by unfold Tr.leafK; repeat' first|exact bd_leafK n d k _|exact bd_pure _|with_reducible refine bd_ite ?_ ?_|with_reducible refine bd_then (bd_gt0 _) ?_ (by decide) | intro _
theorem bd_leaf (w : TWay) (n : Int) : Bd 0 (T.leaf w n) := T.bd_leafK _ _ _ _
theorem bd_get (n h : Int) : Bd 0 (T.get n h) := by unfold Tr.get; repeat' first|with_reducible refine bd_then (T.bd_down _) ?_ (by decide)|with_reducible refine bd_then (T.bd_leaf _ _) ?_ (by decide)|exact bd_pure _|with_reducible refine bd_ite ?_ ?_|with_reducible refine bd_then (bd_gt0 _) ?_ (by decide) | intro _
theorem bd_putsL (a : Int) : ∀ (l : List Int) (i : Int), Bd l.length (putsL a i l)
 | [], _ => bd_pure _
 | v :: l, i => by
   unfold putsL
   refine bd_then (bd_pt _ _) (fun _ => ?_) (by simp)
   rw [List.length_cons, Nat.add_sub_cancel]
   exact bd_putsL a l (i + 1)
theorem bd_take (l : List Int) (hl : l.length ≤ 8) : Bd 11 (T.take l) := by
 unfold Tr.take
 repeat' first|with_reducible refine bd_then (bd_takeP _) ?_ (by decide)|with_reducible refine bd_then ((bd_putsL _ l _).mono hl) ?_ (by decide)|with_reducible refine bd_then (T.bd_add _ _) ?_ (by decide)|exact bd_pure _|with_reducible refine bd_ite ?_ ?_ | intro _
theorem bd_splitK (h : Int) : ∀ (k : Nat) (w : TWay), Bd (13 * k) (T.splitK h k w)
 | 0, _ => bd_pure _
 | k + 1, w => by
   unfold Tr.splitK
   refine bd_then (bd_gt0 _) (fun _ => bd_ite (bd_pure _) (bd_then (bd_gt0 _) (fun _ => bd_ite (bd_then (bd_gt0 _) (fun _ => bd_ite (bd_then (T.bd_take _ (by decide)) (fun _ => bd_ite (bd_pure _) (bd_then (bd_pt _ _) (fun _ => bd_then (bd_pt _ _) (fun _ => (bd_splitK h k _).mono (by omega)) (by omega)) (by omega))) (by omega)) (bd_pure _)) (by omega)) (bd_pure _)) (by omega))) (by omega)
theorem bd_split (w : TWay) (h : Int) : Bd 52 (T.split w h) := (T.bd_splitK h _ w).mono (by omega)
theorem bd_newIn (n v : Int) (w : TWay) : Bd 13 (T.newIn n v w) := by
 unfold Tr.newIn
 repeat' first|with_reducible refine bd_then (T.bd_take _ (Nat.le_of_ble_eq_true rfl)) ?_ (by decide)|with_reducible refine bd_then (T.bd_add _ _) ?_ (by decide)|exact bd_pure _|with_reducible refine bd_ite ?_ ?_|with_reducible refine bd_then (bd_gt0 _) ?_ (by decide)|with_reducible refine bd_then (bd_pt _ _) ?_ (by decide) | intro _
theorem bd_putIn (n h v : Int) : Bd 65 (T.putIn n h v) := by
 unfold Tr.putIn
 repeat' first|exact T.bd_newIn _ _ _|with_reducible refine bd_then (T.bd_down _) ?_ (by decide)|with_reducible refine bd_then (T.bd_leaf _ _) ?_ (by decide)|with_reducible refine bd_then (T.bd_split _ _) ?_ (by decide)|exact bd_pure _|with_reducible refine bd_ite ?_ ?_|with_reducible refine bd_then (bd_gt0 _) ?_ (by decide)|with_reducible refine bd_then (bd_pt _ _) ?_ (by decide) | intro _
theorem bd_afterP (m : Nat) (r : (Int × Bool) × Int) : Bd 0 (afterP m r) := by unfold Tr.afterP; repeat' first|exact bd_pure _|with_reducible refine bd_ite ?_ ?_|with_reducible refine bd_then (bd_bk0 _) ?_ (by decide) | intro _
theorem bd_put (n h v : Int) : Bd 65 (T.put n h v) := by
 unfold Tr.put
 repeat' first|exact (bd_afterP _ _).mono (by decide)|with_reducible refine bd_then (T.bd_putIn _ _ _) ?_ (by decide)|with_reducible refine bd_then bd_mk0 ?_ (by decide) | intro _
theorem bd_give (a : Int) : Bd 4 (T.give a) := by
 unfold Tr.give
 repeat' first|with_reducible refine bd_then (bd_giveP _ _) ?_ (by decide)|with_reducible refine bd_then (T.bd_add _ _) ?_ (by decide)|exact bd_pure _|with_reducible refine bd_ite ?_ ?_ | intro _
theorem bd_aloneK (b : Int) : ∀ (k : Nat) (i one : Int), Bd 0 (T.aloneK b k i one)
 | 0, _, _ => by unfold Tr.aloneK; repeat' first|exact bd_pure _|with_reducible refine bd_ite ?_ ?_|with_reducible refine bd_then (bd_gt0 _) ?_ (by decide) | intro _
 | k + 1, i, one => by unfold Tr.aloneK; repeat' first|exact bd_aloneK b k _ _|exact bd_pure _|with_reducible refine bd_ite ?_ ?_|with_reducible refine bd_then (bd_gt0 _) ?_ (by decide) | intro _
theorem bd_alone (b : Int) : Bd 0 (T.alone b) := T.bd_aloneK _ _ _ _
theorem bd_fold (was : Int) : ∀ (l : List (Int × Int)), Bd (5 * l.length) (T.fold was l)
 | [] => bd_pure _
 | (b, c) :: l => by
   unfold Tr.fold
   rw [List.length_cons]
   refine bd_then (T.bd_alone _) (fun _ => bd_ite (bd_then (bd_pt _ _) (fun _ => bd_then (T.bd_give _) (fun _ => bd_ite (bd_pure _) ((bd_fold was l).mono (by omega))) (by omega)) (by omega)) (bd_pure _)) (by omega)
def WayOk (w : TWay) : Prop := w.bs.length = w.depth ∧ w.cs.length = w.depth ∧ w.depth ≤ 4 ∧ 0 ≤ w.cell ∧ w.cell ≤ 5000 ∧ (∀ b ∈ w.bs, 0 ≤ b ∧ b ≤ 5000)
theorem nodeN_bd (v : Int) : 0 ≤ nodeN v ∧ nodeN v ≤ 4096 := by unfold nodeN; split <;> omega
theorem wayOk_next {w : TWay} (hw : WayOk w) (h4 : w.depth ≠ 4) (v h : Int) : WayOk ⟨w.bs ++ [nodeN v], w.cs ++ [w.cell], nodeN v + dig h w.depth, w.depth + 1⟩ := by
 obtain ⟨h1, h2, h3, h5, h6, h7⟩ := hw
 have := nodeN_bd v
 have := dig_bd8 h w.depth
 refine ⟨by simp [h1], by simp [h2], by dsimp only; omega, by dsimp only; omega, by dsimp only; omega, fun b hb => ?_⟩
 rcases List.mem_append.1 hb with hb | hb
 · exact h7 b hb
 · simp at hb; subst hb; omega
theorem all_downK (h : Int) : ∀ (k : Nat) (w : TWay), WayOk w → All (fun r => WayOk r.1) (T.downK h k w)
 | 0, w, hw => all_pure hw
 | k + 1, w, hw => by
   unfold Tr.downK
   refine all_then fun x => ?_
   refine all_ite (fun _ => ?_) fun _ => all_pure hw
   refine all_then fun y => ?_
   refine all_ite (fun _ => ?_) fun _ => all_pure hw
   refine all_ite (fun _ => all_pure hw) fun h4 => ?_
   exact all_downK h k _ (wayOk_next hw h4 _ h)
theorem all_down (hT : T.Ok) (h : Int) : All (fun r => WayOk r.1) (T.down h) := T.all_downK h 5 _ ⟨rfl, rfl, Nat.zero_le 4, hT.r0, by have := hT.r1; dsimp only; omega, fun b hb => by cases hb⟩
def LeafOk (r : (Int × Int) × Bool) : Prop := 0 ≤ r.1.1 ∧ r.1.1 ≤ 5000 ∧ 0 ≤ r.1.2 ∧ r.1.2 ≤ 5000
theorem leafOk0 : LeafOk ((0, 0), false) := ⟨Int.le_refl 0, by decide, Int.le_refl 0, by decide⟩
theorem leafOk1 {c : Int} (hc : 0 ≤ c ∧ c ≤ 5000) : LeafOk ((c, 0), true) := ⟨hc.1, hc.2, Int.le_refl 0, (by decide : (0 : Int) ≤ 5000)⟩
theorem all_leafK (n : Int) (d : Nat) : ∀ (k : Nat) (c : Int), 0 ≤ c ∧ c ≤ 5000 → All LeafOk (T.leafK n d k c)
 | 0, c, hc => by
   unfold Tr.leafK
   refine all_then fun x => ?_
   refine all_ite (fun _ => all_pure (leafOk1 hc)) fun _ => ?_
   exact all_then fun _ => all_pure leafOk0
 | k + 1, c, hc => by
   unfold Tr.leafK
   refine all_then fun x => ?_
   refine all_ite (fun _ => all_pure (leafOk1 hc)) fun _ => ?_
   refine all_then fun y => ?_
   have := nodeN_bd y
   refine all_ite (fun _ => ?_) fun _ => all_pure leafOk0
   refine all_then fun z => ?_
   refine all_ite (fun _ => all_pure ⟨hc.1, hc.2, by dsimp only; omega, by dsimp only; omega⟩) fun _ => ?_
   exact all_ite (fun _ => all_pure (leafOk1 hc)) fun _ => all_leafK n d k _ (by omega)
theorem all_leaf (w : TWay) (hw : WayOk w) (n : Int) : All LeafOk (T.leaf w n) := T.all_leafK _ _ _ _ ⟨hw.2.2.2.1, hw.2.2.2.2.1⟩
end Tr
end Sim
namespace Go.Proofs.YtgdhcgnmffgkiaaGreatDoor
variable (w0 : World)
open Go.Vc Sim
set_option maxHeartbeats 4000000
abbrev FnX {α : Type} (w0 : World) (sh : Shared) (f : FuncId) (args : List Value) (p : Nat) (g : Pg α) (Γ0 : List Asn) (R : α → Value → List Asn → Prop) : Prop :=
 ∀ s, Pg.Fits g s → Vc.Fn PP w0 sh f args (SpaceA p s :: Γ0) fun v Γ => ∃ Γ1, Γ = SpaceA p (Pg.run g s).2 :: Γ1 ∧ R (Pg.run g s).1 v Γ1
section
variable {w0 : World} {n : Nat} {sh shf : Shared} {Q : Exit → Env → List Deferred → List Asn → Prop} {k : List Item} {ρ : Env} {df : List Deferred} {Γ Γr Γ0 : List Asn}
variable {ops : Array Oper} {l : List (Fl × Nat × Oper)} {i : Nat} {ty : TypeId} {pos : String} {aft : Array Edge} {dst : Option Tmp}
variable {f : FuncId} {args : List Value} {fo : Operand} {cargs : Array Operand} {ats : Array TypeId} {first cap : Array Value}
theorem reg_callX (is : List Nat) {α β : Type} {R : β × Sp} {g : Pg α} {kk : α → Pg β} {s : Sp} {p : Nat} {RR : α → Value → List Asn → Prop} {φ : α → Prop} (hG : At R (g >>= kk) s) (hφ : Pg.All φ g) (spec : FnX w0 shf f args p g Γ0 RR)
   (hfo : ev ρ fo = .func (.func f) first cap) (hargs : first.toList ++ cargs.toList.map (ev ρ) ++ cap.toList = args)
   (hp : pick is Γ = some (SpaceA p s :: Γ0, Γr)) (hsh : ∀ p ∈ shf, p ∈ sh) (h : ∀ x s' v Γ1, φ x → RR x v Γ1 → At R (kk x) s' → Reg PP w0 n sh Q ops l k (ρ.setO dst v) df (SpaceA p s' :: Γ1 ++ Γr)) :
   Reg PP w0 n sh Q ops ((Fl.loud, i, ⟨dst, .call ⟨.value fo, cargs, ats⟩, ty, pos, aft, none⟩) :: l) k ρ df Γ :=
 zai is (spec s hG.step.1) hfo hargs hp hsh (fun v Γ' ⟨Γ1, e1, e2⟩ => by subst e1; exact h _ _ v Γ1 (Pg.all_run hφ) e2 hG.step.2)
theorem reg_dig {b : Fl} {x y : Operand} {t t2 : TypeId} {d : Tmp} {h : Int} {q : Nat} {l : List (Fl × Nat × Oper)} (hh : 0 ≤ h) (hx : ev ρ x = .int .u64 (h / 2 ^ (3 * q))) (hy : ev ρ y = .int .u64 8) (hr : Reg PP w0 n sh Q ops l k (ρ.set d (.int .u64 (dig h q))) df Γ) :
   Reg PP w0 n sh Q ops ((b, i, ⟨some d, .binOp .rem t x y t2, ty, pos, aft, none⟩) :: l) k ρ df Γ :=
 reg_rem hx hy (by decide) (by rw [dig_tmod hh]; exact hr)
end
instance : TMeth PP 105 (.agg #[]) "Num" 304 := ⟨fun w => by kernel_rfl⟩
instance : TMeth PP 105 (.agg #[]) "Key" 303 := ⟨fun w => by kernel_rfl⟩
instance : TMeth PP 105 (.agg #[]) "Hash" 302 := ⟨fun w => by kernel_rfl⟩
def kV : Value := .iface 105 (.agg #[])
def trV (T : Tr) : Value := .agg #[kV, .int .i64 T.pool.root, .int .i64 T.pool.frm, .int .i64 T.pool.nodes, .int .i64 T.root]
theorem trNode (T : Tr) (hT : T.Ok) (v : Int) : FnE PP w0 [] 270 [trV T, .int .i64 v] [] (.tuple #[.int .i64 (Tr.nodeN v), .bool (T.nodeB v)]) [] := by
 refine zep en270 fn270 rfl rfl rfl ?_
 refine zyr ?_
 repeat' first|(refine zap rfl ?_;refine zaq (cs := [_, _, _, _, _]) rfl (fun nb => ?_))|refine zp ?_|refine zyn ?_
 refine zeb [0] rfl ?_
 repeat' first|refine zck ?_|refine zcm ?_|refine zyq ?_|(refine zap rfl ?_;first|refine zaj rfl ?_|refine zak rfl ?_|refine zam rfl rfl (fun _ => ?_) (fun _ => ?_)|refine zah [] (node_spec w0 T.pool hT.pool _) rfl rfl rfl zdj rfl ?_|refine zbr rfl rfl ?_|refine zbs rfl rfl ?_|refine zbu rfl ?_|refine zbv rfl ?_)|refine zp ?_|refine zyl 0 rfl ?_|refine zyf rfl ?_|refine zch ?_|refine zci rfl ?_|refine zed rfl (fun _ => ?_) (fun _ => ?_)
 all_goals refine zei rfl ⟨?_, rfl⟩
 all_goals unfold Tr.nodeN Tr.nodeB
 all_goals first|rw [if_pos (by omega), if_pos (by omega)]|rw [if_neg (by omega), if_neg (by omega)]
 all_goals rfl
theorem trAdd (p : Nat) (T : Tr) (hT : T.Ok) (c m : Int) (hc : 0 ≤ c ∧ c ≤ 7) : FnG w0 [] 127 [trV T, spP p, .int .i64 c, .int .i64 m] p (T.add c m) encU := by
 have h1 := hT.r0
 have h2 := hT.r1
 intro s hS; have hG := At.start hS; generalize Pg.run _ s = R at hG ⊢
 refine zep en127 fn127 rfl rfl rfl ?_
 refine zyr ?_
 repeat' (refine zap rfl ?_;refine zaq (cs := [_, _, _, _, _]) rfl (fun nb => ?_))
 all_goals refine zyn ?_
 refine zeb [1] rfl ?_
 repeat' first|refine zyq ?_|(refine zap rfl ?_;first|refine zdu (t := 2) rfl rfl ?_|refine zdk [0] hG (getG w0 p _) rfl rfl rfl zdj (fun u s hG => ?_)|refine zdk [0] hG (putG w0 p _ _) rfl rfl rfl zdj (fun u s hG => ?_)|refine zau rfl rfl (by omega) ?_)|refine zp ?_|refine zyl 0 rfl ?_|refine zyf rfl ?_|refine zch ?_
 rw [hG.done]
 exact end_tmp0 rfl ⟨rfl, rfl⟩
def wayV (a1 : Option Addr) (c1 : Nat) (a2 : Option Addr) (c2 : Nat) (w : TWay) : Value := .agg #[.slice a1 w.bs.length c1, .slice a2 w.cs.length c2, .int .i64 w.cell, .int .i64 (w.depth : Int)]
def WayA (a1 : Option Addr) (c1 : Nat) (a2 : Option Addr) (c2 : Nat) (w : TWay) : List Asn := [SlA 34 1 a1 w.bs.length c1 (intsV w.bs), SlA 34 1 a2 w.cs.length c2 (intsV w.cs)]
def wayR (r : TWay × Bool) (v : Value) (Γ : List Asn) : Prop := ∃ a1 c1 a2 c2, v = .tuple #[wayV a1 c1 a2 c2 r.1, .bool r.2] ∧ Γ = WayA a1 c1 a2 c2 r.1
theorem trDown (p : Nat) (T : Tr) (hT : T.Ok) (h : Int) (hh : 0 ≤ h) : FnX w0 [] 123 [trV T, spP p, .int .u64 h] p (T.down h) [] wayR := by
 have h1 := hT.r0
 have h2 := hT.r1
 intro s hS; have hG := At.start hS; generalize Pg.run _ s = R at hG ⊢
 unfold Tr.down at hG
 refine zep en123 fn123 rfl rfl rfl ?_
 refine zyr ?_
 repeat' first|(refine zap rfl ?_;first|refine zaq (cs := [_, _, _, _, _]) rfl (fun nb => ?_)|refine zar (fun nb => ?_))|refine zp ?_|refine zyn ?_
 rename_i tb
 revert nb; intro rb
 refine zeb [1] rfl ?_
 refine zyr ?_
 repeat' first|(refine zap rfl ?_;first|refine zae 2 rfl rfl rfl rfl rfl rfl rfl ?_|refine zar (fun nb => ?_)|refine zcb rfl ?_)|refine zyl 0 rfl ?_|refine zyf rfl ?_|refine zyn ?_
 refine run_nilslice 34 1 ?_
 refine run_nilslice 34 1 ?_
 refine run_loop (S := Nat × TWay × Sp × (Option Addr × Nat) × (Option Addr × Nat)) (fun st => [(1, spP p), (2, .int .u64 h), (3, .pointer (some ⟨tb, 0, none⟩)), (6, .pointer (some ⟨rb, 0, none⟩)), (8, .pointer (some ⟨nb, 0, none⟩))])
   (fun st Γ => Γ = [SpaceA p st.2.2.1, pt rb (.cells (List.toArray [.slice none 0 0, .slice none 0 0, .int .i64 0, .int .i64 0]) 167 (0, 0)), pt nb (.cells (List.toArray [.slice st.2.2.2.1.1 st.2.1.bs.length st.2.2.2.1.2, .slice st.2.2.2.2.1 st.2.1.cs.length st.2.2.2.2.2, .int .i64 st.2.1.cell, .int .i64 (st.2.1.depth : Int)]) 167 (0, 0)), SlA 34 1 st.2.2.2.1.1 st.2.1.bs.length st.2.2.2.1.2 (intsV st.2.1.bs), SlA 34 1 st.2.2.2.2.1 st.2.1.cs.length st.2.2.2.2.2 (intsV st.2.1.cs)] ∧ At R (T.downK h st.1 st.2.1) st.2.2.1 ∧ st.1 + st.2.1.depth = 5 ∧ Tr.WayOk st.2.1)
   (fun st => st.1) (5, ⟨[], [], T.root, 0⟩, s, (none, 0), (none, 0)) ⟨rfl, rfl, rfl, rfl, rfl, trivial⟩ ⟨rfl, hG, rfl, ⟨rfl, rfl, Nat.zero_le 4, h1, by dsimp only; omega, fun b hb => by cases hb⟩⟩ ?_
 rintro ⟨k, w, s, ⟨a1, c1⟩, ⟨a2, c2⟩⟩ Γ junk ⟨rfl, hG, hk, hw⟩
 dsimp only at hG hk hw ⊢
 obtain ⟨k, rfl⟩ : ∃ q, k = q + 1 := ⟨k - 1, by have := hw.2.2.1; omega⟩
 rw [Tr.downK] at hG
 refine zyr ?_
 repeat' first|(refine zap rfl ?_;first|refine zab 2 rfl rfl rfl ?_|refine zdk [0] hG (getG w0 p _) rfl rfl rfl zdj (fun u s hG => ?_)|refine zbq rfl rfl ?_)|refine zp ?_|refine zyf rfl ?_|refine zyn ?_
 refine zed rfl (fun hx => ?_) (fun hx => ?_)
 · rw [if_pos hx] at hG
   refine zyx ?_
   first|refine zcp (by kernel_rfl) ?_|refine zcr [(.quiet, 0), (.quiet, 1), (.quiet, 2), (.read, 3), (.loud, 4), (.quiet, 5), (.loud, 6), (.quiet, 7), (.quiet, 8), (.quiet, 9), (.quiet, 10), (.quiet, 11)] PP_mixed (by kernel_rfl) (by kernel_rfl) ?_|refine zeh PP_mixed (by kernel_rfl) (by kernel_rfl) ?_
   repeat' first|(refine zap rfl ?_;first|refine reg_neg rfl ?_|refine zab 2 rfl rfl rfl ?_|refine zdk [0] hG (getG w0 p _) rfl rfl rfl zdj (fun v s hG => ?_)|refine zah [] (trNode w0 T hT _) rfl rfl rfl zdj rfl ?_)|refine zp ?_|refine zyl 0 rfl ?_|refine zyf rfl ?_|refine zyn ?_
   generalize hb : T.nodeB (w64 (0 - v)) = b at hG
   have hb' : T.nodeB (IntKind.i64.wrap (0 - v)) = b := hb
   rw [hb']
   have hnb := Tr.nodeN_bd (IntKind.i64.wrap (0 - v))
   cases b with
   | false =>
     simp only [Bool.false_eq_true, if_false] at hG
     rw [hG.done]
     repeat' first|refine zck ?_|refine zyq ?_|(refine zap rfl ?_;first|refine zak rfl ?_|refine zab 2 rfl rfl rfl ?_|refine zbx rfl ?_|refine zbu rfl ?_|refine zae 1 rfl rfl rfl rfl rfl rfl rfl ?_)|refine zp ?_|refine zch ?_|refine zci rfl ?_
     exact qret rfl (fun _ _ h => h) (zek (zel [0, 2, 2] rfl (zen rfl (zeo 1 rfl rfl rfl) rfl ⟨rfl, _, rfl, a1, c1, a2, c2, rfl, rfl⟩)))
   | true =>
     simp only [if_true] at hG
     by_cases h4 : w.depth = 4
     · rw [if_pos h4] at hG
       rw [hG.done]
       repeat' first|refine zck ?_|refine zyq ?_|(refine zap rfl ?_;first|refine zaj rfl ?_|refine zab 2 rfl rfl rfl ?_|refine zbc rfl rfl (by omega) ?_|refine zbx rfl ?_|refine zbv rfl ?_|refine zae 1 rfl rfl rfl rfl rfl rfl rfl ?_)|refine zp ?_|refine zyf rfl ?_|refine zch ?_|refine zci rfl ?_
       exact qret rfl (fun _ _ h => h) (zek (zel [0, 2, 2] rfl (zen rfl (zeo 1 rfl rfl rfl) rfl ⟨rfl, _, rfl, a1, c1, a2, c2, rfl, rfl⟩)))
     · rw [if_neg h4] at hG
       have hdb := dig_bd8 h w.depth
       obtain ⟨hw1, hw2, hwd, hw4, hw5, hw6⟩ := id hw
       refine zyr ?_
       repeat' first|(refine zap rfl ?_;first|refine zaj rfl ?_|refine zab 2 rfl rfl rfl ?_|refine zbd rfl rfl (by omega) ?_|refine zbx rfl ?_|refine zbv rfl ?_)|refine zp ?_|refine zyf rfl ?_|refine zyn ?_
       refine zcj rfl ?_
       refine zyx ?_
       refine run_drawT [2] [(.quiet, 0), (.quiet, 1), (.quiet, 2), (.loud, 3), (.loud, 4), (.quiet, 5), (.quiet, 6), (.quiet, 7), (.quiet, 8), (.loud, 9), (.loud, 10), (.quiet, 11)] [(.loud, 12), (.quiet, 13), (.loud, 14)] PP_mixed (by kernel_rfl) (by kernel_rfl) rfl ?_
       repeat' first|(refine zap rfl ?_;first|refine zdt rfl rfl rfl rfl rfl rfl (fun nb2 => ?_)|refine zdz 2 4 rfl rfl rfl rfl rfl rfl rfl rfl (by first | omega | (dsimp only; omega)) (fun _ _ => rfl) (fun a1' c1' => ?_)|refine zdz 3 5 rfl rfl rfl rfl rfl rfl rfl rfl (by first | omega | (dsimp only; omega)) (fun _ _ => rfl) (fun a2' c2' => ?_))|refine zp ?_|refine zyl 0 rfl ?_|refine zyf rfl ?_
       all_goals refine reg_turn ?_
       all_goals repeat' (refine zap rfl ?_;first|refine zao rfl ?_|refine zae 0 rfl rfl rfl rfl rfl rfl rfl ?_)
       all_goals refine zyn ?_
       repeat' first|refine zcn ?_|refine zyq ?_|(refine zap rfl ?_;first|refine reg_shr (q := 3 * w.depth) rfl (zes (by omega)) (by show 3 * w.depth ≤ 64; omega) ?_|refine reg_dig (q := w.depth) hh rfl rfl ?_|refine zab 0 rfl rfl rfl ?_|refine zae 0 rfl rfl rfl rfl rfl rfl rfl ?_|refine zau rfl rfl (by omega) ?_|refine zaw rfl rfl (by omega) ?_|refine zbz rfl (by omega) ?_)|refine zp ?_|refine zyf rfl ?_|refine zch ?_
       refine zec [1, 1, 0, 0, 0] rfl ?_
       have e1 : intsV (w.bs ++ [Tr.nodeN (w64 (0 - v))]) = intsV w.bs ++ [.int .i64 (Tr.nodeN (w64 (0 - v)))] := by simp [intsV]
       have e2 : intsV (w.cs ++ [w.cell]) = intsV w.cs ++ [.int .i64 w.cell] := by simp [intsV]
       have e3 : ((w.depth + 1 : Nat) : Int) = (w.depth : Int) + 1 := by omega
       refine zeq ⟨rfl, (k, ⟨w.bs ++ [Tr.nodeN (w64 (0 - v))], w.cs ++ [w.cell], Tr.nodeN (w64 (0 - v)) + dig h w.depth, w.depth + 1⟩, s, (a1', c1'), (a2', c2')), ⟨rfl, rfl, rfl, rfl, rfl, trivial⟩, ⟨?_, hG, by dsimp only; omega, Tr.wayOk_next hw h4 _ h⟩, Nat.lt_succ_self k⟩
       dsimp only
       rw [e1, e2, e3, List.length_append, List.length_append]
       rfl
 · rw [if_neg hx] at hG
   rw [hG.done]
   refine zer rfl rfl ?_
   refine zyr ?_
   repeat' first|(refine zap rfl ?_;first|refine zab 2 rfl rfl rfl ?_|refine zae 1 rfl rfl rfl rfl rfl rfl rfl ?_)|refine zp ?_|refine zyn ?_
   exact zeg (zek (zel [0, 2, 2] rfl (zen rfl (zeo 1 rfl rfl rfl) rfl ⟨rfl, _, rfl, a1, c1, a2, c2, rfl, rfl⟩)))
end Go.Proofs.YtgdhcgnmffgkiaaGreatDoor
namespace Sim
open Go
def hsI (n : Int) : Int := IntKind.u64.wrap ((BitVec.ofInt 64 (IntKind.u64.wrap (IntKind.u64.wrap n * 11400714819323198485)) ^^^ BitVec.ofInt 64 (IntKind.u64.wrap (IntKind.u64.wrap n * 11400714819323198485) / 2 ^ 32)).toNat : Nat)
theorem hsI_in (n : Int) : 0 ≤ hsI n ∧ hsI n ≤ 18446744073709551615 := by unfold hsI; rw [IntKind.wrap_u64]; omega
structure Tr.IsI (T : Tr) : Prop where
 hash : T.hash = hsI
 has : ∀ n, T.has n = true
end Sim
namespace Go.Proofs.YtgdhcgnmffgkiaaGreatDoor
variable (w0 : World)
open Go.Vc Sim
set_option maxHeartbeats 4000000
def encVB (r : Int × Bool) : Value := .tuple #[.int .i64 r.1, .bool r.2]
def encLf (r : (Int × Int) × Bool) : Value := .tuple #[.int .i64 r.1.1, .int .i64 r.1.2, .bool r.2]
theorem trLeaf (p : Nat) (T : Tr) (hT : T.Ok) (w : TWay) (hw : Tr.WayOk w) (a1 : Option Addr) (c1 : Nat) (a2 : Option Addr) (c2 : Nat) (n : Int) : FnG w0 [] 124 [trV T, spP p, wayV a1 c1 a2 c2 w, .int .i64 n] p (T.leaf w n) encLf := by
 obtain ⟨hw1, hw2, hw3, hw4, hw5, hw6⟩ := id hw
 have hN0 := hT.pool.2.2.2.2.2.1
 have hN1 := hT.nodes
 obtain ⟨N, hN⟩ : ∃ N : Nat, T.pool.nodes = (N : Int) := ⟨T.pool.nodes.toNat, by omega⟩
 have hNt : T.pool.nodes.toNat = N := by omega
 intro s hS; have hG := At.start hS; generalize Pg.run _ s = R at hG ⊢
 unfold Tr.leaf at hG
 rw [hNt] at hG
 refine zep en124 fn124 rfl rfl rfl ?_
 refine zyr ?_
 repeat' first|(refine zap rfl ?_;first|refine zaq (cs := [_, _, _, _]) rfl (fun nb => ?_)|refine zaq (cs := [_, _, _, _, _]) rfl (fun nb => ?_))|refine zp ?_|refine zyn ?_
 rename_i tb
 revert nb; intro wb
 refine zeb [1] rfl ?_
 refine zeb [1] rfl ?_
 refine zyr ?_
 repeat' first|refine zp ?_|refine zyl 0 rfl ?_|refine zyf rfl ?_|refine zyn ?_
 refine zyr ?_
 repeat' refine zp ?_
 all_goals refine zyn ?_
 refine run_loop (S := Nat × Int × Sp) (fun st => [(1, spP p), (3, .int .i64 n), (4, .pointer (some ⟨tb, 0, none⟩)), (6, .pointer (some ⟨wb, 0, none⟩)), (11, .int .i64 st.2.1), (12, .int .i64 (st.1 : Int))])
   (fun st Γ => Γ = [SpaceA p st.2.2] ∧ At R (T.leafK n w.depth (N - st.1) st.2.1) st.2.2 ∧ st.1 ≤ N)
   (fun st => N - st.1) (0, w.cell, s) ⟨rfl, rfl, rfl, rfl, rfl, rfl, trivial⟩ ⟨rfl, hG, Nat.zero_le _⟩ ?_
 rintro ⟨i, c, s⟩ Γ junk ⟨rfl, hG, hi⟩
 dsimp only at hG hi ⊢
 by_cases hlt : i < N
 · obtain ⟨k, hk⟩ : ∃ k, N - i = k + 1 := ⟨N - i - 1, by omega⟩
   rw [hk, Tr.leafK] at hG
   refine zyr ?_
   repeat' first|(refine zap rfl ?_;first|refine zdk [0] hG (getG w0 p _) rfl rfl rfl zdj (fun x s hG => ?_)|refine zbp rfl rfl ?_)|refine zp ?_|refine zyn ?_
   refine zed rfl (fun hx => ?_) (fun hx => ?_)
   · rw [if_neg hx] at hG
     refine zyr ?_
     repeat' first|(refine zap rfl ?_;first|refine zdk [0] hG (getG w0 p _) rfl rfl rfl zdj (fun v s hG => ?_)|refine zah [] (trNode w0 T hT _) rfl rfl rfl zdj rfl ?_)|refine zp ?_|refine zyl 1 rfl ?_|refine zyn ?_
     have hnb := Tr.nodeN_bd v
     generalize hb : T.nodeB v = b at hG ⊢
     cases b with
     | false =>
       simp only [Bool.false_eq_true, if_false] at hG
       rw [hG.done]
       repeat' first|refine zck ?_|refine zyq ?_|(refine zap rfl ?_;first|refine zak rfl ?_|refine zbx rfl ?_|refine zbu rfl ?_)|refine zp ?_|refine zch ?_|refine zci rfl ?_
       exact qret3 (fun _ _ h => h) rfl ⟨rfl, rfl⟩
     | true =>
       simp only [if_true] at hG
       refine zyr ?_
       repeat' first|(refine zap rfl ?_;first|refine zaj rfl ?_|refine zbn rfl rfl (by omega) ?_|refine zbx rfl ?_|refine zbv rfl ?_)|refine zp ?_|refine zyl 1 rfl ?_|refine zyf rfl ?_|refine zyn ?_
       refine zcj rfl ?_
       refine zyr ?_
       repeat' first|(refine zap rfl ?_;first|refine zdk [0] hG (getG w0 p _) rfl rfl rfl zdj (fun u s hG => ?_)|refine zbo rfl rfl ?_)|refine zp ?_|refine zyn ?_
       refine zed rfl (fun hz => ?_) (fun hz => ?_)
       · rw [if_pos hz] at hG
         rw [hG.done]
         repeat' first|refine zck ?_|refine zyq ?_|refine zp ?_|refine zch ?_
         exact qret3 (fun _ _ h => h) rfl ⟨rfl, rfl⟩
       · rw [if_neg hz] at hG
         by_cases h4 : w.depth < 4
         · rw [if_pos h4] at hG
           rw [hG.done]
           refine zyr ?_
           repeat' first|(refine zap rfl ?_;refine zbg rfl rfl (by omega) ?_)|refine zyl 0 rfl ?_|refine zyf rfl ?_|refine zyn ?_
           refine zci rfl ?_
           refine zer rfl rfl ?_
           repeat' first|refine zck ?_|refine zyq ?_|refine zp ?_|refine zch ?_
           exact ret_tmp3 rfl ⟨rfl, rfl⟩
         · rw [if_neg h4] at hG
           refine zyr ?_
           repeat' first|(refine zap rfl ?_;refine zbh rfl rfl (by omega) ?_)|refine zyl 0 rfl ?_|refine zyf rfl ?_|refine zyn ?_
           refine zcj rfl ?_
           repeat' first|refine zcm ?_|refine zcn ?_|refine zyq ?_|(refine zap rfl ?_;refine zau rfl rfl (by omega) ?_)|refine zp ?_|refine zch ?_
           exact zeq ⟨rfl, (i + 1, _, s), ⟨rfl, rfl, rfl, rfl, rfl, zes (by dsimp only; omega), trivial⟩, ⟨rfl, by dsimp only; rw [show N - (i + 1) = k by omega]; exact hG, hlt⟩, by dsimp only; omega⟩
   · have hx0 : x = 0 := by simpa using hx
     rw [if_pos hx0] at hG
     rw [hG.done]
     refine zer rfl rfl ?_
     repeat' first|refine zck ?_|refine zyq ?_|refine zp ?_|refine zch ?_
     exact ret_tmp3 rfl ⟨rfl, rfl⟩
 · have hk : N - i = 0 := by omega
   rw [hk, Tr.leafK] at hG
   refine zyr ?_
   repeat' first|(refine zap rfl ?_;first|refine zdk [0] hG (getG w0 p _) rfl rfl rfl zdj (fun x s hG => ?_)|refine zbp rfl rfl ?_)|refine zp ?_|refine zyn ?_
   refine zed rfl (fun hx => ?_) (fun hx => ?_)
   · rw [if_neg hx] at hG
     refine zyr ?_
     repeat' first|(refine zap rfl ?_;first|refine zdk [0] hG (getG w0 p _) rfl rfl rfl zdj (fun v s hG => ?_)|refine zah [] (trNode w0 T hT _) rfl rfl rfl zdj rfl ?_)|refine zp ?_|refine zyl 1 rfl ?_|refine zyn ?_
     rw [hG.done]
     generalize hb : T.nodeB v = b
     cases b with
     | false =>
       repeat' first|refine zck ?_|refine zyq ?_|(refine zap rfl ?_;first|refine zak rfl ?_|refine zbx rfl ?_|refine zbu rfl ?_)|refine zp ?_|refine zch ?_|refine zci rfl ?_
       exact qret3 (fun _ _ h => h) rfl ⟨rfl, rfl⟩
     | true =>
       repeat' first|refine zck ?_|refine zyq ?_|(refine zap rfl ?_;first|refine zaj rfl ?_|refine zbm rfl rfl (by omega) ?_|refine zbx rfl ?_|refine zbv rfl ?_)|refine zp ?_|refine zyl 1 rfl ?_|refine zyf rfl ?_|refine zch ?_|refine zci rfl ?_
       exact qret3 (fun _ _ h => h) rfl ⟨rfl, rfl⟩
   · have hx0 : x = 0 := by simpa using hx
     rw [if_pos hx0] at hG
     rw [hG.done]
     refine zer rfl rfl ?_
     repeat' first|refine zck ?_|refine zyq ?_|refine zp ?_|refine zch ?_
     exact ret_tmp3 rfl ⟨rfl, rfl⟩
theorem trNum (n : Int) : FnE PP w0 [] 304 [.agg #[], .int .i64 n] [] (.tuple #[.int .i64 n, .bool true]) [] := by
 refine zep en304 fn304 rfl rfl rfl ?_
 repeat' first|refine zck ?_|refine zyq ?_|(refine zap rfl ?_;refine zaq (cs := []) rfl (fun nb => ?_))|refine zp ?_|refine zch ?_
 refine zec [] rfl ?_
 exact zei rfl ⟨rfl, rfl⟩
theorem trKey (n : Int) : FnE PP w0 [] 303 [.agg #[], .int .i64 n] [] (.tuple #[.int .i64 n, .bool true]) [] := by
 refine zep en303 fn303 rfl rfl rfl ?_
 repeat' first|refine zck ?_|refine zyq ?_|(refine zap rfl ?_;refine zaq (cs := []) rfl (fun nb => ?_))|refine zp ?_|refine zch ?_
 refine zec [] rfl ?_
 exact zei rfl ⟨rfl, rfl⟩
theorem trHash (n : Int) : FnE PP w0 [] 302 [.agg #[], .int .i64 n] [] (.int .u64 (hsI n)) [] := by
 refine zep en302 fn302 rfl rfl rfl ?_
 repeat' first|refine zck ?_|refine zyq ?_|(refine zap rfl ?_;first|refine reg_shr (q := 32) rfl rfl (by decide) ?_|refine reg_xor rfl rfl ?_|refine reg_mul (t := 163) rfl rfl ?_|refine zaq (cs := []) rfl (fun nb => ?_)|refine zca rfl ?_)|refine zp ?_|refine zch ?_
 refine zec [] rfl ?_
 exact zej rfl ⟨rfl, rfl⟩
theorem trGet (p : Nat) (T : Tr) (hT : T.Ok) (_ : T.IsI) (n : Int) : FnG w0 [] 60 [trV T, spP p, .int .i64 n] p (T.get n (hsI n)) encVB := by
 intro s hS; have hG := At.start hS; generalize Pg.run _ s = R at hG ⊢
 unfold Tr.get at hG
 refine zep en60 fn60 rfl rfl rfl ?_
 refine zyr ?_
 repeat' first|(refine zap rfl ?_;refine zaq (cs := [_, _, _, _, _]) rfl (fun nb => ?_))|refine zp ?_|refine zyn ?_
 refine zeb [1] rfl ?_
 refine zyr ?_
 repeat' first|(refine zap rfl ?_;refine zey [] (trNum w0 n) rfl rfl rfl zdj rfl ?_)|refine zp ?_|refine zyl 0 rfl ?_|refine zyf rfl ?_|refine zyn ?_
 refine zyr ?_
 repeat' first|(refine zap rfl ?_;refine zbx rfl ?_)|refine zp ?_|refine zyn ?_
 refine zcj rfl ?_
 refine zyr ?_
 repeat' first|(refine zap rfl ?_;first|refine zey [] (trHash w0 n) rfl rfl rfl zdj rfl ?_|(refine reg_callX [0] hG (T.all_down hT _) (trDown w0 p T hT _ (hsI_in n).1) rfl rfl rfl zdj ?_; rintro w s v Γ1 hw ⟨a1, c1, a2, c2, rfl, rfl⟩ hG)|refine zae 3 rfl rfl rfl rfl rfl rfl rfl ?_|refine zar (fun nb => ?_))|refine zp ?_|refine zyl 0 rfl ?_|refine zyf rfl ?_|refine zyn ?_
 obtain ⟨w, ok⟩ := w
 dsimp only at hG hw
 cases ok with
 | false =>
   simp only [Bool.false_eq_true, if_false] at hG
   rw [hG.done]
   repeat' first|refine zck ?_|refine zyq ?_|(refine zap rfl ?_;refine zbx rfl ?_)|refine zp ?_|refine zch ?_|refine zci rfl ?_
   refine zec [0] rfl ?_
   exact zei rfl ⟨rfl, rfl⟩
 | true =>
   simp only [if_true] at hG
   refine zyr ?_
   repeat' first|(refine zap rfl ?_;refine zbx rfl ?_)|refine zp ?_|refine zyn ?_
   refine zcj rfl ?_
   refine zyr ?_
   repeat' first|(refine zap rfl ?_;first|refine zab 3 rfl rfl rfl ?_|(refine zdl [0] hG (T.all_leaf w hw n) (trLeaf w0 p T hT w hw a1 c1 a2 c2 n) rfl rfl rfl zdj (fun l s hl hG => ?_)))|refine zp ?_|refine zyl 0 rfl ?_|refine zyn ?_
   obtain ⟨⟨c, a⟩, ok⟩ := l
   obtain ⟨hk1, hk2, hk3, hk4⟩ := id hl
   obtain ⟨hl1, hl2, hl3, hl4⟩ := hl
   dsimp only at hG hl1 hl2 hl3 hl4
   cases ok with
   | false =>
     simp only [Bool.false_eq_true, if_false] at hG
     rw [hG.done]
     repeat' first|refine zck ?_|refine zyq ?_|(refine zap rfl ?_;first|refine zak rfl ?_|refine zbx rfl ?_|refine zbu rfl ?_)|refine zp ?_|refine zch ?_|refine zci rfl ?_
     refine zec [0] rfl ?_
     exact zei rfl ⟨rfl, rfl⟩
   | true =>
     simp only [if_true] at hG
     by_cases ha : a = 0
     · rw [if_pos ha] at hG
       rw [hG.done]
       repeat' first|refine zck ?_|refine zyq ?_|(refine zap rfl ?_;first|refine zaj rfl ?_|refine zbc rfl rfl (by omega) ?_|refine zbx rfl ?_|refine zbv rfl ?_)|refine zp ?_|refine zch ?_|refine zci rfl ?_
       refine zec [0] rfl ?_
       exact zei rfl ⟨rfl, rfl⟩
     · rw [if_neg ha] at hG
       repeat' first|refine zck ?_|refine zcm ?_|refine zyq ?_|(refine zap rfl ?_;first|refine zaj rfl ?_|refine zdk [0] hG (getG w0 p _) rfl rfl rfl zdj (fun u s hG => ?_)|refine zbd rfl rfl (by omega) ?_|refine zau rfl rfl (by omega) ?_|refine zbx rfl ?_|refine zbv rfl ?_)|refine zp ?_|refine zch ?_|refine zcj rfl ?_
       rw [hG.done]
       refine zec [0] rfl ?_
       exact zei rfl ⟨rfl, rfl⟩
end Go.Proofs.YtgdhcgnmffgkiaaGreatDoor
