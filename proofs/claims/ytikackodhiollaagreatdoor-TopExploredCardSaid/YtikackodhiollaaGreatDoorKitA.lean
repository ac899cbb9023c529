import Derived.Calls
import Derived.Defers
import Derived.Orders
import Derived.OrdersIn
import Derived.KernelRfl
import Derived.Laws.World
import Derived.Laws.Sem
import Derived.RangeFuncLeaves
import Derived.RangeFuncRecord
import Derived.Laws.Entries
import Derived.ChangeKeysEq
import Derived.Carry
import Derived.Handed
import Derived.ChangeSame
import Derived.ChangeVars
import Derived.ChangeAgain
import Derived.RowKit
import Derived.RowKitTokens
import Derived.LaidLaws
import Derived.LaidMore
import Derived.LaidHandle
import Derived.JoinedOf
import Derived.ProofKit
import Derived.Lib.LaidTab
import Derived.Stop.Joined
import Derived.Laws.Bits64
import Derived.Laws.Bits64b
/- Own work: lemmas of this claim. -/
namespace Go.Vc
def noDefO (ops : Array Oper) : Bool := ops.all fun o => match o.op with | .defer _ => false | _ => true
def noDefC : Code → Bool
 | .region _ ops _ => noDefO ops
 | .seq x y => noDefC x && noDefC y
 | .cond _ x y => noDefC x && noDefC y
 | .block _ c => noDefC c
 | .loop c => noDefC c
 | .scope c => noDefC c
 | .rangeFunc .. => false
 | _ => true
def noDefI : Item → Bool
 | .code c => noDefC c
 | .inLoop c => noDefC c
 | .inScope c => noDefC c
 | .inRegion ops _ => noDefO ops
 | .inBlock _ => true
 | _ => false
def noDef (k : List Item) : Bool := k.all noDefI
@[simp] theorem noDef_cons (i : Item) (k : List Item) : noDef (i :: k) = (noDefI i && noDef k) := rfl
theorem noDef_nil : noDef [] = true := rfl
def FR (ro : Option Nat) : Fence := { Fence.wide with round := ro }
theorem FR_room (ro : Option Nat) (n : Nat) : (FR ro).room n := room_wide n
def WPk (P : Program) (k : List Item) (Q : Exit → Act → World → Prop) (a : Act) (w : World) : Prop :=
 ∀ (b : Frame) (k' : List Item) (cs : List Frame), b.roundOf = none ∨ noDef k = true →
   ∃ e a' w', Q e a' w' ∧ ArrivesIn (Machine.fenced P Fence.wide) P (lone (b.atR a (k ++ k')) cs w) b k' cs e a' w'
section
variable {P : Program} {Q : Exit → Act → World → Prop} {a : Act} {w : World} {k : List Item}
theorem one_wide {m m' : Machine} (h : step P m = .next m') : StepsIn (Machine.fenced P Fence.wide) P m m' := .one (fenced_wide P m) h
theorem WPk.mono {Q' : Exit → Act → World → Prop} (h : WPk P k Q a w) (hq : ∀ e a w, Q e a w → Q' e a w) : WPk P k Q' a w :=
 fun b k' cs hb => let ⟨e, a', w', q, r⟩ := h b k' cs hb; ⟨e, a', w', hq _ _ _ q, r⟩
theorem wpk_nil (h : Q .normal a w) : WPk P [] Q a w := fun _ _ _ _ => ⟨.normal, a, w, h, StepsIn.refl _⟩
theorem wpk_step {k1 : List Item} {a1 : Act} {w1 : World} (h : WPk P k1 Q a1 w1) (hd : noDef k = true → noDef k1 = true)
   (hs : ∀ (b : Frame) (k' : List Item) (cs : List Frame), step P (lone (b.atR a (k ++ k')) cs w) = .next (lone (b.atR a1 (k1 ++ k')) cs w1)) : WPk P k Q a w :=
 fun b k' cs hb => let ⟨e, a', w', q, r⟩ := h b k' cs (hb.imp id hd); ⟨e, a', w', q, .of_steps (one_wide (hs b k' cs)) r⟩
theorem wpk_skip (h : WPk P k Q a w) : WPk P (.code .skip :: k) Q a w := wpk_step h (by simp [noDefI, noDefC]) fun _ _ _ => stepR_skip
theorem wpk_seq {x y : Code} (h : WPk P (.code x :: .code y :: k) Q a w) : WPk P (.code (.seq x y) :: k) Q a w :=
 wpk_step h (by simp only [noDef_cons, noDefI, noDefC, Bool.and_eq_true]; exact fun h => ⟨h.1.1, h.1.2, h.2⟩) fun _ _ _ => stepR_seq
theorem wpk_cond {c : Operand} {x y : Code} {t : Bool} (hc : a.eval c = .bool t) (h : WPk P (.code (if t then x else y) :: k) Q a w) :
   WPk P (.code (.cond c x y) :: k) Q a w :=
 wpk_step h (by simp only [noDef_cons, noDefI, noDefC, Bool.and_eq_true]; cases t <;> exact fun h => ⟨by first|exact h.1.1|exact h.1.2, h.2⟩) fun _ _ _ => stepR_cond hc
theorem wpk_block {id : Nat} {c : Code} (h : WPk P (.code c :: .inBlock id :: k) Q a w) : WPk P (.code (.block id c) :: k) Q a w :=
 wpk_step h (by simp only [noDef_cons, noDefI, noDefC, Bool.and_eq_true]; exact fun h => ⟨h.1, trivial, h.2⟩) fun _ _ _ => stepR_block
theorem wpk_inBlock {id : Nat} (h : WPk P k Q a w) : WPk P (.inBlock id :: k) Q a w := wpk_step h (by simp [noDefI]) fun _ _ _ => stepR_inBlock
theorem wpk_loop1 {c : Code} (h : WPk P (.code c :: .inLoop c :: k) Q a w) : WPk P (.code (.loop c) :: k) Q a w :=
 wpk_step h (by simp only [noDef_cons, noDefI, noDefC, Bool.and_eq_true]; exact fun h => ⟨h.1, h.1, h.2⟩) fun _ _ _ => stepR_loop
theorem wpk_inLoop {c : Code} (h : WPk P (.code c :: .inLoop c :: k) Q a w) : WPk P (.inLoop c :: k) Q a w :=
 wpk_step h (by simp only [noDef_cons, noDefI, Bool.and_eq_true]; exact fun h => ⟨h.1, h.1, h.2⟩) fun _ _ _ => stepR_inLoop
theorem wpk_ret (h : Q .ret a w) : WPk P (.code .ret :: k) Q a w := fun _ _ _ _ =>
 ⟨.ret, a, w, h, fun hr => ⟨_, one_wide (stepR_ret hr)⟩, fun _ => ⟨_, StepsIn.refl _⟩⟩
theorem exitTo_append {id : Nat} (k' : List Item) : ∀ (k k1 : List Item), exitTo id k = some k1 → exitTo id (k ++ k') = some (k1 ++ k')
 | [], _, h => by simp [exitTo] at h
 | x :: k, k1, h => by
   cases x with
   | inBlock id' =>
     simp only [exitTo, List.cons_append] at h ⊢
     split at h
     · rename_i hc; simp only [hc, if_true]; simp at h; rw [h]
     · rename_i hc; simp only [hc, if_false, Bool.false_eq_true]; exact exitTo_append k' k k1 h
   | _ => simp only [exitTo, List.cons_append] at h ⊢; exact exitTo_append k' k k1 h
theorem exitTo_append_none {id : Nat} (k' : List Item) : ∀ (k : List Item), exitTo id k = none → exitTo id (k ++ k') = exitTo id k'
 | [], _ => rfl
 | x :: k, h => by
   cases x with
   | inBlock id' =>
     simp only [exitTo, List.cons_append] at h ⊢
     split at h
     · simp at h
     · rename_i hc; simp only [hc, if_false, Bool.false_eq_true]; exact exitTo_append_none k' k h
   | _ => simp only [exitTo, List.cons_append] at h ⊢; exact exitTo_append_none k' k h
theorem noDef_exitTo {id : Nat} : ∀ (k k1 : List Item), exitTo id k = some k1 → noDef k = true → noDef k1 = true
 | [], _, h, _ => by simp [exitTo] at h
 | x :: k, k1, h, hd => by
   have hd2 : noDef k = true := by rw [noDef_cons, Bool.and_eq_true] at hd; exact hd.2
   cases x with
   | inBlock id' =>
     simp only [exitTo] at h
     split at h
     · simp at h; rw [← h]; exact hd2
     · exact noDef_exitTo k k1 h hd2
   | _ => simp only [exitTo] at h; exact noDef_exitTo k k1 h hd2
theorem wpk_exit {id : Nat} {k1 : List Item} (hk : exitTo id k = some k1) (h : WPk P k1 Q a w) : WPk P (.code (.exit id) :: k) Q a w :=
 wpk_step h (by rw [noDef_cons, Bool.and_eq_true]; exact fun h => noDef_exitTo _ _ hk h.2) fun _ k' _ => stepR_exit (exitTo_append k' k k1 hk)
theorem wpk_exit_out {id : Nat} (hk : exitTo id k = none) (h : Q (.exit id) a w) : WPk P (.code (.exit id) :: k) Q a w :=
 fun _ k' _ _ => ⟨.exit id, a, w, h, fun _ hk'' => one_wide (stepR_exit ((exitTo_append_none k' k hk).trans hk'')),
   fun _ hn => ⟨k ++ k', (exitTo_append_none k' k hk).trans hn, StepsIn.refl _⟩⟩
def cutQ (P : Program) (k : List Item) (Q : Exit → Act → World → Prop) : Exit → Act → World → Prop
 | .normal, a, w => WPk P k Q a w
 | .exit id, a, w => (∃ k1, exitTo id k = some k1 ∧ WPk P k1 Q a w) ∨ (exitTo id k = none ∧ Q (.exit id) a w)
 | .ret, a, w => Q .ret a w
 | .panic ch, a, w => Q (.panic ch) a w
 | .outgrown, a, w => Q .outgrown a w
 | .goto _, _, _ => False
theorem arr_cut {b : Frame} {k' : List Item} {cs : List Frame} {m : Machine} {e : Exit} (hb : b.roundOf = none ∨ noDef k = true) (hq : cutQ P k Q e a w)
   (harr : ArrivesIn (Machine.fenced P Fence.wide) P m b (k ++ k') cs e a w) :
   ∃ e a' w', Q e a' w' ∧ ArrivesIn (Machine.fenced P Fence.wide) P m b k' cs e a' w' := by
 cases e with
 | normal =>
   obtain ⟨e2, a2, w2, hq2, harr2⟩ := hq b k' cs hb
   exact ⟨e2, a2, w2, hq2, .of_steps harr harr2⟩
 | exit id =>
   rcases hq with ⟨k1, hk, hq⟩ | ⟨hk, hq⟩
   · obtain ⟨e2, a2, w2, hq2, harr2⟩ := hq b k' cs (hb.imp (fun h => h) (noDef_exitTo _ _ hk))
     exact ⟨e2, a2, w2, hq2, .of_steps (harr.1 (k1 ++ k') (exitTo_append k' k k1 hk)) harr2⟩
   · exact ⟨.exit id, a, w, hq, fun k'' hk'' => harr.1 k'' (by rw [exitTo_append_none k' k hk]; exact hk''),
       fun hr hn => harr.2 hr (by rw [exitTo_append_none k' k hk]; exact hn)⟩
 | ret => exact ⟨.ret, a, w, hq, harr⟩
 | panic ch => exact ⟨.panic ch, a, w, hq, harr⟩
 | outgrown => exact ⟨.outgrown, a, w, hq, harr⟩
 | goto l => exact hq.elim
theorem wpk_of_cutR {c : Code} (h : ∀ ro, ro = none ∨ noDefC c = true → c.wpIn (FR ro) 0 P (cutQ P k Q) a w) : WPk P (.code c :: k) Q a w := by
 intro b k' cs hb
 have hb2 : b.roundOf = none ∨ (noDefC c = true ∧ noDef k = true) := hb.imp (fun h => h) (by rw [noDef_cons, Bool.and_eq_true]; exact fun h => h)
 obtain ⟨e, a', w', hq, harr⟩ := h b.roundOf (hb2.imp (fun h => h) (·.1)) b (k ++ k') cs rfl trivial (FR_room _ _)
 exact arr_cut (hb2.imp (fun h => h) (·.2)) hq harr
theorem wpIn_of_wpk {c : Code} {ro : Option Nat} {n : Nat} (hro : ro = none ∨ noDefC c = true) (h : WPk P [.code c] Q a w) : c.wpIn (FR ro) n P Q a w := by
 intro b k cs hb _ _
 have hb' : b.roundOf = ro := hb
 exact h b k cs (by rw [hb']; exact hro.imp (fun h => h) (fun e => by rw [noDef_cons]; simp [noDefI, e, noDef_nil]))
theorem wpk_of_wpk {c : Code} (h : WPk P [.code c] (cutQ P k Q) a w) : WPk P (.code c :: k) Q a w :=
 wpk_of_cutR fun _ hro => wpIn_of_wpk hro h
theorem semAt_FR {ro : Option Nat} {ops : Array Oper} {i : Nat} {o : Oper} (hro : ro = none ∨ noDefO ops = true) (ho : ops[i]? = some o) (ρ : Operand → Value) : o.semAt ro ρ = execOp ρ o := by
 rcases hro with rfl | h
 · rfl
 · refine Oper.semAt_eq ro ρ o fun c hc => ?_
   have := Array.all_eq_true_iff_forall_mem.1 h o (Array.mem_of_getElem? ho)
   simp [hc] at this
theorem callsIn_FR {ro : Option Nat} {n : Nat} {f : FuncId} {args : Array Value} {R : Ending → World → Prop} (h : Calls P f args w R) : CallsIn (FR ro) n P f args w R :=
 (callsIn_wide (n := n)).2 h
theorem roundIn_FR {ro : Option Nat} {n m : Nat} {l : Nat} {f : FuncId} {tmps : Array Value} {assign body : Code} {R : Ending → World → Prop} (h : RoundIn Fence.wide m P l f tmps assign body w R) :
   RoundIn (FR ro) n P l f tmps assign body w R :=
 ⟨trivial, fun c cs _ => h.2 c cs (room_wide _)⟩
end
end Go.Vc
namespace Go.Vc
abbrev Heap := Nat → Option Obj
def Heap.emp : Heap := fun _ => none
def Heap.or (a b : Heap) : Heap := fun x => match a x with | some o => some o | none => b x
def Heap.one (b : Nat) (o : Obj) : Heap := fun x => if x = b then some o else none
def Disj (a b : Heap) : Prop := ∀ x, a x = none ∨ b x = none
abbrev Asn := Heap → Prop
def pt (b : Nat) (o : Obj) : Asn := fun h => h = Heap.one b o
def Stars : List Asn → Heap → Prop
 | [], h => h = Heap.emp
 | A :: l, h => ∃ h1 h2, Disj h1 h2 ∧ h = h1.or h2 ∧ A h1 ∧ Stars l h2
theorem Disj.symm {a b : Heap} (h : Disj a b) : Disj b a := fun x => (h x).symm
theorem Heap.or_comm {a b : Heap} (h : Disj a b) : a.or b = b.or a := by
 funext x; unfold Heap.or; rcases h x with e | e <;> rw [e] <;> cases a x <;> cases b x <;> first | rfl | (simp_all)
theorem Heap.or_assoc (a b c : Heap) : (a.or b).or c = a.or (b.or c) := by
 funext x; unfold Heap.or; cases a x <;> rfl
theorem Heap.emp_or (a : Heap) : Heap.emp.or a = a := rfl
theorem Heap.or_emp (a : Heap) : a.or Heap.emp = a := by funext x; unfold Heap.or Heap.emp; cases a x <;> rfl
theorem Disj.or_left {a b c : Heap} : Disj (a.or b) c ↔ Disj a c ∧ Disj b c := by
 constructor
 · intro h
   refine ⟨fun x => ?_, fun x => ?_⟩
   · rcases h x with e | e
     · unfold Heap.or at e; cases ha : a x with | none => exact .inl rfl | some o => simp [ha] at e
     · exact .inr e
   · rcases h x with e | e
     · unfold Heap.or at e; cases ha : a x with | none => simp [ha] at e; exact .inl e | some o => simp [ha] at e
     · exact .inr e
 · rintro ⟨h1, h2⟩ x
   rcases h2 x with e | e
   · rcases h1 x with e1 | e1
     · left; unfold Heap.or; rw [e1]; exact e
     · exact .inr e1
   · exact .inr e
theorem Disj.or_right {a b c : Heap} : Disj a (b.or c) ↔ Disj a b ∧ Disj a c :=
 ⟨fun h => let ⟨h1, h2⟩ := Disj.or_left.1 h.symm; ⟨h1.symm, h2.symm⟩, fun ⟨h1, h2⟩ => (Disj.or_left.2 ⟨h1.symm, h2.symm⟩).symm⟩
theorem Disj.emp_left (a : Heap) : Disj Heap.emp a := fun _ => .inl rfl
theorem Disj.emp_right (a : Heap) : Disj a Heap.emp := fun _ => .inr rfl
theorem Stars.append {l1 l2 : List Asn} {h : Heap} : Stars (l1 ++ l2) h ↔ ∃ h1 h2, Disj h1 h2 ∧ h = h1.or h2 ∧ Stars l1 h1 ∧ Stars l2 h2 := by
 induction l1 generalizing h with
 | nil => exact ⟨fun h' => ⟨Heap.emp, h, Disj.emp_left _, rfl, rfl, h'⟩, fun ⟨h1, h2, _, e, e1, e2⟩ => by simp only [Stars] at e1; subst e1; subst e; exact e2⟩
 | cons A l ih =>
   constructor
   · rintro ⟨g1, g2, hd, rfl, hA, hs⟩
     obtain ⟨g3, g4, hd2, rfl, hs1, hs2⟩ := ih.1 hs
     obtain ⟨d1, d2⟩ := Disj.or_right.1 hd
     exact ⟨g1.or g3, g4, Disj.or_left.2 ⟨d2, hd2⟩, (Heap.or_assoc _ _ _).symm, ⟨g1, g3, d1, rfl, hA, hs1⟩, hs2⟩
   · rintro ⟨g1, g2, hd, rfl, ⟨g3, g4, hd2, rfl, hA, hs1⟩, hs2⟩
     obtain ⟨d1, d2⟩ := Disj.or_left.1 hd
     exact ⟨g3, g4.or g2, Disj.or_right.2 ⟨hd2, d1⟩, Heap.or_assoc _ _ _, hA, ih.2 ⟨g4, g2, d2, rfl, hs1, hs2⟩⟩
theorem Stars.swap {A B : Asn} {l : List Asn} {h : Heap} (hs : Stars (A :: B :: l) h) : Stars (B :: A :: l) h := by
 obtain ⟨g1, g2, hd, rfl, hA, g3, g4, hd2, rfl, hB, hl⟩ := hs
 obtain ⟨d1, d2⟩ := Disj.or_right.1 hd
 refine ⟨g3, g1.or g4, Disj.or_right.2 ⟨d1.symm, hd2⟩, ?_, hB, g1, g4, d2, rfl, hA, hl⟩
 rw [← Heap.or_assoc, Heap.or_comm d1, Heap.or_assoc]
theorem Stars.perm {l1 l2 : List Asn} (hp : l1.Perm l2) : ∀ {h : Heap}, Stars l1 h → Stars l2 h := by
 induction hp with
 | nil => exact fun h => h
 | cons A _ ih => rintro h ⟨g1, g2, hd, e, hA, hs⟩; exact ⟨g1, g2, hd, e, hA, ih hs⟩
 | swap A B l => exact fun h => Stars.swap h
 | trans _ _ ih1 ih2 => exact fun h => ih2 (ih1 h)
theorem Stars.one {A : Asn} {h : Heap} : Stars [A] h ↔ A h :=
 ⟨fun ⟨g1, g2, _, e, hA, e2⟩ => by simp only [Stars] at e2; subst e2; rw [Heap.or_emp] at e; exact e ▸ hA, fun hA => ⟨h, Heap.emp, Disj.emp_right _, (Heap.or_emp _).symm, hA, rfl⟩⟩
def Good (w0 w : World) : Prop :=
 w.tape = w0.tape ∧ w.os = w0.os ∧ w.output = w0.output ∧ w0.heap.size ≤ w.heap.size ∧ ∀ b, b < w0.heap.size → w.heap[b]? = w0.heap[b]?
def Sat (w0 w : World) (h : Heap) : Prop := Good w0 w ∧ ∀ b o, h b = some o → w0.heap.size ≤ b ∧ w.heap[b]? = some o
def St (w0 : World) (hF : Heap) (Γ : List Asn) (w : World) : Prop := ∃ h, Stars Γ h ∧ Disj h hF ∧ Sat w0 w (h.or hF)
theorem Good.refl (w : World) : Good w w := ⟨rfl, rfl, rfl, Nat.le_refl _, fun _ _ => rfl⟩
section
variable {w0 w w' : World} {hF : Heap} {Γ Γ' : List Asn}
theorem St.good (h : St w0 hF Γ w) : Good w0 w := let ⟨_, _, _, hs⟩ := h; hs.1
theorem St.perm (h : St w0 hF Γ w) (hp : Γ.Perm Γ') : St w0 hF Γ' w := let ⟨g, hs, hd, ha⟩ := h; ⟨g, hs.perm hp, hd, ha⟩
theorem St.split (h : St w0 hF (Γ ++ Γ') w) : ∃ g, Stars Γ' g ∧ Disj g hF ∧ St w0 (g.or hF) Γ w := by
 obtain ⟨g, hs, hd, ha⟩ := h
 obtain ⟨g1, g2, hd2, rfl, hs1, hs2⟩ := Stars.append.1 hs
 obtain ⟨d1, d2⟩ := Disj.or_left.1 hd
 exact ⟨g2, hs2, d2, g1, hs1, Disj.or_right.2 ⟨hd2, d1⟩, by rw [← Heap.or_assoc]; exact ha⟩
theorem St.join {g : Heap} (hs : Stars Γ' g) (hd : Disj g hF) (h : St w0 (g.or hF) Γ w) : St w0 hF (Γ ++ Γ') w := by
 obtain ⟨g1, hs1, hd1, ha⟩ := h
 obtain ⟨d1, d2⟩ := Disj.or_right.1 hd1
 exact ⟨g1.or g, Stars.append.2 ⟨g1, g, d1, rfl, hs1, hs⟩, Disj.or_left.2 ⟨d2, hd⟩, by rw [Heap.or_assoc]; exact ha⟩
theorem St.sub {hF' : Heap} (h : St w0 hF' Γ w) (hsub : ∀ b o, hF b = some o → hF' b = some o) : St w0 hF Γ w := by
 obtain ⟨g, hs, hd, ha⟩ := h
 refine ⟨g, hs, fun x => ?_, ha.1, fun b o hb => ha.2 b o ?_⟩
 · rcases hd x with e | e
   · exact .inl e
   · right
     cases hx : hF x with
     | none => rfl
     | some o => rw [hsub x o hx] at e; cases e
 · unfold Heap.or at hb ⊢
   cases hg : g b with
   | some o' => rw [hg] at hb; exact hb
   | none => rw [hg] at hb; exact hsub b o hb
theorem St.drop {A : Asn} (h : St w0 hF (A :: Γ) w) : St w0 hF Γ w := by
 obtain ⟨g, ⟨g1, g2, hd2, rfl, _, hs2⟩, hd, ha⟩ := h
 obtain ⟨_, d2⟩ := Disj.or_left.1 hd
 refine ⟨g2, hs2, d2, ha.1, fun b o hb => ha.2 b o ?_⟩
 have hc := Heap.or_comm hd2
 rw [hc, Heap.or_assoc]
 unfold Heap.or at hb ⊢
 cases hg : g2 b with
 | some o' => rw [hg] at hb; exact hb
 | none =>
   rw [hg] at hb
   simp only
   rcases hd b with e | e
   · unfold Heap.or at e; cases h1 : g1 b with | none => exact hb | some o' => simp [h1] at e
   · rw [e] at hb; cases hb
theorem St.get {b : Nat} {o : Obj} (h : St w0 hF (pt b o :: Γ) w) : w0.heap.size ≤ b ∧ w.heap[b]? = some o := by
 obtain ⟨g, ⟨g1, g2, _, rfl, e, _⟩, _, ha⟩ := h
 refine ha.2 b o ?_
 simp only [pt] at e
 subst e
 simp [Heap.or, Heap.one]
theorem St.frame {b : Nat} {o : Obj} (h : St w0 hF Γ w) (hb : hF b = some o) : w0.heap.size ≤ b ∧ w.heap[b]? = some o := by
 obtain ⟨g, _, hd, ha⟩ := h
 refine ha.2 b o ?_
 rcases hd b with e | e
 · simp [Heap.or, e, hb]
 · rw [e] at hb; cases hb
theorem St.base {b : Nat} (h : St w0 hF Γ w) (hb : b < w0.heap.size) : w.heap[b]? = w0.heap[b]? := h.good.2.2.2.2 b hb
theorem St.lt {b : Nat} {o : Obj} (h : St w0 hF (pt b o :: Γ) w) : b < w.heap.size := (Array.getElem?_eq_some_iff.1 h.get.2).1
theorem St.upd {b : Nat} {o o' : Obj} (h : St w0 hF (pt b o :: Γ) w) (ht : w'.tape = w.tape) (ho : w'.os = w.os) (hu : w'.output = w.output)
   (hz : w'.heap.size = w.heap.size) (hb : w'.heap[b]? = some o') (hx : ∀ x, x ≠ b → w'.heap[x]? = w.heap[x]?) : St w0 hF (pt b o' :: Γ) w' := by
 have hbb := h.get
 obtain ⟨g, ⟨g1, g2, hd2, rfl, e, hs2⟩, hd, hg, ha⟩ := h
 simp only [pt] at e
 subst e
 have hdis : ∀ {c : Heap}, Disj (Heap.one b o) c → Disj (Heap.one b o') c := fun hc x => by
   rcases hc x with e | e
   · left; unfold Heap.one at e ⊢; split at e <;> simp_all
   · exact .inr e
 obtain ⟨d1, d2⟩ := Disj.or_left.1 hd
 refine ⟨(Heap.one b o').or g2, ⟨_, _, hdis hd2, rfl, rfl, hs2⟩, Disj.or_left.2 ⟨hdis d1, d2⟩, ?_, fun x ox hxo => ?_⟩
 · refine ⟨ht.trans hg.1, ho.trans hg.2.1, hu.trans hg.2.2.1, hz ▸ hg.2.2.2.1, fun c hc => ?_⟩
   rw [hx c (fun e => by subst e; omega)]
   exact hg.2.2.2.2 c hc
 · by_cases hxb : x = b
   · subst hxb
     simp only [Heap.or, Heap.one, if_true] at hxo
     simp at hxo
     subst hxo
     exact ⟨hbb.1, hb⟩
   · have := ha x ox (by simpa [Heap.or, Heap.one, hxb] using hxo)
     exact ⟨this.1, by rw [hx x hxb]; exact this.2⟩
theorem St.same (h : St w0 hF Γ w) (ht : w'.tape = w.tape) (ho : w'.os = w.os) (hu : w'.output = w.output) (hz : w'.heap = w.heap) : St w0 hF Γ w' := by
 obtain ⟨g, hs, hd, hg, ha⟩ := h
 exact ⟨g, hs, hd, ⟨ht.trans hg.1, ho.trans hg.2.1, hu.trans hg.2.2.1, hz ▸ hg.2.2.2.1, by rw [hz]; exact hg.2.2.2.2⟩, by rw [hz]; exact ha⟩
theorem St.drew (h : St w0 hF Γ w) (n : Nat) : St w0 hF Γ { w with drawn := n } := h.same rfl rfl rfl rfl
theorem St.alloc (h : St w0 hF Γ w) (o : Obj) : St w0 hF (pt w.heap.size o :: Γ) { w with heap := w.heap.push o } := by
 obtain ⟨g, hs, hd, hg, ha⟩ := h
 have hfr : ∀ x ox, (g.or hF) x = some ox → x < w.heap.size := fun x ox hx => (Array.getElem?_eq_some_iff.1 (ha x ox hx).2).1
 have hnone : (g.or hF) w.heap.size = none := by
   cases hx : (g.or hF) w.heap.size with
   | none => rfl
   | some ox => exact absurd (hfr _ _ hx) (Nat.lt_irrefl _)
 have hnone1 : g w.heap.size = none := by unfold Heap.or at hnone; cases hx : g w.heap.size with | none => rfl | some ox => simp [hx] at hnone
 have hnone2 : hF w.heap.size = none := by unfold Heap.or at hnone; rw [hnone1] at hnone; exact hnone
 have hone : ∀ {c : Heap}, c w.heap.size = none → Disj (Heap.one w.heap.size o) c := fun hc x => by
   by_cases hx : x = w.heap.size
   · subst hx; exact .inr hc
   · left; simp [Heap.one, hx]
 refine ⟨(Heap.one w.heap.size o).or g, ⟨_, _, hone hnone1, rfl, rfl, hs⟩, Disj.or_left.2 ⟨hone hnone2, hd⟩, ?_, fun x ox hx => ?_⟩
 · refine ⟨hg.1, hg.2.1, hg.2.2.1, by simp; have := hg.2.2.2.1; omega, fun c hc => ?_⟩
   have := hg.2.2.2.1
   rw [Array.getElem?_push_lt (by omega)]
   have := hg.2.2.2.2 c hc
   rw [← this, Array.getElem?_eq_getElem]
 · by_cases hxs : x = w.heap.size
   · subst hxs
     simp [Heap.or, Heap.one] at hx
     subst hx
     exact ⟨hg.2.2.2.1, by simp⟩
   · have h1 : (g.or hF) x = some ox := by simpa [Heap.or, Heap.one, hxs] using hx
     have h2 := ha x ox h1
     have h3 := hfr x ox h1
     refine ⟨h2.1, ?_⟩
     rw [Array.getElem?_push_lt h3]
     rw [← h2.2, Array.getElem?_eq_getElem]
end
def takeAt {α : Type _} : Nat → List α → Option (α × List α)
 | _, [] => none
 | 0, x :: l => some (x, l)
 | i + 1, x :: l => match takeAt i l with | some (y, l') => some (y, x :: l') | none => none
def pick {α : Type _} : List Nat → List α → Option (List α × List α)
 | [], l => some ([], l)
 | i :: is, l => match takeAt i l with
   | some (x, l') => (match pick is l' with | some (ps, r) => some (x :: ps, r) | none => none)
   | none => none
theorem takeAt_perm {α : Type _} : ∀ {i : Nat} {l l' : List α} {x : α}, takeAt i l = some (x, l') → l.Perm (x :: l')
 | _, [], _, _, h => by simp [takeAt] at h
 | 0, y :: l, l', x, h => by simp [takeAt] at h; obtain ⟨rfl, rfl⟩ := h; exact List.Perm.refl _
 | i + 1, y :: l, l', x, h => by
   simp only [takeAt] at h
   split at h
   · rename_i z l2 hz
     simp at h
     obtain ⟨rfl, rfl⟩ := h
     exact ((takeAt_perm hz).cons y).trans (List.Perm.swap _ _ _)
   · simp at h
theorem pick_perm {α : Type _} : ∀ {is : List Nat} {l ps r : List α}, pick is l = some (ps, r) → l.Perm (ps ++ r)
 | [], l, ps, r, h => by simp [pick] at h; obtain ⟨rfl, rfl⟩ := h; exact List.Perm.refl _
 | i :: is, l, ps, r, h => by
   simp only [pick] at h
   split at h
   · rename_i x l' hx
     split at h
     · rename_i ps' r' hp
       simp at h
       obtain ⟨rfl, rfl⟩ := h
       exact (takeAt_perm hx).trans ((pick_perm hp).cons x)
     · simp at h
   · simp at h
end Go.Vc
namespace Go.Vc
abbrev Env := Nat → Value
def Env.set (ρ : Env) (d : Nat) (v : Value) : Env := fun t => bif Nat.beq t d then v else ρ t
def Env.setO (ρ : Env) : Option Tmp → Value → Env
 | some d, v => ρ.set d v
 | none, _ => ρ
def ev (ρ : Env) : Operand → Value
 | .tmp t => ρ t
 | .const v => v
 | .global g => .pointer (some ⟨g, 0, none⟩)
 | .func f => .func (.func f) #[] #[]
def envOf (a : Act) : Env := fun t => a.tmps.getD t undef
theorem eval_ev (a : Act) : a.eval = ev (envOf a) := by funext x; cases x <;> rfl
theorem envOf_put (a : Act) (dst : Option Tmp) (v : Value) (h : ∀ d, dst = some d → d < a.tmps.size) : envOf (a.put dst v) = (envOf a).setO dst v := by
 cases dst with
 | none => rfl
 | some d =>
   funext t
   have hd := h d rfl
   simp only [envOf, Act.put, Env.setO, Env.set]
   by_cases ht : t = d
   · subst ht; simp [hd]
   · have : Nat.beq t d = false := by cases hb : Nat.beq t d with | false => rfl | true => exact absurd (Nat.eq_of_beq_eq_true hb) ht
     rw [this]
     simp [Array.getElem?_setIfInBounds_ne (Ne.symm ht)]
theorem size_put (a : Act) (dst : Option Tmp) (v : Value) : (a.put dst v).tmps.size = a.tmps.size := by cases dst <;> simp [Act.put]
theorem defers_put (a : Act) (dst : Option Tmp) (v : Value) : (a.put dst v).defers = a.defers := by cases dst <;> rfl
def yieldedE (ops : Array Oper) (ρ : Env) (j : Nat) : Option Bool :=
 match (ops[j]?).bind (·.dst) with
 | some d => (match ρ d with | .bool b => some b | _ => none)
 | none => none
theorem yielded_eq (ops : Array Oper) (a : Act) : yielded ops a.tmps = yieldedE ops (envOf a) := by
 funext j
 unfold yielded yieldedE envOf
 cases hd : (ops[j]?).bind (·.dst) with
 | none => rfl
 | some d =>
   simp only [Option.bind_some]
   rw [Array.getD_eq_getD_getElem?]
   cases h : a.tmps[d]? with
   | none => simp [undef]
   | some v => cases v <;> simp
def OpRes (P : Program) (w0 : World) (hF : Heap) (df : List Deferred) (K : Value → List Deferred → List Asn → Prop) : Result Next → Prop
 | .ok (.value v) w' => ∃ Γ', K v df Γ' ∧ St w0 hF Γ' w'
 | .ok .skip w' => ∃ Γ', K undef df Γ' ∧ St w0 hF Γ' w'
 | .ok (.defer d) w' => ∃ Γ', K undef (d :: df) Γ' ∧ St w0 hF Γ' w'
 | .ok (.enter f args) w' => Calls P f args w' fun e w'' => ∃ v Γ', e = .returned v ∧ K v df Γ' ∧ St w0 hF Γ' w''
 | .ok (.round l f tmps assign body) w' => RoundIn Fence.wide 0 P l f tmps assign body w' fun e w'' => ∃ v Γ', e = .returned v ∧ K v df Γ' ∧ St w0 hF Γ' w''
 | _ => False
def OpW (P : Program) (w0 : World) (hF : Heap) (o : Oper) (ρ : Env) (df : List Deferred) (Γ : List Asn) (K : Value → List Deferred → List Asn → Prop) : Prop :=
 ∀ w, St w0 hF Γ w → OpRes P w0 hF df K ((execOp (ev ρ) o).run P w)
def QuietAt (P : Program) (w0 : World) (hF : Heap) (o : Oper) (ρ : Env) (v : Value) : Prop :=
 ∀ w Γ, St w0 hF Γ w → ∃ w', (execOp (ev ρ) o).run P w = .ok (.value v) w' ∧ St w0 hF Γ w'
theorem OpRes.mono {P : Program} {w0 : World} {hF : Heap} {df : List Deferred} {K K' : Value → List Deferred → List Asn → Prop} {r : Result Next}
   (h : OpRes P w0 hF df K r) (hk : ∀ v df' Γ' w', St w0 hF Γ' w' → K v df' Γ' → K' v df' Γ') : OpRes P w0 hF df K' r := by
 cases r with
 | halt x w => exact h.elim
 | ok n w =>
   cases n <;> simp only [OpRes] at h ⊢ <;> first
    |exact h.elim
     | (obtain ⟨Γ', hK, hs⟩ := h; exact ⟨Γ', hk _ _ _ _ hs hK, hs⟩)
    |exact h.mono fun e w' ⟨v, Γ', he, hK, hs⟩ => ⟨v, Γ', he, hk _ _ _ _ hs hK, hs⟩
theorem OpRes.some {P : Program} {w0 : World} {hF : Heap} {df : List Deferred} {K : Value → List Deferred → List Asn → Prop} {r : Result Next}
   (h : OpRes P w0 hF df K r) : ∃ v df' Γ' w', K v df' Γ' ∧ St w0 hF Γ' w' := by
 cases r with
 | halt x w => exact h.elim
 | ok n w =>
   cases n <;> simp only [OpRes] at h <;> first
    |exact h.elim
     | (obtain ⟨Γ', hK, hs⟩ := h; exact ⟨_, _, Γ', _, hK, hs⟩)
     | (obtain ⟨e, w', fr, ⟨v, Γ', he, hK, hs⟩, _⟩ := h []; exact ⟨_, _, _, _, hK, hs⟩)
     | (obtain ⟨e, w', ⟨v, Γ', he, hK, hs⟩, _⟩ := h.2 default [] (room_wide _); exact ⟨_, _, _, _, hK, hs⟩)
theorem QuietAt.opW {P : Program} {w0 : World} {hF : Heap} {o : Oper} {ρ : Env} {v : Value} {df : List Deferred} {Γ : List Asn}
   {K : Value → List Deferred → List Asn → Prop} (h : QuietAt P w0 hF o ρ v) (hK : K v df Γ) : OpW P w0 hF o ρ df Γ K := fun w hs => by
 obtain ⟨w', e, hs'⟩ := h w Γ hs
 rw [e]
 exact ⟨Γ, hK, hs'⟩
def wantedE (ops : Array Oper) (ρ : Env) (o : Oper) : Bool := Region.wanted o (yieldedE ops ρ)
inductive Fl where
 | loud | quiet | read
 deriving DecidableEq
def mkl : List Fl → Nat → List Oper → List (Fl × Nat × Oper)
 | b :: fl, i, o :: l => (b, i, o) :: mkl fl (i + 1) l
 | [], i, o :: l => (.loud, i, o) :: mkl [] (i + 1) l
 | _, _, [] => []
def liftQ (w0 : World) (n : Nat) (hF : Heap) (Q : Exit → Env → List Deferred → List Asn → Prop) : Exit → Act → World → Prop :=
 fun e a w => a.tmps.size = n ∧ ∃ Γ, Q e (envOf a) a.defers Γ ∧ St w0 hF Γ w
def RunAt (P : Program) (w0 : World) (n : Nat) (hF : Heap) (Q : Exit → Env → List Deferred → List Asn → Prop) (k : List Item) (ρ : Env) (df : List Deferred) (Γ : List Asn) : Prop :=
 ∀ a w, envOf a = ρ → a.tmps.size = n → a.defers = df → St w0 hF Γ w → WPk P k (liftQ w0 n hF Q) a w
abbrev Shared := List (Nat × Obj)
def Sh (sh : Shared) (hF : Heap) : Prop := ∀ p ∈ sh, hF p.1 = some p.2
structure Run (P : Program) (w0 : World) (n : Nat) (sh : Shared) (Q : Exit → Env → List Deferred → List Asn → Prop) (k : List Item) (ρ : Env) (df : List Deferred) (Γ : List Asn) : Prop where
 go : ∀ hF, Sh sh hF → RunAt P w0 n hF Q k ρ df Γ
def allocOp : Op → Bool
 | .box _ _ | .alloc _ | .buildSlice _ _ _ | .makeMap _ _ | .makeSlice _ _ _ => true
 | _ => false
def AllocAt (P : Program) (o : Oper) (ρ : Env) (obj : Obj) (val : Nat → Value) : Prop :=
 ∀ w, (execOp (ev ρ) o).run P w = .ok (.value (val w.heap.size)) { w with heap := w.heap.push obj }
def ReadAt (P : Program) (w0 : World) (hF : Heap) (o : Oper) (ρ : Env) (Γ : List Asn) (v : Value) : Prop :=
 ∀ w, St w0 hF Γ w → ∃ w', (execOp (ev ρ) o).run P w = .ok (.value v) w' ∧ St w0 hF Γ w'
theorem ReadAt.opW {P : Program} {w0 : World} {hF : Heap} {o : Oper} {ρ : Env} {v : Value} {df : List Deferred} {Γ : List Asn} {K : Value → List Deferred → List Asn → Prop} (h : ReadAt P w0 hF o ρ Γ v) (hK : K v df Γ) : OpW P w0 hF o ρ df Γ K := fun w hs => by
 obtain ⟨w', e, hs'⟩ := h w hs
 rw [e]
 exact ⟨Γ, hK, hs'⟩
def SatG (w0 : World) (sh : Shared) (Γ : List Asn) : Prop := ∃ hF w, Sh sh hF ∧ St w0 hF Γ w
def markK : List Item := [.inBlock 1000000007]
def notMark : List Item → Bool
 | [.inBlock b] => !Nat.beq b 1000000007
 | _ => true
def Fin (P : Program) (w0 : World) (n : Nat) (sh : Shared) (Q : Exit → Env → List Deferred → List Asn → Prop) (k : List Item) (ρ : Env) (df : List Deferred) (Γ : List Asn) : Prop :=
 (k = markK → ∀ hF w, Sh sh hF → St w0 hF Γ w → ∃ Γ0, Q .normal ρ df Γ0 ∧ St w0 hF Γ0 w) ∧ (k ≠ markK → Run P w0 n sh Q k ρ df Γ)
def WR (P : Program) (w0 : World) (n : Nat) (sh : Shared) (Q : Exit → Env → List Deferred → List Asn → Prop) (ops : Array Oper) (k : List Item) :
   List (Fl × Nat × Oper) → Env → List Deferred → List Asn → Prop
 | [], ρ, df, Γ => Fin P w0 n sh Q k ρ df Γ
 | (b, _, o) :: l, ρ, df, Γ =>
   if wantedE ops ρ o = true then
     (if b = .quiet then ∃ v, (∀ hF, Sh sh hF → QuietAt P w0 hF o ρ v) ∧ WR P w0 n sh Q ops k l (ρ.setO o.dst v) df Γ
      else if b = .read then ∃ v, (∀ hF, Sh sh hF → ReadAt P w0 hF o ρ Γ v) ∧ WR P w0 n sh Q ops k l (ρ.setO o.dst v) df Γ
      else if allocOp o.op = true then SatG w0 sh Γ → ∃ obj val, AllocAt P o ρ obj val ∧ ∀ nb, SatG w0 sh (Γ ++ [pt nb obj]) → WR P w0 n sh Q ops k l (ρ.setO o.dst (val nb)) df (Γ ++ [pt nb obj])
      else ∃ R : Value → List Deferred → List Asn → Prop, (∀ hF, Sh sh hF → OpW P w0 hF o ρ df Γ R) ∧ ∀ v df' Γ', R v df' Γ' → WR P w0 n sh Q ops k l (ρ.setO o.dst v) df' Γ')
   else WR P w0 n sh Q ops k l (ρ.setO o.dst undef) df Γ
structure Reg (P : Program) (w0 : World) (n : Nat) (sh : Shared) (Q : Exit → Env → List Deferred → List Asn → Prop) (ops : Array Oper) (l : List (Fl × Nat × Oper)) (k : List Item)
   (ρ : Env) (df : List Deferred) (Γ : List Asn) : Prop where
 go : WR P w0 n sh Q ops k l ρ df Γ
section
variable {P : Program} {w0 : World} {n : Nat} {sh : Shared} {Q : Exit → Env → List Deferred → List Asn → Prop} {k : List Item} {ρ : Env} {df : List Deferred} {Γ : List Asn} {hF : Heap}
theorem runAt_step {k1 : List Item} (h : RunAt P w0 n hF Q k1 ρ df Γ) (hs : ∀ a w Q, envOf a = ρ → WPk P k1 Q a w → WPk P k Q a w) : RunAt P w0 n hF Q k ρ df Γ :=
 fun a w ha hn hd hst => hs a w _ ha (h a w ha hn hd hst)
theorem run_step {k1 : List Item} (h : Run P w0 n sh Q k1 ρ df Γ) (hs : ∀ a w Q, envOf a = ρ → WPk P k1 Q a w → WPk P k Q a w) : Run P w0 n sh Q k ρ df Γ :=
 ⟨fun hF hsh => runAt_step (h.go hF hsh) hs⟩
theorem zcm (h : Run P w0 n sh Q k ρ df Γ) : Run P w0 n sh Q (.code .skip :: k) ρ df Γ := run_step h fun _ _ _ _ => wpk_skip
theorem zck {x y : Code} (h : Run P w0 n sh Q (.code x :: .code y :: k) ρ df Γ) : Run P w0 n sh Q (.code (.seq x y) :: k) ρ df Γ := run_step h fun _ _ _ _ => wpk_seq
theorem zcl {id : Nat} {c : Code} (h : Run P w0 n sh Q (.code c :: .inBlock id :: k) ρ df Γ) : Run P w0 n sh Q (.code (.block id c) :: k) ρ df Γ := run_step h fun _ _ _ _ => wpk_block
theorem zcn {id : Nat} (h : Run P w0 n sh Q k ρ df Γ) : Run P w0 n sh Q (.inBlock id :: k) ρ df Γ := run_step h fun _ _ _ _ => wpk_inBlock
theorem zco {c : Code} (h : Run P w0 n sh Q (.code c :: .inLoop c :: k) ρ df Γ) : Run P w0 n sh Q (.inLoop c :: k) ρ df Γ := run_step h fun _ _ _ _ => wpk_inLoop
theorem zet {c : Code} (h : Run P w0 n sh Q (.code c :: .inLoop c :: k) ρ df Γ) : Run P w0 n sh Q (.code (.loop c) :: k) ρ df Γ := run_step h fun _ _ _ _ => wpk_loop1
theorem zcs {id : Nat} {k1 : List Item} (hk : exitTo id k = some k1) (h : Run P w0 n sh Q k1 ρ df Γ) : Run P w0 n sh Q (.code (.exit id) :: k) ρ df Γ :=
 run_step h fun _ _ _ _ => wpk_exit hk
theorem run_exit_out {id : Nat} (hk : exitTo id k = none) (h : Q (.exit id) ρ df Γ) : Run P w0 n sh Q (.code (.exit id) :: k) ρ df Γ :=
 ⟨fun _ _ a _ ha hn hd hst => wpk_exit_out hk ⟨hn, Γ, by subst ha; subst hd; exact h, hst⟩⟩
theorem run_nil (h : Q .normal ρ df Γ) : Run P w0 n sh Q [] ρ df Γ :=
 ⟨fun _ _ a _ ha hn hd hst => wpk_nil ⟨hn, Γ, by subst ha; subst hd; exact h, hst⟩⟩
theorem zeg (h : Q .ret ρ df Γ) : Run P w0 n sh Q (.code .ret :: k) ρ df Γ :=
 ⟨fun _ _ a _ ha hn hd hst => wpk_ret ⟨hn, Γ, by subst ha; subst hd; exact h, hst⟩⟩
theorem run_condB {c : Operand} {x y : Code} {t : Bool} (hc : ev ρ c = .bool t) (h : Run P w0 n sh Q (.code (if t then x else y) :: k) ρ df Γ) :
   Run P w0 n sh Q (.code (.cond c x y) :: k) ρ df Γ :=
 run_step h fun a _ _ ha => wpk_cond (by rw [eval_ev, ha]; exact hc)
theorem zed {c : Operand} {x y : Code} {p : Prop} [Decidable p] (hc : ev ρ c = .bool (decide p)) (ht : p → Run P w0 n sh Q (.code x :: k) ρ df Γ)
   (hf : ¬ p → Run P w0 n sh Q (.code y :: k) ρ df Γ) : Run P w0 n sh Q (.code (.cond c x y) :: k) ρ df Γ := by
 by_cases hp : p
 · exact run_condB (t := true) (by rw [hc, decide_eq_true hp]) (ht hp)
 · exact run_condB (t := false) (by rw [hc, decide_eq_false hp]) (hf hp)
theorem zee {c : Operand} {x y : Code} {b : Bool} (hc : ev ρ c = .bool b) (ht : b = true → Run P w0 n sh Q (.code x :: k) ρ df Γ)
   (hf : b = false → Run P w0 n sh Q (.code y :: k) ρ df Γ) : Run P w0 n sh Q (.code (.cond c x y) :: k) ρ df Γ := by
 cases b with
 | true => exact run_condB hc (ht rfl)
 | false => exact run_condB hc (hf rfl)
theorem zci {c : Operand} {x y : Code} (hc : ev ρ c = .bool true) (ht : Run P w0 n sh Q (.code x :: k) ρ df Γ) : Run P w0 n sh Q (.code (.cond c x y) :: k) ρ df Γ := run_condB hc ht
theorem zcj {c : Operand} {x y : Code} (hc : ev ρ c = .bool false) (hf : Run P w0 n sh Q (.code y :: k) ρ df Γ) : Run P w0 n sh Q (.code (.cond c x y) :: k) ρ df Γ := run_condB hc hf
theorem RunAt.mono {Q' : Exit → Env → List Deferred → List Asn → Prop} {hF' : Heap} (h : RunAt P w0 n hF' Q k ρ df Γ) (hsub : ∀ b o, hF b = some o → hF' b = some o)
   (hq : ∀ e ρ df Γ, Q e ρ df Γ → Q' e ρ df Γ) {a : Act} {w : World} (ha : envOf a = ρ) (hn : a.tmps.size = n) (hd : a.defers = df) (hst : St w0 hF' Γ w) :
   WPk P k (liftQ w0 n hF Q') a w :=
 (h a w ha hn hd hst).mono fun _ _ _ ⟨h1, Γ', h2, h3⟩ => ⟨h1, Γ', hq _ _ _ _ h2, h3.sub hsub⟩
theorem run_perm {Γ' : List Asn} (hp : Γ.Perm Γ') (h : Run P w0 n sh Q k ρ df Γ') : Run P w0 n sh Q k ρ df Γ :=
 ⟨fun hF hsh a w ha hn hd hst => h.go hF hsh a w ha hn hd (hst.perm hp)⟩
theorem run_open {A : Asn} (is : List Nat) {Γr : List Asn} {ι : Type} (B : ι → List Asn) (hp : pick is Γ = some ([A], Γr)) (hA : ∀ h, A h → ∃ i, Stars (B i) h)
   (h : ∀ i, Run P w0 n sh Q k ρ df (B i ++ Γr)) : Run P w0 n sh Q k ρ df Γ := by
 refine ⟨?_⟩
 intro hF hsh a w ha hn hd hst
 obtain ⟨g, hs, hdj, hsat⟩ := hst.perm (pick_perm hp)
 obtain ⟨g1, g2, hd2, rfl, hA1, hs2⟩ := hs
 obtain ⟨i, hi⟩ := hA g1 hA1
 exact (h i).go hF hsh a w ha hn hd ⟨_, Stars.append.2 ⟨g1, g2, hd2, rfl, hi, hs2⟩, hdj, hsat⟩
theorem run_close {A : Asn} (is : List Nat) {Γp Γr : List Asn} (hp : pick is Γ = some (Γp, Γr)) (hA : ∀ h, Stars Γp h → A h)
   (h : Run P w0 n sh Q k ρ df (A :: Γr)) : Run P w0 n sh Q k ρ df Γ := by
 refine ⟨?_⟩
 intro hF hsh a w ha hn hd hst
 obtain ⟨g, hs, hdj, hsat⟩ := hst.perm (pick_perm hp)
 obtain ⟨g1, g2, hd2, rfl, hs1, hs2⟩ := Stars.append.1 hs
 exact h.go hF hsh a w ha hn hd ⟨_, ⟨g1, g2, hd2, rfl, hA g1 hs1, hs2⟩, hdj, hsat⟩
theorem zeb (is : List Nat) {b : Nat} {o : Obj} {Γr : List Asn} (hp : pick is Γ = some ([pt b o], Γr)) (h : Run P w0 n ((b, o) :: sh) Q k ρ df Γr) : Run P w0 n sh Q k ρ df Γ := by
 refine ⟨?_⟩
 intro hF hsh a w ha hn hd hst
 have h1 : St w0 hF (Γr ++ [pt b o]) w := (hst.perm (pick_perm hp)).perm List.perm_append_comm
 obtain ⟨g, hg, hdj, hst2⟩ := h1.split
 have hg1 : pt b o g := Stars.one.1 hg
 simp only [pt] at hg1
 subst hg1
 have hsub : ∀ c oc, hF c = some oc → ((Heap.one b o).or hF) c = some oc := fun c oc hc => by
   rcases hdj c with e | e
   · simp [Heap.or, e, hc]
   · rw [e] at hc; cases hc
 refine RunAt.mono (h.go _ fun p hp => ?_) hsub (fun _ _ _ _ h => h) ha hn hd hst2
 rcases List.mem_cons.1 hp with rfl | hp
 · simp [Heap.or, Heap.one]
 · exact hsub _ _ (hsh p hp)
theorem run_know {φ : Prop} (hφ : ∀ hF w, Sh sh hF → St w0 hF Γ w → φ) (h : φ → Run P w0 n sh Q k ρ df Γ) : Run P w0 n sh Q k ρ df Γ :=
 ⟨fun hF hsh a w ha hn hd hst => (h (hφ hF w hsh hst)).go hF hsh a w ha hn hd hst⟩
theorem notMark_ne (h : notMark k = true) : k ≠ markK := fun e => by subst e; cases h
theorem Fin.of (hk : notMark k = true) (h : Run P w0 n sh Q k ρ df Γ) : Fin P w0 n sh Q k ρ df Γ := ⟨fun e => absurd e (notMark_ne hk), fun _ => h⟩
theorem Fin.run (h : Fin P w0 n sh Q k ρ df Γ) : Run P w0 n sh Q k ρ df Γ := by
 by_cases hk : k = markK
 · subst hk
   refine zcn ⟨fun hF hsh a w ha hn hd hst => ?_⟩
   obtain ⟨Γ0, h1, h2⟩ := h.1 rfl hF w hsh hst
   exact wpk_nil ⟨hn, Γ0, by subst ha; subst hd; exact h1, h2⟩
 · exact h.2 hk
theorem Fin.perm {Γ' : List Asn} (hp : Γ.Perm Γ') (h : Fin P w0 n sh Q k ρ df Γ) : Fin P w0 n sh Q k ρ df Γ' :=
 ⟨fun e hF w hsh hst => h.1 e hF w hsh (hst.perm hp.symm), fun e => run_perm hp.symm (h.2 e)⟩
end
end Go.Vc
namespace Go.Vc
section
variable {P : Program} {w0 : World} {n : Nat} {sh : Shared} {Q : Exit → Env → List Deferred → List Asn → Prop} {k : List Item} {ρ : Env} {df : List Deferred} {Γ : List Asn} {hF : Heap}
variable {ops : Array Oper} {K : Env → List Deferred → List Asn → Prop}
def dstOk (n : Nat) (ops : Array Oper) : Bool := ops.all fun o => match o.dst with | some d => decide (d < n) | none => true
theorem wpk_opres {ro : Option Nat} {m i : Nat} {o : Oper} {a : Act} {w : World} {R : Exit → Act → World → Prop} {next : Act → World → Prop} (hro : ro = none ∨ noDefO ops = true) (ho : ops[i]? = some o)
   (ha : envOf a = ρ) (hn : a.tmps.size = n) (hd : a.defers = df)
   (hdst : ∀ d, o.dst = some d → d < n)
   (h : OpRes P w0 hF df (fun v df' Γ' => ∀ a' w', envOf a' = ρ.setO o.dst v → a'.tmps.size = n → a'.defers = df' → St w0 hF Γ' w' → next a' w') ((execOp (ev ρ) o).run P w)) :
   o.wpIn (FR ro) m P a w next R := by
 refine ⟨fun _ _ => trivial, ?_⟩
 rw [show (FR ro).round = ro from rfl, semAt_FR hro ho, eval_ev, ha]
 generalize (execOp (ev ρ) o).run P w = r at h
 have hput : ∀ v, envOf (a.put o.dst v) = ρ.setO o.dst v := fun v => by rw [envOf_put a o.dst v (fun d hd' => hn ▸ hdst d hd'), ha]
 cases r with
 | halt x w' => exact h.elim
 | ok nx w' =>
   cases nx <;> simp only [OpRes] at h <;> first|exact h.elim | skip
   case value v =>
     obtain ⟨Γ', hK, hs⟩ := h
     exact hK _ _ (hput v) (by rw [size_put, hn]) (by rw [defers_put, hd]) hs
   case skip =>
     obtain ⟨Γ', hK, hs⟩ := h
     exact hK _ _ (hput undef) (by rw [size_put, hn]) (by rw [defers_put, hd]) hs
   case enter f args =>
     refine ⟨fun h => by simp [FR, Fence.wide] at h, callsIn_FR (Calls.mono h fun e w'' ⟨v, Γ', he, hK, hs⟩ => ?_)⟩
     subst he
     exact hK _ _ (hput v) (by rw [size_put, hn]) (by rw [defers_put, hd]) hs
   case round l f tmps assign body =>
     refine ⟨fun h => by simp [FR, Fence.wide] at h, roundIn_FR (RoundIn.mono h fun e w'' ⟨v, Γ', he, hK, hs⟩ => ?_)⟩
     subst he
     exact hK _ _ (hput v) (by rw [size_put, hn]) (by rw [defers_put, hd]) hs
   case defer d =>
     obtain ⟨Γ', hK, hs⟩ := h
     refine hK _ _ ?_ (by rw [size_put]; exact hn) (by rw [defers_put, hd]) hs
     rw [← hput undef]
     cases o.dst <;> rfl
theorem runAt_WR {Q' : Exit → Act → World → Prop} {ro : Option Nat} {m : Nat} (hro : ro = none ∨ noDefO ops = true) (hdst : dstOk n ops = true) (hsh : Sh sh hF)
   (hK : ∀ ρ df Γ a w, Fin P w0 n sh Q k ρ df Γ → envOf a = ρ → a.tmps.size = n → a.defers = df → St w0 hF Γ w → Q' .normal a w) : ∀ (l : List (Fl × Nat × Oper)), (∀ p ∈ l, ops[p.2.1]? = some p.2.2) → ∀ {ρ df Γ},
   WR P w0 n sh Q ops k l ρ df Γ → ∀ a w, envOf a = ρ → a.tmps.size = n → a.defers = df → St w0 hF Γ w → wpOpsIn (FR ro) m P ops Q' (l.map (·.2.1)) a w
 | [], _, ρ, df, Γ, h => fun a w ha hn hd hst => hK _ _ _ _ _ h ha hn hd hst
 | (b, i, o) :: l, hl, ρ, df, Γ, h => by
   intro a w ha hn hd hst
   have ho : ops[i]? = some o := hl _ (List.mem_cons_self ..)
   have hl' : ∀ p ∈ l, ops[p.2.1]? = some p.2.2 := fun p hp => hl p (List.mem_cons_of_mem _ hp)
   have hdo : ∀ d, o.dst = some d → d < n := fun d hd => by
     have := Array.all_eq_true_iff_forall_mem.1 hdst o (Array.mem_of_getElem? ho)
     simpa [hd] using this
   have hwant : Region.wanted o (yielded ops a.tmps) = wantedE ops ρ o := by rw [yielded_eq, ha]; rfl
   simp only [WR] at h
   simp only [List.map_cons, wpOpsIn, ho]
   rw [hwant]
   by_cases hw : wantedE ops ρ o = true
   · rw [if_pos hw] at h ⊢
     have key : OpRes P w0 hF df (fun v df' Γ' => WR P w0 n sh Q ops k l (ρ.setO o.dst v) df' Γ') ((execOp (ev ρ) o).run P w) := by
       split at h
       · obtain ⟨v, hq, hW⟩ := h
         exact (hq hF hsh).opW (K := fun v df' Γ' => WR P w0 n sh Q ops k l (ρ.setO o.dst v) df' Γ') hW w hst
       split at h
       · obtain ⟨v, hq, hW⟩ := h
         exact (hq hF hsh).opW (K := fun v df' Γ' => WR P w0 n sh Q ops k l (ρ.setO o.dst v) df' Γ') hW w hst
       · split at h
         · obtain ⟨obj, val, hal, hW⟩ := h ⟨hF, w, hsh, hst⟩
           rw [hal w]
           have h2 : St w0 hF (Γ ++ [pt w.heap.size obj]) { w with heap := w.heap.push obj } := (hst.alloc obj).perm (List.perm_append_comm (l₁ := [_]))
           exact ⟨_, hW _ ⟨hF, _, hsh, h2⟩, h2⟩
         · obtain ⟨R, h1, h2⟩ := h
           exact (h1 hF hsh w hst).mono fun v df' Γ' _ _ hR => h2 v df' Γ' hR
     refine wpk_opres hro ho ha hn hd hdo (key.mono fun v df' Γ' w1 _ hW a' w' ha' hn' hd' hs' => ?_)
     exact runAt_WR hro hdst hsh hK l hl' hW a' w' ha' hn' hd' hs'
   · rw [if_neg hw] at h ⊢
     refine ⟨fun _ _ => trivial, ?_⟩
     exact runAt_WR hro hdst hsh hK l hl' h _ w (by rw [envOf_put a o.dst undef (fun d hd' => hn ▸ hdo d hd'), ha]) (by rw [size_put, hn]) (by rw [defers_put, hd]) hst
theorem mkl_idx : ∀ (fl : List Fl) (i : Nat) (l : List Oper), (mkl fl i l).map (·.2.1) = List.range' i l.length
 | fl, i, [] => by cases fl <;> rfl
 | [], i, o :: l => by simp only [mkl, List.map_cons, List.length_cons, List.range'_succ]; rw [mkl_idx [] (i + 1) l]
 | b :: fl, i, o :: l => by simp only [mkl, List.map_cons, List.length_cons, List.range'_succ]; rw [mkl_idx fl (i + 1) l]
theorem mkl_mem : ∀ (fl : List Fl) (i : Nat) (l : List Oper), ∀ p ∈ mkl fl i l, l[p.2.1 - i]? = some p.2.2 ∧ i ≤ p.2.1
 | fl, i, [], p, hp => by cases fl <;> simp [mkl] at hp
 | [], i, o :: l, p, hp => by
   simp only [mkl] at hp
   rcases List.mem_cons.1 hp with rfl | hp
   · simp
   · obtain ⟨h1, h2⟩ := mkl_mem [] (i + 1) l p hp
     refine ⟨?_, by omega⟩
     have : p.2.1 - i = (p.2.1 - (i + 1)) + 1 := by omega
     rw [this]; simpa using h1
 | b :: fl, i, o :: l, p, hp => by
   simp only [mkl] at hp
   rcases List.mem_cons.1 hp with rfl | hp
   · simp
   · obtain ⟨h1, h2⟩ := mkl_mem fl (i + 1) l p hp
     refine ⟨?_, by omega⟩
     have : p.2.1 - i = (p.2.1 - (i + 1)) + 1 := by omega
     rw [this]; simpa using h1
theorem mkl_get (fl : List Fl) (ops : Array Oper) : ∀ p ∈ mkl fl 0 ops.toList, ops[p.2.1]? = some p.2.2 := fun p hp => by
 have := (mkl_mem fl 0 ops.toList p hp).1
 simpa using this
theorem zcp {id : Nat} {l : List Oper} (hdst : dstOk n l.toArray = true) (h : Reg P w0 n sh Q l.toArray (mkl [] 0 l) k ρ df Γ) :
   Run P w0 n sh Q (.code (.region id l.toArray false) :: k) ρ df Γ := by
 refine ⟨?_⟩
 intro hF hsh a w ha hn hd hst
 refine wpk_of_cutR fun ro hro => wpIn_region ?_
 have h1 := runAt_WR (ro := ro) (m := 0) (Q := Q) (k := k) hro hdst hsh (fun ρ df Γ a w hK ha hn hd hst => (show cutQ P k (liftQ w0 n hF Q) .normal a w from (Fin.run hK).go hF hsh a w ha hn hd hst)) (mkl [] 0 l) (by simpa using mkl_get [] l.toArray) h.go a w ha hn hd hst
 rw [mkl_idx] at h1
 simpa [List.range_eq_range'] using h1
def edgeBits (acc : List Nat) : List Edge → Nat
 | [] => 0
 | e :: l => bif Region.binds .any e then (1 <<< e.on) ||| (acc.getD e.on 0) ||| edgeBits acc l else edgeBits acc l
def depBits : List Oper → List Nat → List Nat
 | [], acc => acc
 | o :: l, acc => depBits l (acc ++ [edgeBits acc o.after.toList])
def tmpBits : List Tmp → Nat
 | [] => 0
 | t :: l => (1 <<< t) ||| tmpBits l
def rowOf (ops : Array Oper) (D : List Nat) (p : Fl × Nat × Oper) : Fl × Bool × Nat × Option Nat × Nat × Nat :=
 (p.1, allocOp p.2.2.op, p.2.1, p.2.2.dst, tmpBits (p.2.2.looksAt ops), D.getD p.2.1 0)
def optNe (d : Nat) : Option Nat → Bool
 | some e => !Nat.beq d e
 | none => true
def okFl (q p : Fl) (pa : Bool) : Bool :=
 match q, p with
 | .quiet, _ | _, .quiet | .read, .read => true
 | _, .loud => pa
 | .loud, .read => false
def okRow (q p : Fl × Bool × Nat × Option Nat × Nat × Nat) : Bool :=
 match q, p with
 | (q1, _, qi, qd, ql, _), (p1, pa, _, pd, pl, pD) =>
   Nat.testBit pD qi || ((match qd with | some d => !Nat.testBit pl d && optNe d pd | none => true) && (match pd with | some d => !Nat.testBit ql d | none => true) && okFl q1 p1 pa)
def okRows : List (Fl × Bool × Nat × Option Nat × Nat × Nat) → Bool
 | [] => true
 | q :: l => l.all (okRow q) && okRows l
def okPair (ops : Array Oper) (D : List Nat) (q p : Fl × Nat × Oper) : Bool := okRow (rowOf ops D q) (rowOf ops D p)
def okList (ops : Array Oper) (D : List Nat) (l : List (Fl × Nat × Oper)) : Bool := okRows (l.map (rowOf ops D))
def edgesOk : Nat → List Oper → Bool
 | _, [] => true
 | i, o :: l => (o.after.toList.all fun e => !Region.binds .any e || Nat.blt e.on i) && edgesOk (i + 1) l
def okDraw (ops : Array Oper) (l : List (Fl × Nat × Oper)) : Bool :=
 okList ops (depBits ops.toList []) l && Region.noSelect ops && edgesOk 0 ops.toList
theorem tmpBits_mem : ∀ {l : List Tmp} {t : Tmp}, t ∈ l → Nat.testBit (tmpBits l) t = true
 | u :: l, t, h => by
   rcases List.mem_cons.1 h with rfl | h
   · simp only [tmpBits, Nat.testBit_or, Nat.one_shiftLeft, Nat.testBit_two_pow_self, Bool.true_or]
   · have := tmpBits_mem h
     simp only [tmpBits, Nat.testBit_or, this, Bool.or_true]
theorem okPair_apart {D : List Nat} {q p : Fl × Nat × Oper} (h : okPair ops D q p = true) : Nat.testBit (D.getD p.2.1 0) q.2.1 = true ∨ (q.2.2.apart ops p.2.2 = true ∧ okFl q.1 p.1 (allocOp p.2.2.op) = true) := by
 simp only [okPair, rowOf, okRow, Bool.or_eq_true, Bool.and_eq_true] at h
 rcases h with h | ⟨⟨h1, h2⟩, h3⟩
 · exact .inl h
 · refine .inr ⟨?_, by simpa using h3⟩
   simp only [Oper.apart, Bool.and_eq_true]
   refine ⟨?_, ?_⟩
   · cases hd : q.2.2.dst with
     | none => rfl
     | some d =>
       rw [hd] at h1
       simp only [Bool.and_eq_true] at h1 ⊢
       refine ⟨?_, ?_⟩
       · cases hc : (p.2.2.looksAt ops).contains d with
         | false => rfl
         | true => have := tmpBits_mem (List.contains_iff_mem.1 hc); rw [this] at h1; simp at h1
       · cases he : p.2.2.dst with
         | none => rfl
         | some e =>
           rw [he] at h1
           simp only [optNe] at h1
           have hne : d ≠ e := fun e' => by subst e'; simp at h1
           simp [Ne.symm hne]
   · cases hd : p.2.2.dst with
     | none => rfl
     | some d =>
       rw [hd] at h2
       simp only at h2 ⊢
       cases hc : (q.2.2.looksAt ops).contains d with
       | false => rfl
       | true => have := tmpBits_mem (List.contains_iff_mem.1 hc); rw [this] at h2; simp at h2
theorem edgeBits_spec {acc : List Nat} : ∀ {l : List Edge} {j : Nat}, Nat.testBit (edgeBits acc l) j = true → ∃ e ∈ l, Region.binds .any e = true ∧ (e.on = j ∨ Nat.testBit (acc.getD e.on 0) j = true)
 | [], j, h => by simp [edgeBits] at h
 | e :: l, j, h => by
   simp only [edgeBits] at h
   cases hb : Region.binds .any e with
   | false =>
     rw [hb] at h
     obtain ⟨e', h1, h2⟩ := edgeBits_spec (l := l) h
     exact ⟨e', List.mem_cons_of_mem _ h1, h2⟩
   | true =>
     rw [hb] at h
     simp only [cond_true, Nat.testBit_or, Bool.or_eq_true] at h
     rcases h with (h | h) | h
     · refine ⟨e, List.mem_cons_self .., hb, .inl ?_⟩
       rw [Nat.one_shiftLeft, Nat.testBit_two_pow] at h
       simpa using h
     · exact ⟨e, List.mem_cons_self .., hb, .inr h⟩
     · obtain ⟨e', h1, h2⟩ := edgeBits_spec (l := l) h
       exact ⟨e', List.mem_cons_of_mem _ h1, h2⟩
theorem depBits_spec : ∀ (l : List Oper) (acc : List Nat), ∃ r, depBits l acc = acc ++ r ∧ r.length = l.length ∧ ∀ k o, l[k]? = some o → r[k]? = some (edgeBits (acc ++ r.take k) o.after.toList)
 | [], acc => ⟨[], by simp [depBits], rfl, by simp⟩
 | o :: l, acc => by
   obtain ⟨r, h1, h2, h3⟩ := depBits_spec l (acc ++ [edgeBits acc o.after.toList])
   refine ⟨edgeBits acc o.after.toList :: r, by simp [depBits, h1], by simp [h2], fun k o' hk => ?_⟩
   cases k with
   | zero => simp at hk; subst hk; simp
   | succ k =>
     simp only [List.getElem?_cons_succ] at hk ⊢
     rw [h3 k o' hk]; simp
theorem dep_listed {listed : Array Bool} (hcl : ∀ (i : Nat) (o : Oper), ops[i]? = some o → listed.getD i false = true → ∀ e ∈ o.after, Region.binds .any e = true → listed.getD e.on false = true) :
   ∀ (i j : Nat) (o : Oper), ops[i]? = some o → (∀ e ∈ o.after, Region.binds .any e = true → listed.getD e.on false = true) → Nat.testBit ((depBits ops.toList []).getD i 0) j = true → listed.getD j false = true := by
 obtain ⟨r, h1, h2, h3⟩ := depBits_spec ops.toList []
 rw [List.nil_append] at h1
 intro i
 induction i using Nat.strongRecOn with
 | _ i ih =>
   intro j o ho hall h
   have hi : ops.toList[i]? = some o := by simpa using ho
   rw [h1, List.getD_eq_getElem?_getD, h3 i o hi] at h
   simp only [List.nil_append, Option.getD_some] at h
   obtain ⟨e, he, hb, hj⟩ := edgeBits_spec h
   have he' : e ∈ o.after := by simpa using he
   have hl := hall e he' hb
   rcases hj with rfl | hj
   · exact hl
   · have hlt : e.on < i := by
       rcases Nat.lt_or_ge e.on i with h | h
       · exact h
       · rw [List.getD_eq_getElem?_getD, List.getElem?_eq_none (by simp; omega)] at hj
         simp at hj
     have hir : i < r.length := by
       have := (List.getElem?_eq_some_iff.1 hi).1; omega
     cases hoe : ops[e.on]? with
     | none =>
       exfalso
       have h4 := (Array.getElem?_eq_some_iff.1 ho).1
       rw [Array.getElem?_eq_none_iff] at hoe
       omega
     | some o' =>
       refine ih e.on hlt j o' hoe (hcl _ _ hoe hl) ?_
       rw [h1]
       rw [List.getD_eq_getElem?_getD, List.getElem?_take, if_pos hlt] at hj
       rw [List.getD_eq_getElem?_getD]; exact hj
theorem edgesOk_spec : ∀ (l : List Oper) (i : Nat), edgesOk i l = true → ∀ k o, l[k]? = some o → ∀ e ∈ o.after, Region.binds .any e = true → e.on < i + k
 | [], i, _, k, o, ho => by simp at ho
 | o :: l, i, h, k, o', ho => by
   simp only [edgesOk, Bool.and_eq_true, List.all_eq_true] at h
   cases k with
   | zero =>
     simp at ho; subst ho
     intro e he hb
     have := h.1 e (by simpa using he)
     simp only [hb, Bool.not_true, Bool.false_or, Nat.blt_eq] at this
     exact this
   | succ k =>
     intro e he hb
     have := edgesOk_spec l (i + 1) h.2 k o' (by simpa using ho) e he hb
     omega
theorem setO_comm (ρ : Env) {x y : Option Tmp} (v u : Value) (h : ∀ d, x = some d → y ≠ some d) : (ρ.setO x v).setO y u = (ρ.setO y u).setO x v := by
 cases x with
 | none => rfl
 | some d =>
   cases y with
   | none => rfl
   | some e =>
     have hne : d ≠ e := fun he => h d rfl (he ▸ rfl)
     funext t
     simp only [Env.setO, Env.set]
     by_cases h1 : t = d
     · by_cases h2 : t = e
       · exact absurd (h1.symm.trans h2) hne
       · have e1 : Nat.beq t e = false := by cases hb : Nat.beq t e with | false => rfl | true => exact absurd (Nat.eq_of_beq_eq_true hb) h2
         simp [e1]
     · have e1 : Nat.beq t d = false := by cases hb : Nat.beq t d with | false => rfl | true => exact absurd (Nat.eq_of_beq_eq_true hb) h1
       simp [e1]
theorem ev_setO {ρ : Env} {dst : Option Tmp} {v : Value} {x : Operand} (h : ∀ d, dst = some d → x ≠ .tmp d) : ev (ρ.setO dst v) x = ev ρ x := by
 cases dst with
 | none => rfl
 | some d =>
   cases x with
   | tmp t =>
     have hne : t ≠ d := fun e => h d rfl (e ▸ rfl)
     have e1 : Nat.beq t d = false := by cases hb : Nat.beq t d with | false => rfl | true => exact absurd (Nat.eq_of_beq_eq_true hb) hne
     simp [ev, Env.setO, Env.set, e1]
   | _ => rfl
theorem exec_setO {o : Oper} (hs : ∀ cs b, o.op ≠ .select cs b) {ρ : Env} {dst : Option Tmp} {v : Value} (h : ∀ d, dst = some d → d ∉ o.looksAt ops) :
   execOp (ev (ρ.setO dst v)) o = execOp (ev ρ) o :=
 execOp_congr o hs fun x hx => ev_setO fun d hd hxd => h d hd (by
   subst hxd
   exact List.mem_append_left _ (List.mem_filterMap.2 ⟨.tmp d, by simpa using hx, rfl⟩))
theorem wanted_setO {o : Oper} {ρ : Env} {dst : Option Tmp} {v : Value} (h : ∀ d, dst = some d → d ∉ o.looksAt ops) : wantedE ops (ρ.setO dst v) o = wantedE ops ρ o := by
 unfold wantedE Region.wanted
 cases hg : o.guard with
 | none => rfl
 | some gw =>
   obtain ⟨g, want⟩ := gw
   have : yieldedE ops (ρ.setO dst v) g = yieldedE ops ρ g := by
     unfold yieldedE
     cases ht : (ops[g]?).bind (·.dst) with
     | none => rfl
     | some t =>
       have : (ρ.setO dst v) t = ρ t := ev_setO (x := .tmp t) fun d hd hx => h d hd (by injection hx with hx; subst hx; simp [Oper.looksAt, hg, ht])
       simp only [this]
   simp only [this]
theorem OpRes.frame {Γp : List Asn} {g : Heap} {K : Value → List Deferred → List Asn → Prop} {r : Result Next} (hg : Stars Γp g) (hd : Disj g hF) (h : OpRes P w0 (g.or hF) df K r) :
   OpRes P w0 hF df (fun v df' Γ'' => ∃ Γ' w', K v df' Γ' ∧ Γ'' = Γ' ++ Γp ∧ St w0 hF Γ'' w') r := by
 cases r with
 | halt x w => exact h.elim
 | ok n w =>
   cases n <;> simp only [OpRes] at h ⊢ <;> first
    |exact h.elim
     | (obtain ⟨Γ', hK, hs⟩ := h; exact ⟨_, ⟨Γ', _, hK, rfl, hs.join hg hd⟩, hs.join hg hd⟩)
    |exact h.mono fun e w' ⟨v, Γ', he, hK, hs⟩ => ⟨v, _, he, ⟨Γ', w', hK, rfl, hs.join hg hd⟩, hs.join hg hd⟩
theorem SatG.perm {Γ' : List Asn} (h : SatG w0 sh Γ) (hp : Γ.Perm Γ') : SatG w0 sh Γ' := let ⟨hF, w, h1, h2⟩ := h; ⟨hF, w, h1, h2.perm hp⟩
theorem SatG.left {Γ' : List Asn} (h : SatG w0 sh (Γ ++ Γ')) : SatG w0 sh Γ := by
 obtain ⟨hF, w, h1, h2⟩ := h
 obtain ⟨g, hg, hd, h3⟩ := h2.split
 refine ⟨g.or hF, w, fun p hp => ?_, h3⟩
 have := h1 p hp
 rcases hd p.1 with e | e
 · simp [Heap.or, e, this]
 · rw [e] at this; cases this
theorem sh_or {g : Heap} (h1 : Sh sh hF) (hd : Disj g hF) : Sh sh (g.or hF) := fun p hp => by
 have := h1 p hp
 rcases hd p.1 with e | e
 · simp [Heap.or, e, this]
 · rw [e] at this; cases this
theorem SatG.alloc (h : SatG w0 sh Γ) (obj : Obj) : ∃ nb, SatG w0 sh (Γ ++ [pt nb obj]) := by
 obtain ⟨hF, w, h1, h2⟩ := h
 exact ⟨w.heap.size, hF, _, h1, (h2.alloc obj).perm (List.perm_append_comm (l₁ := [_]))⟩
theorem WR_perm : ∀ (l : List (Fl × Nat × Oper)) {ρ : Env} {df : List Deferred} {Γ Γ' : List Asn}, Γ.Perm Γ' → WR P w0 n sh Q ops k l ρ df Γ → WR P w0 n sh Q ops k l ρ df Γ'
 | [], ρ, df, Γ, Γ', hp, h => Fin.perm hp h
 | (b, i, o) :: l, ρ, df, Γ, Γ', hp, h => by
   simp only [WR] at h ⊢
   split
   · rename_i hw
     rw [if_pos hw] at h
     split
     · rename_i hb
       rw [if_pos hb] at h
       obtain ⟨v, h1, h2⟩ := h
       exact ⟨v, h1, WR_perm l hp h2⟩
     rename_i hb
     rw [if_neg hb] at h
     split
     · rename_i hr
       rw [if_pos hr] at h
       obtain ⟨v, h1, h2⟩ := h
       refine ⟨v, fun hF hsh w hst => ?_, WR_perm l hp h2⟩
       obtain ⟨w', e1, e2⟩ := h1 hF hsh w (hst.perm hp.symm)
       exact ⟨w', e1, e2.perm hp⟩
     · rename_i hr
       rw [if_neg hr] at h
       split
       · rename_i hal
         rw [if_pos hal] at h
         intro hs0
         obtain ⟨obj, val, h1, h2⟩ := h (hs0.perm hp.symm)
         exact ⟨obj, val, h1, fun nb hs => WR_perm l (hp.append_right _) (h2 nb (hs.perm (hp.symm.append_right _)))⟩
       · rename_i hal
         rw [if_neg hal] at h
         obtain ⟨R, h1, h2⟩ := h
         exact ⟨R, fun hF hsh w hst => h1 hF hsh w (hst.perm hp.symm), h2⟩
   · rename_i hw
     rw [if_neg hw] at h
     exact WR_perm l hp h
theorem AllocAt.uniq {o : Oper} {obj obj' : Obj} {val val' : Nat → Value} (w0 : World) (h : AllocAt P o ρ obj val) (h' : AllocAt P o ρ obj' val') : obj = obj' ∧ val = val' := by
 have key : ∀ m : Nat, val m = val' m ∧ obj = obj' := fun m => by
   have e1 := h { w0 with heap := Array.replicate m obj }
   have e2 := h' { w0 with heap := Array.replicate m obj }
   rw [e1] at e2
   simp only [Result.ok.injEq, Next.value.injEq, Array.size_replicate] at e2
   obtain ⟨e3, e4⟩ := e2
   refine ⟨e3, ?_⟩
   have e5 := congrArg World.heap e4
   have e6 := congrArg (fun a : Array Obj => a.back?) e5
   simpa using e6
 exact ⟨(key 0).2, funext fun m => (key m).1⟩
def Nx (P : Program) (w0 : World) (n : Nat) (sh : Shared) (Q : Exit → Env → List Deferred → List Asn → Prop) (ops : Array Oper) (k : List Item) (b : Fl) (o : Oper) (l : List (Fl × Nat × Oper)) (ρ : Env) (df : List Deferred) (Γ : List Asn) : Prop :=
 if wantedE ops ρ o = true then
   (if b = .quiet then ∃ v, (∀ hF, Sh sh hF → QuietAt P w0 hF o ρ v) ∧ WR P w0 n sh Q ops k l (ρ.setO o.dst v) df Γ
    else if b = .read then ∃ v, (∀ hF, Sh sh hF → ReadAt P w0 hF o ρ Γ v) ∧ WR P w0 n sh Q ops k l (ρ.setO o.dst v) df Γ
    else if allocOp o.op = true then SatG w0 sh Γ → ∃ obj val, AllocAt P o ρ obj val ∧ ∀ nb, SatG w0 sh (Γ ++ [pt nb obj]) → WR P w0 n sh Q ops k l (ρ.setO o.dst (val nb)) df (Γ ++ [pt nb obj])
    else ∃ R : Value → List Deferred → List Asn → Prop, (∀ hF, Sh sh hF → OpW P w0 hF o ρ df Γ R) ∧ ∀ v df' Γ', R v df' Γ' → WR P w0 n sh Q ops k l (ρ.setO o.dst v) df' Γ')
 else WR P w0 n sh Q ops k l (ρ.setO o.dst undef) df Γ
theorem WR_pull (hsel : Region.noSelect ops = true) : ∀ (pre : List (Fl × Nat × Oper)) (b : Fl) (i : Nat) (o : Oper) (post : List (Fl × Nat × Oper)),
   (∀ p ∈ pre ++ (b, i, o) :: post, ops[p.2.1]? = some p.2.2) → (∀ q ∈ pre, q.2.2.apart ops o = true ∧ okFl q.1 b (allocOp o.op) = true) → ∀ {ρ df Γ},
   WR P w0 n sh Q ops k (pre ++ (b, i, o) :: post) ρ df Γ → SatG w0 sh Γ → Nx P w0 n sh Q ops k b o (pre ++ post) ρ df Γ
 | [], b, i, o, post, _, _, ρ, df, Γ, h, _ => h
 | (bj, j, oj) :: pre, b, i, o, post, hidx, hap, ρ, df, Γ, h, hsat => by
   obtain ⟨hapj, hfl⟩ := hap (bj, j, oj) (List.mem_cons_self ..)
   obtain ⟨h1, h2, h3⟩ := Oper.apart_spec hapj
   have hsj : ∀ cs b, oj.op ≠ .select cs b := fun cs b => Region.noSelect_spec hsel j oj cs b (hidx (bj, j, oj) (by simp))
   have hsi : ∀ cs b, o.op ≠ .select cs b := fun cs b' => Region.noSelect_spec hsel i o cs b' (hidx (b, i, o) (by simp))
   have ih := fun {ρ df Γ} => WR_pull hsel pre b i o post (fun p hp => hidx p (List.mem_cons_of_mem _ hp)) (fun q hq => hap q (List.mem_cons_of_mem _ hq)) (ρ := ρ) (df := df) (Γ := Γ)
   have wi : ∀ (ρ : Env) (u : Value), wantedE ops (ρ.setO oj.dst u) o = wantedE ops ρ o := fun ρ u => wanted_setO h1
   have wj : ∀ (ρ : Env) (u : Value), wantedE ops (ρ.setO o.dst u) oj = wantedE ops ρ oj := fun ρ u => wanted_setO h3
   have xi : ∀ (ρ : Env) (u : Value), execOp (ev (ρ.setO oj.dst u)) o = execOp (ev ρ) o := fun ρ u => exec_setO hsi h1
   have xj : ∀ (ρ : Env) (u : Value), execOp (ev (ρ.setO o.dst u)) oj = execOp (ev ρ) oj := fun ρ u => exec_setO hsj h3
   have qi : ∀ (hF : Heap) (ρ : Env) (u v : Value), QuietAt P w0 hF o (ρ.setO oj.dst u) v → QuietAt P w0 hF o ρ v := fun hF ρ u v hq => by unfold QuietAt at *; rw [xi] at hq; exact hq
   have qj : ∀ (hF : Heap) (ρ : Env) (u v : Value), QuietAt P w0 hF oj ρ v → QuietAt P w0 hF oj (ρ.setO o.dst u) v := fun hF ρ u v hq => by unfold QuietAt at *; rw [xj]; exact hq
   have ri : ∀ (hF : Heap) (ρ : Env) (u v : Value) (Γ : List Asn), ReadAt P w0 hF o (ρ.setO oj.dst u) Γ v → ReadAt P w0 hF o ρ Γ v := fun hF ρ u v Γ hq => by unfold ReadAt at *; rw [xi] at hq; exact hq
   have rj : ∀ (hF : Heap) (ρ : Env) (u v : Value) (Γ : List Asn), ReadAt P w0 hF oj ρ Γ v → ReadAt P w0 hF oj (ρ.setO o.dst u) Γ v := fun hF ρ u v Γ hq => by unfold ReadAt at *; rw [xj]; exact hq
   have ai : ∀ (ρ : Env) (u : Value) (obj : Obj) (val : Nat → Value), AllocAt P o (ρ.setO oj.dst u) obj val → AllocAt P o ρ obj val := fun ρ u obj val hq => by unfold AllocAt at *; rw [xi] at hq; exact hq
   have aj : ∀ (ρ : Env) (u : Value) (obj : Obj) (val : Nat → Value), AllocAt P oj ρ obj val → AllocAt P oj (ρ.setO o.dst u) obj val := fun ρ u obj val hq => by unfold AllocAt at *; rw [xj]; exact hq
   have cm : ∀ (ρ : Env) (u v : Value), (ρ.setO oj.dst u).setO o.dst v = (ρ.setO o.dst v).setO oj.dst u := fun ρ u v => setO_comm ρ u v h2
   -- the value of a quiet operation is one
   have quniq : ∀ (v v' : Value), (∀ hF, Sh sh hF → QuietAt P w0 hF o ρ v) → (∀ hF, Sh sh hF → QuietAt P w0 hF o ρ v') → v = v' := fun v v' hv hv' => by
     obtain ⟨hF, w, hsh, hst⟩ := hsat
     obtain ⟨w5, e5, _⟩ := hv hF hsh w Γ hst
     obtain ⟨w6, e6, _⟩ := hv' hF hsh w Γ hst
     rw [e5] at e6
     injection e6 with e6 _
     injection e6
   simp only [List.cons_append, WR] at h ⊢
   unfold Nx at ih ⊢
   by_cases hwj : wantedE ops ρ oj = true
   · rw [if_pos hwj] at h
     cases bj with
     | quiet =>
       simp only [if_true] at h
       obtain ⟨u, hq, hW⟩ := h
       have h4 := ih hW hsat
       rw [wi] at h4
       by_cases hwi : wantedE ops ρ o = true
       · rw [if_pos hwi] at h4 ⊢
         cases b with
         | quiet =>
           simp only [if_true] at h4 ⊢
           obtain ⟨v, h5, h6⟩ := h4
           refine ⟨v, fun hF hsh => qi hF ρ u v (h5 hF hsh), ?_⟩
           simp only [WR, if_true]
           rw [wj, if_pos hwj]
           exact ⟨u, fun hF hsh => qj hF ρ v u (hq hF hsh), by rw [← cm]; exact h6⟩
         | read =>
           simp only [reduceCtorEq, if_false, if_true] at h4 ⊢
           obtain ⟨v, h5, h6⟩ := h4
           refine ⟨v, fun hF hsh => ri hF ρ u v Γ (h5 hF hsh), ?_⟩
           simp only [WR, if_true]
           rw [wj, if_pos hwj]
           exact ⟨u, fun hF hsh => qj hF ρ v u (hq hF hsh), by rw [← cm]; exact h6⟩
         | loud =>
           simp only [reduceCtorEq, if_false] at h4 ⊢
           by_cases hal : allocOp o.op = true
           · rw [if_pos hal] at h4 ⊢
             obtain ⟨obj, val, h5, h6⟩ := h4 hsat
             refine fun _ => ⟨obj, val, ai ρ u obj val h5, fun nb hs => ?_⟩
             simp only [WR, if_true]
             rw [wj, if_pos hwj]
             exact ⟨u, fun hF hsh => qj hF ρ _ u (hq hF hsh), by rw [← cm]; exact h6 nb hs⟩
           · rw [if_neg hal] at h4 ⊢
             obtain ⟨R, h5, h6⟩ := h4
             refine ⟨R, fun hF hsh w hst => ?_, fun v df' Γ' hR => ?_⟩
             · have := h5 hF hsh w hst; rw [xi] at this; exact this
             · simp only [WR, if_true]
               rw [wj, if_pos hwj]
               exact ⟨u, fun hF hsh => qj hF ρ v u (hq hF hsh), by rw [← cm]; exact h6 v df' Γ' hR⟩
       · rw [if_neg hwi] at h4 ⊢
         simp only [WR, if_true]
         rw [wj, if_pos hwj]
         exact ⟨u, fun hF hsh => qj hF ρ undef u (hq hF hsh), by rw [← cm]; exact h4⟩
     | read =>
       simp only [reduceCtorEq, if_false, if_true] at h
       obtain ⟨u, hq, hW⟩ := h
       have h4 := ih hW hsat
       rw [wi] at h4
       by_cases hwi : wantedE ops ρ o = true
       · rw [if_pos hwi] at h4 ⊢
         cases b with
         | quiet =>
           simp only [if_true] at h4 ⊢
           obtain ⟨v, h5, h6⟩ := h4
           refine ⟨v, fun hF hsh => qi hF ρ u v (h5 hF hsh), ?_⟩
           simp only [WR, reduceCtorEq, if_false, if_true]
           rw [wj, if_pos hwj]
           exact ⟨u, fun hF hsh => rj hF ρ v u Γ (hq hF hsh), by rw [← cm]; exact h6⟩
         | read =>
           simp only [reduceCtorEq, if_false, if_true] at h4 ⊢
           obtain ⟨v, h5, h6⟩ := h4
           refine ⟨v, fun hF hsh => ri hF ρ u v Γ (h5 hF hsh), ?_⟩
           simp only [WR, reduceCtorEq, if_false, if_true]
           rw [wj, if_pos hwj]
           exact ⟨u, fun hF hsh => rj hF ρ v u Γ (hq hF hsh), by rw [← cm]; exact h6⟩
         | loud =>
           simp only [reduceCtorEq, if_false] at h4 ⊢
           have hal : allocOp o.op = true := hfl
           rw [if_pos hal] at h4 ⊢
           obtain ⟨obj, val, h5, h6⟩ := h4 hsat
           refine fun _ => ⟨obj, val, ai ρ u obj val h5, fun nb hs => ?_⟩
           simp only [WR, reduceCtorEq, if_false, if_true]
           rw [wj, if_pos hwj]
           refine ⟨u, fun hF hsh w hst => ?_, by rw [← cm]; exact h6 nb hs⟩
           obtain ⟨g, hg, hd, hst1⟩ := hst.split
           obtain ⟨w', e1, e2⟩ := rj (g.or hF) ρ (val nb) u Γ (hq (g.or hF) (sh_or hsh hd)) w hst1
           exact ⟨w', e1, e2.join hg hd⟩
       · rw [if_neg hwi] at h4 ⊢
         simp only [WR, reduceCtorEq, if_false, if_true]
         rw [wj, if_pos hwj]
         exact ⟨u, fun hF hsh => rj hF ρ undef u Γ (hq hF hsh), by rw [← cm]; exact h4⟩
     | loud =>
       simp only [reduceCtorEq, if_false] at h
       by_cases halj : allocOp oj.op = true
       · -- j makes a block
         rw [if_pos halj] at h
         obtain ⟨objj, valj, hajj, hW⟩ := h hsat
         obtain ⟨nb0, hs0⟩ := hsat.alloc objj
         have h40 := ih (hW nb0 hs0) hs0
         rw [wi] at h40
         by_cases hwi : wantedE ops ρ o = true
         · rw [if_pos hwi] at h40 ⊢
           cases b with
           | read => exact absurd hfl (by simp [okFl])
           | quiet =>
             simp only [if_true] at h40 ⊢
             obtain ⟨v, h5, _⟩ := h40
             have h5' : ∀ hF, Sh sh hF → QuietAt P w0 hF o ρ v := fun hF hsh => qi hF ρ _ v (h5 hF hsh)
             refine ⟨v, h5', ?_⟩
             simp only [WR, reduceCtorEq, if_false]
             rw [wj, if_pos hwj, if_pos halj]
             refine fun _ => ⟨objj, valj, aj ρ v _ _ hajj, fun nb hs => ?_⟩
             have h4 := ih (hW nb hs) hs
             rw [wi, if_pos hwi] at h4
             simp only [if_true] at h4
             obtain ⟨v', h7, h8⟩ := h4
             have hvv := quniq v' v (fun hF hsh => qi hF ρ _ v' (h7 hF hsh)) h5'
             subst hvv
             rw [← cm]; exact h8
           | loud =>
             simp only [reduceCtorEq, if_false] at h40 ⊢
             have hal : allocOp o.op = true := hfl
             rw [if_pos hal] at h40 ⊢
             obtain ⟨obj, val, h5, _⟩ := h40 hs0
             have h5' := ai ρ _ obj val h5
             refine fun _ => ⟨obj, val, h5', fun nb' hs' => ?_⟩
             simp only [WR, reduceCtorEq, if_false]
             rw [wj, if_pos hwj, if_pos halj]
             refine fun _ => ⟨objj, valj, aj ρ _ _ _ hajj, fun nb hs => ?_⟩
             have hpm : (Γ ++ [pt nb' obj] ++ [pt nb objj]).Perm (Γ ++ [pt nb objj] ++ [pt nb' obj]) := by
               rw [List.append_assoc, List.append_assoc]
               exact List.Perm.append_left _ (List.perm_append_comm (l₁ := [_]))
             have hs2 := hs.perm hpm
             have h4 := ih (hW nb hs2.left) hs2.left
             rw [wi, if_pos hwi] at h4
             simp only [reduceCtorEq, if_false] at h4
             rw [if_pos hal] at h4
             obtain ⟨obj2, val2, h7, h8⟩ := h4 hs2.left
             obtain ⟨e1, e2⟩ := AllocAt.uniq w0 (ai ρ _ obj2 val2 h7) h5'
             subst e1; subst e2
             rw [← cm]
             exact WR_perm _ hpm.symm (h8 nb' hs2)
         · rw [if_neg hwi] at h40 ⊢
           simp only [WR, reduceCtorEq, if_false]
           rw [wj, if_pos hwj, if_pos halj]
           refine fun _ => ⟨objj, valj, aj ρ _ _ _ hajj, fun nb hs => ?_⟩
           have h4 := ih (hW nb hs) hs
           rw [wi, if_neg hwi] at h4
           rw [← cm]; exact h4
       · -- j is loud
         rw [if_neg halj] at h
         obtain ⟨R0, hR0, hW0⟩ := h
         have hR : ∀ hF, Sh sh hF → OpW P w0 hF oj ρ df Γ fun v df' Γ' => R0 v df' Γ' ∧ SatG w0 sh Γ' := fun hF hsh w hst =>
           (hR0 hF hsh w hst).mono fun v df' Γ' w' hst' hR => ⟨hR, hF, w', hsh, hst'⟩
         obtain ⟨hF0, ww, hsh0, hst0⟩ := id hsat
         obtain ⟨u0, df0, Γ0, w00, ⟨hRu, hsat0⟩, _⟩ := (hR hF0 hsh0 ww hst0).some
         have h40 := ih (hW0 u0 df0 Γ0 hRu) hsat0
         rw [wi] at h40
         by_cases hwi : wantedE ops ρ o = true
         · rw [if_pos hwi] at h40 ⊢
           cases b with
           | read => exact absurd hfl (by simp [okFl])
           | quiet =>
             simp only [if_true] at h40 ⊢
             obtain ⟨v, h5, _⟩ := h40
             have h5' : ∀ hF, Sh sh hF → QuietAt P w0 hF o ρ v := fun hF hsh => qi hF ρ _ v (h5 hF hsh)
             refine ⟨v, h5', ?_⟩
             simp only [WR, reduceCtorEq, if_false]
             rw [wj, if_pos hwj, if_neg halj]
             refine ⟨fun v df' Γ' => R0 v df' Γ' ∧ SatG w0 sh Γ', fun hF hsh w hst => by rw [xj]; exact hR hF hsh w hst, fun u df' Γ' ⟨hu, hsu⟩ => ?_⟩
             have h4 := ih (hW0 u df' Γ' hu) hsu
             rw [wi, if_pos hwi] at h4
             simp only [if_true] at h4
             obtain ⟨v', h7, h8⟩ := h4
             have hvv := quniq v' v (fun hF hsh => qi hF ρ _ v' (h7 hF hsh)) h5'
             subst hvv
             rw [← cm]; exact h8
           | loud =>
             simp only [reduceCtorEq, if_false] at h40 ⊢
             have hal : allocOp o.op = true := hfl
             rw [if_pos hal] at h40 ⊢
             obtain ⟨obj, val, h5, _⟩ := h40 hsat0
             have h5' := ai ρ _ obj val h5
             refine fun _ => ⟨obj, val, h5', fun nb' hs' => ?_⟩
             simp only [WR, reduceCtorEq, if_false]
             rw [wj, if_pos hwj, if_neg halj]
             refine ⟨fun v df' Γ'' => ∃ Γ', (R0 v df' Γ' ∧ SatG w0 sh Γ') ∧ Γ'' = Γ' ++ [pt nb' obj] ∧ SatG w0 sh Γ'', fun hF hsh w hst => ?_, fun u df' Γ'' ⟨Γ', ⟨hu, hsu⟩, e, hs3⟩ => ?_⟩
             · rw [xj]
               obtain ⟨g, hg, hd, hst1⟩ := hst.split
               exact (OpRes.frame hg hd (hR (g.or hF) (sh_or hsh hd) w hst1)).mono fun v df' Γ'' w' hst' ⟨Γ', w2, h7, e7, h8⟩ => ⟨Γ', h7, e7, hF, w2, hsh, h8⟩
             · subst e
               have h4 := ih (hW0 u df' Γ' hu) hsu
               rw [wi, if_pos hwi] at h4
               simp only [reduceCtorEq, if_false] at h4
               rw [if_pos hal] at h4
               obtain ⟨obj2, val2, h7, h8⟩ := h4 hsu
               obtain ⟨e1, e2⟩ := AllocAt.uniq w0 (ai ρ _ obj2 val2 h7) h5'
               subst e1; subst e2
               rw [← cm]
               exact h8 nb' hs3
         · rw [if_neg hwi] at h40 ⊢
           simp only [WR, reduceCtorEq, if_false]
           rw [wj, if_pos hwj, if_neg halj]
           refine ⟨fun v df' Γ' => R0 v df' Γ' ∧ SatG w0 sh Γ', fun hF hsh w hst => by rw [xj]; exact hR hF hsh w hst, fun u df' Γ' ⟨hu, hsu⟩ => ?_⟩
           have h4 := ih (hW0 u df' Γ' hu) hsu
           rw [wi, if_neg hwi] at h4
           rw [← cm]; exact h4
   · rw [if_neg hwj] at h
     have h4 := ih h hsat
     rw [wi] at h4
     by_cases hwi : wantedE ops ρ o = true
     · rw [if_pos hwi] at h4 ⊢
       cases b with
       | quiet =>
         simp only [if_true] at h4 ⊢
         obtain ⟨v, h5, h6⟩ := h4
         refine ⟨v, fun hF hsh => qi hF ρ _ v (h5 hF hsh), ?_⟩
         simp only [WR]
         rw [wj, if_neg hwj, ← cm]; exact h6
       | read =>
         simp only [reduceCtorEq, if_false, if_true] at h4 ⊢
         obtain ⟨v, h5, h6⟩ := h4
         refine ⟨v, fun hF hsh => ri hF ρ _ v Γ (h5 hF hsh), ?_⟩
         simp only [WR]
         rw [wj, if_neg hwj, ← cm]; exact h6
       | loud =>
         simp only [reduceCtorEq, if_false] at h4 ⊢
         by_cases hal : allocOp o.op = true
         · rw [if_pos hal] at h4 ⊢
           obtain ⟨obj, val, h5, h6⟩ := h4 hsat
           refine fun _ => ⟨obj, val, ai ρ _ obj val h5, fun nb hs => ?_⟩
           simp only [WR]
           rw [wj, if_neg hwj, ← cm]; exact h6 nb hs
         · rw [if_neg hal] at h4 ⊢
           obtain ⟨R, h5, h6⟩ := h4
           refine ⟨R, fun hF hsh w hst => ?_, fun v df' Γ' hR => ?_⟩
           · have := h5 hF hsh w hst; rw [xi] at this; exact this
           · simp only [WR]
             rw [wj, if_neg hwj, ← cm]; exact h6 v df' Γ' hR
     · rw [if_neg hwi] at h4 ⊢
       simp only [WR]
       rw [wj, if_neg hwj, ← cm]; exact h4
theorem okList_split {D : List Nat} : ∀ (pre : List (Fl × Nat × Oper)) (p : Fl × Nat × Oper) (post : List (Fl × Nat × Oper)), okList ops D (pre ++ p :: post) = true →
   (∀ q ∈ pre, okPair ops D q p = true) ∧ okList ops D (pre ++ post) = true
 | [], p, post, h => by simp only [okList, List.nil_append, List.map_cons, okRows, Bool.and_eq_true] at h ⊢; exact ⟨by simp, h.2⟩
 | q :: pre, p, post, h => by
   simp only [okList, List.cons_append, List.map_cons, okRows, Bool.and_eq_true, List.all_eq_true] at h ⊢
   obtain ⟨h1, h2⟩ := okList_split pre p post h.2
   refine ⟨fun r hr => ?_, fun r hr => h.1 r ?_, h2⟩
   · rcases List.mem_cons.1 hr with rfl | hr
     · exact h.1 _ (by simp)
     · exact h1 r hr
   · simp only [List.map_append, List.map_cons, List.mem_append, List.mem_cons] at hr ⊢
     rcases hr with hr | hr
     · exact .inl hr
     · exact .inr (.inr hr)
theorem wpAny_of_WR {Q' : Exit → Act → World → Prop} {ro : Option Nat} {m : Nat} (hro : ro = none ∨ noDefO ops = true) (hsh : Sh sh hF) (hdst : dstOk n ops = true) (hsel : Region.noSelect ops = true)
   (hedge : ∀ (i : Nat) (o : Oper), ops[i]? = some o → ∀ e ∈ o.after, Region.binds .any e = true → e.on < i)
   (hK : ∀ ρ df Γ a w, Fin P w0 n sh Q k ρ df Γ → envOf a = ρ → a.tmps.size = n → a.defers = df → St w0 hF Γ w → Q' .normal a w) :
   ∀ (fuel : Nat) (rem : List (Fl × Nat × Oper)) (listed : Array Bool), rem.length ≤ fuel → (∀ p ∈ rem, ops[p.2.1]? = some p.2.2) →
     (rem.map (·.2.1)).Nodup → okList ops (depBits ops.toList []) rem = true → listed.size = ops.size → (∀ i, i < ops.size → (listed.getD i false = false ↔ i ∈ rem.map (·.2.1))) →
     (∀ (i : Nat) (o : Oper), ops[i]? = some o → listed.getD i false = true → ∀ e ∈ o.after, Region.binds .any e = true → listed.getD e.on false = true) →
     ∀ ρ df Γ a w, WR P w0 n sh Q ops k rem ρ df Γ → envOf a = ρ → a.tmps.size = n → a.defers = df → St w0 hF Γ w → wpAnyIn (FR ro) m P .any ops Q' fuel listed a w := by
 intro fuel
 induction fuel with
 | zero =>
   intro rem listed hlen hidx hnd hok hsz hlist hcl ρ df Γ a w hW ha hn hd hst
   have hr : rem = [] := List.length_eq_zero_iff.1 (Nat.le_zero.1 hlen)
   subst hr
   refine ⟨?_, hK _ _ _ _ _ hW ha hn hd hst⟩
   rw [List.eq_nil_iff_forall_not_mem]
   intro i hi
   obtain ⟨h1, o, ho, _⟩ := mem_ready.1 hi
   have hlt := (Array.getElem?_eq_some_iff.1 ho).1
   have h2 : listed.getD i false = false := by
     have : i < listed.size := hsz ▸ hlt
     simp [this] at h1 ⊢; exact h1
   simpa using (hlist i hlt).1 h2
 | succ fuel ih =>
   intro rem listed hlen hidx hnd hok hsz hlist hcl ρ df Γ a w hW ha hn hd hst
   have gd : ∀ i, i < ops.size → listed.getD i true = listed.getD i false := fun i hi => by simp [hsz ▸ hi]
   refine ⟨fun hr => ?_, fun i hi => ?_⟩
   · cases rem with
     | nil => exact hK _ _ _ _ _ hW ha hn hd hst
     | cons p l =>
       exfalso
       -- the least of those that are left is ready
       have key : ∀ m, ∀ q ∈ p :: l, q.2.1 = m → False := by
         intro m
         induction m using Nat.strongRecOn with
         | _ m ihm =>
           intro q hq hqm
           have hp := hidx q hq
           have hlt := (Array.getElem?_eq_some_iff.1 hp).1
           have : q.2.1 ∈ Region.ready .any ops listed := mem_ready.2 ⟨by rw [gd _ hlt]; exact (hlist _ hlt).2 (List.mem_map_of_mem hq), q.2.2, hp, fun e he hb => by
             have h1 := hedge _ _ hp e he hb
             have h2 : e.on < ops.size := by omega
             cases h3 : listed.getD e.on false with
             | true => rfl
             | false =>
               obtain ⟨q2, hq2, e2⟩ := List.mem_map.1 ((hlist _ h2).1 h3)
               exact (ihm e.on (by omega) q2 hq2 e2).elim⟩
           rw [hr] at this
           cases this
       exact key _ p (by simp) rfl
   · obtain ⟨h1, o, ho, hall⟩ := mem_ready.1 hi
     have hlt := (Array.getElem?_eq_some_iff.1 ho).1
     rw [gd _ hlt] at h1
     obtain ⟨p, hp, hpi⟩ := List.mem_map.1 ((hlist i hlt).1 h1)
     obtain ⟨pre, post, hsplit⟩ := List.append_of_mem hp
     obtain ⟨b, i', o'⟩ := p
     simp only at hpi
     subst hpi
     have ho' : o' = o := by have := hidx _ hp; simp only at this; rw [ho] at this; exact (Option.some.inj this).symm
     subst ho'
     subst hsplit
     obtain ⟨hok1, hok2⟩ := okList_split pre _ post hok
     have hnd2 := hnd
     rw [List.map_append, List.map_cons, List.nodup_append] at hnd2
     obtain ⟨nd1, nd2, nd3⟩ := hnd2
     have nd4 := List.nodup_cons.1 nd2
     have hap : ∀ q ∈ pre, q.2.2.apart ops o' = true ∧ okFl q.1 b (allocOp o'.op) = true := fun q hq => by
       have h2 := okPair_apart (hok1 q hq)
       rcases h2 with h2 | h2
       · exfalso
         have h3 := dep_listed hcl i' q.2.1 o' ho hall h2
         have h4 : q.2.1 < ops.size := (Array.getElem?_eq_some_iff.1 (hidx q (by simp [hq]))).1
         have h5 := (hlist _ h4).2 (List.mem_map_of_mem (by simp [hq]))
         rw [h5] at h3; cases h3
       · exact h2
     have hpull := WR_pull hsel pre b i' o' post hidx hap hW ⟨hF, w, hsh, hst⟩
     have hdo : ∀ d, o'.dst = some d → d < n := fun d hd => by
       have := Array.all_eq_true_iff_forall_mem.1 hdst o' (Array.mem_of_getElem? ho)
       simpa [hd] using this
     have hnext : ∀ ρ' df' Γ' a' w', WR P w0 n sh Q ops k (pre ++ post) ρ' df' Γ' → envOf a' = ρ' → a'.tmps.size = n → a'.defers = df' → St w0 hF Γ' w' →
         wpAnyIn (FR ro) m P .any ops Q' fuel (listed.setIfInBounds i' true) a' w' := by
       refine ih (pre ++ post) (listed.setIfInBounds i' true) (by simp at hlen ⊢; omega) (fun p hp => hidx p (by simp at hp ⊢; rcases hp with h | h <;> simp [h])) ?_ hok2 (by simp [hsz]) ?_ ?_
       · rw [List.map_append, List.nodup_append]
         exact ⟨nd1, nd4.2, fun x hx y hy => nd3 x hx y (List.mem_cons_of_mem _ hy)⟩
       · intro j hj
         by_cases hij : i' = j
         · subst hij
           simp only [Array.getD_eq_getD_getElem?, hsz ▸ hj, Array.getElem?_setIfInBounds_self_of_lt, Option.getD_some, Bool.true_eq_false, false_iff]
           rw [List.map_append, List.mem_append]
           rintro (h | h)
           · exact nd3 _ h i' (List.mem_cons_self ..) rfl
           · exact nd4.1 h
         · rw [getD_set_ne false hij, hlist j hj]
           simp only [List.map_append, List.map_cons, List.mem_append, List.mem_cons]
           constructor
           · rintro (h | h | h)
             · exact .inl h
             · exact absurd h.symm hij
             · exact .inr h
           · rintro (h | h)
             · exact .inl h
             · exact .inr (.inr h)
       · intro j oj hoj hlj e he hb
         by_cases hij : i' = j
         · subst hij
           rw [ho] at hoj
           exact getD_set_true (hall e (Option.some.inj hoj ▸ he) hb)
         · rw [getD_set_ne false hij] at hlj
           exact getD_set_true (hcl j oj hoj hlj e he hb)
     unfold wpOpIn
     simp only [ho]
     have hwant : Region.wanted o' (yielded ops a.tmps) = wantedE ops ρ o' := by rw [yielded_eq, ha]; rfl
     rw [hwant]
     unfold Nx at hpull
     split
     · rename_i hw
       rw [if_pos hw] at hpull
       have key : OpRes P w0 hF df (fun v df' Γ' => WR P w0 n sh Q ops k (pre ++ post) (ρ.setO o'.dst v) df' Γ') ((execOp (ev ρ) o').run P w) := by
         split at hpull
         · obtain ⟨v, hq, hW⟩ := hpull
           exact (hq hF hsh).opW (K := fun v df' Γ' => WR P w0 n sh Q ops k (pre ++ post) (ρ.setO o'.dst v) df' Γ') hW w hst
         split at hpull
         · obtain ⟨v, hq, hW⟩ := hpull
           exact (hq hF hsh).opW (K := fun v df' Γ' => WR P w0 n sh Q ops k (pre ++ post) (ρ.setO o'.dst v) df' Γ') hW w hst
         · split at hpull
           · obtain ⟨obj, val, hal, hW⟩ := hpull ⟨hF, w, hsh, hst⟩
             rw [hal w]
             have h2 : St w0 hF (Γ ++ [pt w.heap.size obj]) { w with heap := w.heap.push obj } := (hst.alloc obj).perm (List.perm_append_comm (l₁ := [_]))
             exact ⟨_, hW _ ⟨hF, _, hsh, h2⟩, h2⟩
           · obtain ⟨R, h1, h2⟩ := hpull
             exact (h1 hF hsh w hst).mono fun v df' Γ' _ _ hR => h2 v df' Γ' hR
       exact wpk_opres hro ho ha hn hd hdo (key.mono fun v df' Γ' w1 _ hW' a' w' ha' hn' hd' hs' => hnext _ _ _ a' w' hW' ha' hn' hd' hs')
     · rename_i hw
       rw [if_neg hw] at hpull
       refine ⟨fun _ _ => trivial, ?_⟩
       exact hnext _ _ _ _ w hpull (by rw [envOf_put a o'.dst undef (fun d hd' => hn ▸ hdo d hd'), ha]) (by rw [size_put, hn]) (by rw [defers_put, hd]) hst
theorem wpAny_turn {Q' : Exit → Act → World → Prop} {b0 : Nat} {obj0 : Obj} {B : List (Fl × Nat × Oper)} {hF' : Heap} {ro : Option Nat} {m : Nat} (hro : ro = none ∨ noDefO ops = true) (hsh : Sh sh hF) (hsh' : Sh ((b0, obj0) :: sh) hF') (hback : ∀ Γ w, St w0 hF' Γ w → St w0 hF (pt b0 obj0 :: Γ) w)
   (hdst : dstOk n ops = true) (hsel : Region.noSelect ops = true)
   (hedge : ∀ (i : Nat) (o : Oper), ops[i]? = some o → ∀ e ∈ o.after, Region.binds .any e = true → e.on < i)
   (hK : ∀ ρ df Γ a w, Fin P w0 n sh Q k ρ df Γ → envOf a = ρ → a.tmps.size = n → a.defers = df → St w0 hF Γ w → Q' .normal a w)
   (hokB : okList ops (depBits ops.toList []) B = true) :
   ∀ (fuel : Nat) (A : List (Fl × Nat × Oper)) (listed : Array Bool), (A ++ B).length ≤ fuel → (∀ p ∈ A ++ B, ops[p.2.1]? = some p.2.2) →
     ((A ++ B).map (·.2.1)).Nodup → okList ops (depBits ops.toList []) A = true → (∀ q ∈ A, ∀ p ∈ B, Nat.testBit ((depBits ops.toList []).getD p.2.1 0) q.2.1 = true) → listed.size = ops.size → (∀ i, i < ops.size → (listed.getD i false = false ↔ i ∈ (A ++ B).map (·.2.1))) →
     (∀ (i : Nat) (o : Oper), ops[i]? = some o → listed.getD i false = true → ∀ e ∈ o.after, Region.binds .any e = true → listed.getD e.on false = true) →
     ∀ ρ df Γ a w, WR P w0 n ((b0, obj0) :: sh) (fun e ρ' df' Γ' => e = .normal ∧ WR P w0 n sh Q ops k B ρ' df' (pt b0 obj0 :: Γ')) ops markK A ρ df Γ → envOf a = ρ → a.tmps.size = n → a.defers = df → St w0 hF' Γ w → wpAnyIn (FR ro) m P .any ops Q' fuel listed a w := by
 intro fuel
 induction fuel with
 | zero =>
   intro A listed hlen hidx hnd hok hcr hsz hlist hcl ρ df Γ a w hW ha hn hd hst
   have hr : A ++ B = [] := List.length_eq_zero_iff.1 (Nat.le_zero.1 hlen)
   obtain ⟨rfl, hB⟩ := List.append_eq_nil_iff.1 hr
   obtain ⟨Γ0, ⟨_, h1⟩, h2⟩ := hW.1 rfl hF' w hsh' hst
   exact wpAny_of_WR hro hsh hdst hsel hedge hK 0 B listed (by simpa using hlen) (by simpa using hidx) (by simpa using hnd) hokB hsz (by simpa using hlist) hcl ρ df _ a w h1 ha hn hd (hback _ _ h2)
 | succ fuel ih =>
   intro A listed hlen hidx hnd hok hcr hsz hlist hcl ρ df Γ a w hW ha hn hd hst
   cases hA : A with
   | nil =>
     subst hA
     obtain ⟨Γ0, ⟨_, h1⟩, h2⟩ := hW.1 rfl hF' w hsh' hst
     exact wpAny_of_WR hro hsh hdst hsel hedge hK _ B listed (by simpa using hlen) (by simpa using hidx) (by simpa using hnd) hokB hsz (by simpa using hlist) hcl ρ df _ a w h1 ha hn hd (hback _ _ h2)
   | cons q0 A0 =>
   have hq0 : q0 ∈ A := by rw [hA]; simp
   clear hA A0
   have gd : ∀ i, i < ops.size → listed.getD i true = listed.getD i false := fun i hi => by simp [hsz ▸ hi]
   refine ⟨fun hr => ?_, fun i hi => ?_⟩
   · exfalso
     have key : ∀ m, ∀ q ∈ A ++ B, q.2.1 = m → False := by
       intro m
       induction m using Nat.strongRecOn with
       | _ m ihm =>
         intro q hq hqm
         have hp := hidx q hq
         have hlt := (Array.getElem?_eq_some_iff.1 hp).1
         have : q.2.1 ∈ Region.ready .any ops listed := mem_ready.2 ⟨by rw [gd _ hlt]; exact (hlist _ hlt).2 (List.mem_map_of_mem hq), q.2.2, hp, fun e he hb => by
           have h1 := hedge _ _ hp e he hb
           have h2 : e.on < ops.size := by omega
           cases h3 : listed.getD e.on false with
           | true => rfl
           | false =>
             obtain ⟨q2, hq2, e2⟩ := List.mem_map.1 ((hlist _ h2).1 h3)
             exact (ihm e.on (by omega) q2 hq2 e2).elim⟩
         rw [hr] at this
         cases this
     exact key _ q0 (by simp [hq0]) rfl
   · obtain ⟨h1, o, ho, hall⟩ := mem_ready.1 hi
     have hlt := (Array.getElem?_eq_some_iff.1 ho).1
     rw [gd _ hlt] at h1
     obtain ⟨p, hp, hpi⟩ := List.mem_map.1 ((hlist i hlt).1 h1)
     have hpA : p ∈ A := by
       rcases List.mem_append.1 hp with h | h
       · exact h
       · exfalso
         have h2 := hcr q0 hq0 p h
         rw [hpi] at h2
         have h3 := dep_listed hcl i q0.2.1 o ho hall h2
         have h4 : q0.2.1 < ops.size := (Array.getElem?_eq_some_iff.1 (hidx q0 (by simp [hq0]))).1
         have h5 := (hlist _ h4).2 (List.mem_map_of_mem (by simp [hq0]))
         rw [h5] at h3; cases h3
     obtain ⟨pre, post, hsplit⟩ := List.append_of_mem hpA
     obtain ⟨b, i', o'⟩ := p
     simp only at hpi
     subst hpi
     have ho' : o' = o := by have := hidx _ hp; simp only at this; rw [ho] at this; exact (Option.some.inj this).symm
     subst ho'
     subst hsplit
     obtain ⟨hok1, hok2⟩ := okList_split pre _ post hok
     have hnd2 := hnd
     rw [List.append_assoc, List.cons_append, List.map_append, List.map_cons, List.nodup_append] at hnd2
     obtain ⟨nd1, nd2, nd3⟩ := hnd2
     have nd4 := List.nodup_cons.1 nd2
     have hap : ∀ q ∈ pre, q.2.2.apart ops o' = true ∧ okFl q.1 b (allocOp o'.op) = true := fun q hq => by
       have h2 := okPair_apart (hok1 q hq)
       rcases h2 with h2 | h2
       · exfalso
         have h3 := dep_listed hcl i' q.2.1 o' ho hall h2
         have h4 : q.2.1 < ops.size := (Array.getElem?_eq_some_iff.1 (hidx q (by simp [hq]))).1
         have h5 := (hlist _ h4).2 (List.mem_map_of_mem (by simp [hq]))
         rw [h5] at h3; cases h3
       · exact h2
     have hpull := WR_pull hsel pre b i' o' post (fun p hp => hidx p (List.mem_append_left _ hp)) hap hW ⟨hF', w, hsh', hst⟩
     have hdo : ∀ d, o'.dst = some d → d < n := fun d hd => by
       have := Array.all_eq_true_iff_forall_mem.1 hdst o' (Array.mem_of_getElem? ho)
       simpa [hd] using this
     have hnext : ∀ ρ' df' Γ' a' w', WR P w0 n ((b0, obj0) :: sh) (fun e ρ' df' Γ' => e = .normal ∧ WR P w0 n sh Q ops k B ρ' df' (pt b0 obj0 :: Γ')) ops markK (pre ++ post) ρ' df' Γ' → envOf a' = ρ' → a'.tmps.size = n → a'.defers = df' → St w0 hF' Γ' w' →
         wpAnyIn (FR ro) m P .any ops Q' fuel (listed.setIfInBounds i' true) a' w' := by
       refine ih (pre ++ post) (listed.setIfInBounds i' true) (by simp at hlen ⊢; omega) (fun p hp => hidx p (by simp at hp ⊢; rcases hp with h | h | h <;> simp [h])) ?_ hok2 (fun q hq => hcr q (by simp at hq ⊢; rcases hq with h | h <;> simp [h])) (by simp [hsz]) ?_ ?_
       · rw [List.append_assoc, List.map_append, List.nodup_append]
         exact ⟨nd1, nd4.2, fun x hx y hy => nd3 x hx y (List.mem_cons_of_mem _ hy)⟩
       · intro j hj
         by_cases hij : i' = j
         · subst hij
           simp only [Array.getD_eq_getD_getElem?, hsz ▸ hj, Array.getElem?_setIfInBounds_self_of_lt, Option.getD_some, Bool.true_eq_false, false_iff]
           rw [List.append_assoc, List.map_append, List.mem_append]
           rintro (h | h)
           · exact nd3 _ h i' (List.mem_cons_self ..) rfl
           · exact nd4.1 h
         · rw [getD_set_ne false hij, hlist j hj]
           simp only [List.map_append, List.map_cons, List.mem_append, List.mem_cons]
           constructor
           · rintro ((h | h | h) | h)
             · exact .inl (.inl h)
             · exact absurd h.symm hij
             · exact .inl (.inr h)
             · exact .inr h
           · rintro ((h | h) | h)
             · exact .inl (.inl h)
             · exact .inl (.inr (.inr h))
             · exact .inr h
       · intro j oj hoj hlj e he hb
         by_cases hij : i' = j
         · subst hij
           rw [ho] at hoj
           exact getD_set_true (hall e (Option.some.inj hoj ▸ he) hb)
         · rw [getD_set_ne false hij] at hlj
           exact getD_set_true (hcl j oj hoj hlj e he hb)
     unfold wpOpIn
     simp only [ho]
     have hwant : Region.wanted o' (yielded ops a.tmps) = wantedE ops ρ o' := by rw [yielded_eq, ha]; rfl
     rw [hwant]
     unfold Nx at hpull
     split
     · rename_i hw
       rw [if_pos hw] at hpull
       have key : OpRes P w0 hF' df (fun v df' Γ' => WR P w0 n ((b0, obj0) :: sh) (fun e ρ' df' Γ' => e = .normal ∧ WR P w0 n sh Q ops k B ρ' df' (pt b0 obj0 :: Γ')) ops markK (pre ++ post) (ρ.setO o'.dst v) df' Γ') ((execOp (ev ρ) o').run P w) := by
         split at hpull
         · obtain ⟨v, hq, hW⟩ := hpull
           exact (hq hF' hsh').opW (K := fun v df' Γ' => WR P w0 n ((b0, obj0) :: sh) (fun e ρ' df' Γ' => e = .normal ∧ WR P w0 n sh Q ops k B ρ' df' (pt b0 obj0 :: Γ')) ops markK (pre ++ post) (ρ.setO o'.dst v) df' Γ') hW w hst
         split at hpull
         · obtain ⟨v, hq, hW⟩ := hpull
           exact (hq hF' hsh').opW (K := fun v df' Γ' => WR P w0 n ((b0, obj0) :: sh) (fun e ρ' df' Γ' => e = .normal ∧ WR P w0 n sh Q ops k B ρ' df' (pt b0 obj0 :: Γ')) ops markK (pre ++ post) (ρ.setO o'.dst v) df' Γ') hW w hst
         · split at hpull
           · obtain ⟨obj, val, hal, hW⟩ := hpull ⟨hF', w, hsh', hst⟩
             rw [hal w]
             have h2 : St w0 hF' (Γ ++ [pt w.heap.size obj]) { w with heap := w.heap.push obj } := (hst.alloc obj).perm (List.perm_append_comm (l₁ := [_]))
             exact ⟨_, hW _ ⟨hF', _, hsh', h2⟩, h2⟩
           · obtain ⟨R, h1, h2⟩ := hpull
             exact (h1 hF' hsh' w hst).mono fun v df' Γ' _ _ hR => h2 v df' Γ' hR
       exact wpk_opres hro ho ha hn hd hdo (key.mono fun v df' Γ' w1 _ hW' a' w' ha' hn' hd' hs' => hnext _ _ _ a' w' hW' ha' hn' hd' hs')
     · rename_i hw
       rw [if_neg hw] at hpull
       refine ⟨fun _ _ => trivial, ?_⟩
       exact hnext _ _ _ _ w hpull (by rw [envOf_put a o'.dst undef (fun d hd' => hn ▸ hdo d hd'), ha]) (by rw [size_put, hn]) (by rw [defers_put, hd]) hst
theorem mkl_length : ∀ (fl : List Fl) (i : Nat) (l : List Oper), (mkl fl i l).length = l.length := fun fl i l => by
 have := congrArg List.length (mkl_idx fl i l); simpa using this
theorem run_drawL {id : Nat} {l : List Oper} {L : List (Fl × Nat × Oper)} (hm : P.follows .mixedOrders = true) (hdst : dstOk n l.toArray = true) (hok : okDraw l.toArray L = true)
   (hidx : ∀ p ∈ L, l.toArray[p.2.1]? = some p.2.2) (hlen : L.length = l.length) (hnd : (L.map (·.2.1)).Nodup) (hmem : ∀ i, i < l.length → i ∈ L.map (·.2.1))
   (h : Reg P w0 n sh Q l.toArray L k ρ df Γ) : Run P w0 n sh Q (.code (.region id l.toArray true) :: k) ρ df Γ := by
 refine ⟨?_⟩
 intro hF hsh a w ha hn hd hst
 simp only [okDraw, Bool.and_eq_true] at hok
 refine wpk_of_cutR fun ro hro => wpIn_region_any hm ?_
 refine wpAny_of_WR hro hsh hdst hok.1.2 ?_ (fun ρ df Γ a w hK ha hn hd hst => (Fin.run hK).go hF hsh a w ha hn hd hst) l.toArray.size L _ (by rw [hlen]; simp) hidx hnd hok.1.1 (by simp) ?_ ?_ ρ df Γ a _ h.go ha hn hd (hst.drew _)
 · intro i o ho e he hb
   have := edgesOk_spec _ 0 hok.2 i o (by simpa using ho) e he hb
   omega
 · intro i hi
   have hi' : i < l.length := by simpa using hi
   simp only [hmem i hi', iff_true]
   simp [hi']
 · intro i o ho h1
   exfalso
   have hlt := (Array.getElem?_eq_some_iff.1 ho).1
   simp at hlt
   simp [hlt] at h1
theorem run_draw {id : Nat} {l : List Oper} (fl : List Fl) (hm : P.follows .mixedOrders = true) (hdst : dstOk n l.toArray = true) (hok : okDraw l.toArray (mkl fl 0 l) = true)
   (h : Reg P w0 n sh Q l.toArray (mkl fl 0 l) k ρ df Γ) : Run P w0 n sh Q (.code (.region id l.toArray true) :: k) ρ df Γ := by
 refine run_drawL hm hdst hok (by simpa using mkl_get fl l.toArray) (mkl_length fl 0 l) ?_ (fun i hi => ?_) h
 · rw [mkl_idx]; exact List.nodup_range'
 · rw [mkl_idx]; simp [hi]
def opAt : List Oper → Nat → Option Oper
 | [], _ => none
 | o :: _, 0 => some o
 | _ :: l, i + 1 => opAt l i
theorem opAt_eq : ∀ (l : List Oper) (i : Nat), opAt l i = l[i]?
 | [], i => by simp [opAt]
 | o :: l, 0 => rfl
 | o :: l, i + 1 => by simp [opAt, opAt_eq l i]
def mkP (l : List Oper) : List (Fl × Nat) → List (Fl × Nat × Oper)
 | [] => []
 | (b, i) :: pm => match opAt l i with
   | some o => (b, i, o) :: mkP l pm
   | none => mkP l pm
theorem mkP_get (l : List Oper) : ∀ (pm : List (Fl × Nat)), ∀ p ∈ mkP l pm, l[p.2.1]? = some p.2.2
 | [], p, h => by simp [mkP] at h
 | (b, i) :: pm, p, h => by
   simp only [mkP] at h
   split at h
   · rename_i o ho
     rcases List.mem_cons.1 h with rfl | h
     · rw [← opAt_eq]; exact ho
     · exact mkP_get l pm p h
   · exact mkP_get l pm p h
def permOk (n : Nat) (pm : List (Fl × Nat)) : Bool := Nat.beq pm.length n && (List.range n).all fun i => (pm.map (·.2)).contains i
theorem mkP_idx (l : List Oper) : ∀ (pm : List (Fl × Nat)), (∀ p ∈ pm, p.2 < l.length) → (mkP l pm).map (·.2.1) = pm.map (·.2)
 | [], _ => rfl
 | (b, i) :: pm, h => by
   have hi := h (b, i) (by simp)
   have : opAt l i = some l[i] := by rw [opAt_eq]; exact List.getElem?_eq_getElem hi
   simp only [mkP, this, List.map_cons, mkP_idx l pm (fun p hp => h p (by simp [hp]))]
theorem nodup_of_full : ∀ (n : Nat) (l : List Nat), l.length = n → (∀ i, i < n → i ∈ l) → l.Nodup ∧ ∀ x ∈ l, x < n
 | 0, l, hl, _ => by have := List.length_eq_zero_iff.1 hl; subst this; simp
 | n + 1, l, hl, h => by
   obtain ⟨a, b, rfl⟩ := List.append_of_mem (h n (by omega))
   have hl2 : (a ++ b).length = n := by simp at hl ⊢; omega
   have h2 : ∀ i, i < n → i ∈ a ++ b := fun i hi => by
     have := h i (by omega)
     simp at this ⊢
     rcases this with h | h | h
     · exact .inl h
     · omega
     · exact .inr h
   obtain ⟨h3, h4⟩ := nodup_of_full n (a ++ b) hl2 h2
   have hperm : (a ++ n :: b).Perm (n :: (a ++ b)) := List.perm_middle
   refine ⟨hperm.nodup_iff.2 (List.nodup_cons.2 ⟨fun hm => absurd (h4 _ hm) (Nat.lt_irrefl _), h3⟩), fun x hx => ?_⟩
   rcases List.mem_cons.1 (hperm.mem_iff.1 hx) with rfl | hx
   · omega
   · have := h4 x hx; omega
def crossB (D : List Nat) (pA pB : List (Fl × Nat)) : Bool := pB.all fun p => pA.all fun q => Nat.testBit (D.getD p.2 0) q.2
theorem mkP_mem (l : List Oper) : ∀ (pm : List (Fl × Nat)), ∀ p ∈ mkP l pm, (p.1, p.2.1) ∈ pm
 | [], p, h => by simp [mkP] at h
 | (b, i) :: pm, p, h => by
   simp only [mkP] at h
   split at h
   · rcases List.mem_cons.1 h with rfl | h
     · simp
     · exact List.mem_cons_of_mem _ (mkP_mem l pm p h)
   · exact List.mem_cons_of_mem _ (mkP_mem l pm p h)
theorem mkP_append (l : List Oper) : ∀ (pA pB : List (Fl × Nat)), mkP l (pA ++ pB) = mkP l pA ++ mkP l pB
 | [], _ => rfl
 | (b, i) :: pA, pB => by
   simp only [List.cons_append, mkP]
   split
   · rw [mkP_append l pA pB]; rfl
   · exact mkP_append l pA pB
theorem run_drawT {id : Nat} {l : List Oper} (is : List Nat) (pA pB : List (Fl × Nat)) {b0 : Nat} {obj0 : Obj} {Γr : List Asn} (hm : P.follows .mixedOrders = true) (hdst : dstOk n l.toArray = true)
   (hok : (permOk l.length (pA ++ pB) && okList l.toArray (depBits l []) (mkP l pA) && okList l.toArray (depBits l []) (mkP l pB) && crossB (depBits l []) pA pB && Region.noSelect l.toArray && edgesOk 0 l) = true) (hp : pick is Γ = some ([pt b0 obj0], Γr))
   (h : Reg P w0 n ((b0, obj0) :: sh) (fun e ρ' df' Γ' => e = .normal ∧ WR P w0 n sh Q l.toArray k (mkP l pB) ρ' df' (pt b0 obj0 :: Γ')) l.toArray (mkP l pA) markK ρ df Γr) : Run P w0 n sh Q (.code (.region id l.toArray true) :: k) ρ df Γ := by
 refine ⟨?_⟩
 intro hF hsh a w ha hn hd hst
 simp only [Bool.and_eq_true, permOk] at hok
 obtain ⟨⟨⟨⟨⟨⟨h1, h2⟩, hoA⟩, hoB⟩, hcr⟩, hsel⟩, hed⟩ := hok
 have h1 := Nat.eq_of_beq_eq_true h1
 have h2 : ∀ i, i < l.length → i ∈ (pA ++ pB).map (·.2) := fun i hi => by
   have := List.all_eq_true.1 h2 i (List.mem_range.2 hi)
   simpa using this
 obtain ⟨n1, n2⟩ := nodup_of_full l.length ((pA ++ pB).map (·.2)) (by simpa using h1) h2
 have hidx := mkP_idx l (pA ++ pB) fun p hp => n2 _ (List.mem_map_of_mem hp)
 rw [mkP_append] at hidx
 have hs1 : St w0 hF (Γr ++ [pt b0 obj0]) w := (hst.perm (pick_perm hp)).perm List.perm_append_comm
 obtain ⟨g, hg, hdj, hst2⟩ := hs1.split
 have hg1 : pt b0 obj0 g := Stars.one.1 hg
 simp only [pt] at hg1
 subst hg1
 refine wpk_of_cutR fun ro hro => wpIn_region_any hm ?_
 refine wpAny_turn (hro := hro) (b0 := b0) (obj0 := obj0) (B := mkP l pB) (hF := hF) (hF' := (Heap.one b0 obj0).or hF) hsh (fun p hp => ?_) (fun Γ w hs => ?_) hdst hsel ?_ (fun ρ df Γ a w hK ha hn hd hst => (Fin.run hK).go hF hsh a w ha hn hd hst) hoB l.toArray.size (mkP l pA) _ ?_ (fun p hp => ?_) ?_ hoA (fun q hq p hp => ?_) (by simp) ?_ ?_ ρ df Γr a _ h.go ha hn hd (hst2.drew _)
 · rcases List.mem_cons.1 hp with rfl | hp
   · simp [Heap.or, Heap.one]
   · have := hsh p hp
     rcases hdj p.1 with e | e
     · simp [Heap.or, e, this]
     · rw [e] at this; cases this
 · exact (hs.join hg hdj).perm List.perm_append_comm
 · intro i o ho e he hb
   have := edgesOk_spec _ 0 hed i o (by simpa using ho) e he hb
   omega
 · have := congrArg List.length hidx
   simp only [List.length_map] at this
   simp only [List.size_toArray]
   omega
 · have : p ∈ mkP l (pA ++ pB) := by rw [mkP_append]; exact hp
   simpa using mkP_get l _ p this
 · rw [hidx]; exact n1
 · have h3 := mkP_mem l pA q hq
   have h4 := mkP_mem l pB p hp
   have h5 := List.all_eq_true.1 hcr _ h4
   exact List.all_eq_true.1 h5 _ h3
 · intro i hi
   have hi' : i < l.length := by simpa using hi
   rw [hidx]
   simp only [h2 i hi', iff_true]
   simp [hi']
 · intro i o ho h1
   exfalso
   have hlt := (Array.getElem?_eq_some_iff.1 ho).1
   simp at hlt
   simp [hlt] at h1
theorem reg_turn {ops : Array Oper} {B : List (Fl × Nat × Oper)} {b0 : Nat} {obj0 : Obj} {sh' : Shared} (h : Reg P w0 n sh Q ops B k ρ df (pt b0 obj0 :: Γ)) :
   Reg P w0 n sh' (fun e ρ' df' Γ' => e = .normal ∧ WR P w0 n sh Q ops k B ρ' df' (pt b0 obj0 :: Γ')) ops [] markK ρ df Γ :=
 ⟨⟨fun _ _ _ _ hst => ⟨Γ, ⟨rfl, h.go⟩, hst⟩, fun e => absurd rfl e⟩⟩
end
end Go.Vc
namespace Go.Vc
def Enters (P : Program) (f : FuncId) : Prop := ∀ args w, (callFunc f args).run P w = .ok (.enter f args) w
structure Fn (P : Program) (w0 : World) (sh : Shared) (f : FuncId) (args : List Value) (Γ : List Asn) (R : Value → List Asn → Prop) : Prop where
 enters : Enters P f
 calls : ∀ hF w, Sh sh hF → St w0 hF Γ w → Calls P f args.toArray w fun e w' => ∃ v Γ', e = .returned v ∧ R v Γ' ∧ St w0 hF Γ' w'
structure FnD (P : Program) (w0 : World) (sh : Shared) (f : FuncId) (args : List Value) (Γ : List Asn) (R : Value → List Asn → Prop) : Prop where
 enters : Enters P f
 calls : ∀ hF w u, Sh sh hF → St w0 hF Γ w → CallsDIn Fence.wide 0 P f args.toArray u w fun e u' w' => u' = u ∧ ∃ v Γ', e = .returned v ∧ R v Γ' ∧ St w0 hF Γ' w'
theorem Fn.mono {P : Program} {w0 : World} {sh : Shared} {f : FuncId} {args : List Value} {Γ : List Asn} {R R' : Value → List Asn → Prop} (h : Fn P w0 sh f args Γ R)
   (hr : ∀ v Γ', R v Γ' → R' v Γ') : Fn P w0 sh f args Γ R' :=
 ⟨h.enters, fun hF w hsh hst => (h.calls hF w hsh hst).mono fun _ _ ⟨v, Γ', h1, h2, h3⟩ => ⟨v, Γ', h1, hr _ _ h2, h3⟩⟩
abbrev FnE (P : Program) (w0 : World) (sh : Shared) (f : FuncId) (args : List Value) (Γ : List Asn) (v : Value) (Γ' : List Asn) : Prop :=
 Fn P w0 sh f args Γ fun v' Γ'' => v' = v ∧ Γ'' = Γ'
def argsEnv : List Value → Env
 | [], _ => undef
 | v :: _, 0 => v
 | _ :: l, t + 1 => argsEnv l t
theorem argsEnv_getD : ∀ (l : List Value) (t : Nat), argsEnv l t = l.getD t undef
 | [], t => by simp [argsEnv]
 | v :: _, 0 => rfl
 | _ :: l, t + 1 => by simp only [argsEnv, List.getD_cons_succ]; exact argsEnv_getD l t
theorem envOf_enter (args : List Value) (m : Nat) (df : List Deferred) : envOf { tmps := args.toArray ++ Array.replicate m undef, defers := df } = argsEnv args := by
 funext t
 simp only [envOf, argsEnv_getD]
 rw [Array.getD_eq_getD_getElem?, Array.getElem?_append]
 by_cases h : t < args.length
 · simp [h]
 · have h' : args.length ≤ t := Nat.le_of_not_lt h
   simp only [List.size_toArray, if_neg h]
   rw [List.getD_eq_getElem?_getD, List.getElem?_eq_none h']
   simp only [Array.getElem?_replicate]
   split <;> rfl
def Ends (P : Program) (w0 : World) (sh : Shared) (fn : Func) (ρ : Env) (Γ : List Asn) (R : Value → List Asn → Prop) : Prop :=
 ∀ hF a w, Sh sh hF → envOf a = ρ → St w0 hF Γ w → ∃ v Γ', (results fn a.tmps).run P w = .ok v w ∧ R v Γ' ∧ St w0 hF Γ' w
def LeavesS (P : Program) (w0 : World) (sh : Shared) (fn : Func) (ρ : Env) (df : List Deferred) (Γ : List Asn) (R : Value → List Asn → Prop) : Prop :=
 ∀ hF a w, Sh sh hF → envOf a = ρ → St w0 hF Γ w → LeavesInM Fence.wide 0 P fn a.tmps (fun e w' => ∃ v Γ', e = .returned v ∧ R v Γ' ∧ St w0 hF Γ' w') df .returning w
def retQ (P : Program) (w0 : World) (sh : Shared) (fn : Func) (R : Value → List Asn → Prop) : Exit → Env → List Deferred → List Asn → Prop
 | .normal, ρ, df, Γ | .ret, ρ, df, Γ => LeavesS P w0 sh fn ρ df Γ R
 | _, _, _, _ => False
section
variable {P : Program} {w0 : World} {n : Nat} {sh : Shared} {Q : Exit → Env → List Deferred → List Asn → Prop} {k : List Item} {ρ : Env} {df : List Deferred} {Γ : List Asn} {hF : Heap}
variable {fn : Func} {R : Value → List Asn → Prop}
theorem zek (h : Ends P w0 sh fn ρ Γ R) : LeavesS P w0 sh fn ρ [] Γ R := fun hF a w hsh ha hst => by
 obtain ⟨v, Γ', h1, h2, h3⟩ := h hF a w hsh ha hst
 exact ⟨v, h1, v, Γ', rfl, h2, h3⟩
theorem zep {f : FuncId} {c : Code} {args : List Value} (hen : Enters P f) (hf : P.funcs[f]? = some fn) (hb : fn.body = some c) (hn : fn.ntmps = n) (hsz : Nat.ble args.length n = true)
   (h : Run P w0 n sh (retQ P w0 sh fn R) [.code c] (argsEnv args) [] Γ) : Fn P w0 sh f args Γ R := by
 refine ⟨hen, fun hF w hsh hst => callsIn_wide.1 (callsIn_of_wp_marks (n := 0) hf hb trivial (wpIn_of_wpk (ro := none) (.inl rfl) ?_))⟩
 have hsz' := Nat.le_of_ble_eq_true hsz
 refine (h.go hF hsh _ w (envOf_enter args _ []) (by simp [hn]; omega) rfl hst).mono fun e a w ⟨_, Γ', hq, hst'⟩ => ?_
 cases e with
 | normal => exact hq hF a w hsh rfl hst'
 | ret => exact hq hF a w hsh rfl hst'
 | _ => exact hq.elim
def ResOk (P : Program) (w0 : World) (sh : Shared) (ρ : Env) (Γ : List Asn) : ResultVar → Value → Prop
 | .tmp t, v => ρ t = v
 | .cell x t, v => ∃ ad, ρ x = .pointer (some ad) ∧ ∀ hF w, Sh sh hF → St w0 hF Γ w → (loadVar t ad).run P w = .ok v w
def resF (tmps : Array Value) : ResultVar → Sem Value
 | .tmp t => pure (tmps.getD t undef)
 | .cell x t => do loadVar t (← asAddr (tmps.getD x undef))
theorem results_eq (fn : Func) (tmps : Array Value) : results fn tmps = (do let vs ← fn.results.mapM (resF tmps); pure (if h : vs.size = 1 then vs[0] else .tuple vs)) := rfl
theorem resOk_run {rv : ResultVar} {v : Value} (h : ResOk P w0 sh ρ Γ rv v) {a : Act} {w : World} (hsh : Sh sh hF) (ha : envOf a = ρ) (hst : St w0 hF Γ w) :
   (resF a.tmps rv).run P w = .ok v w := by
 subst ha
 cases rv with
 | tmp t => simp only [ResOk, envOf] at h; subst h; rfl
 | cell x t =>
   obtain ⟨ad, h1, h2⟩ := h
   simp only [envOf] at h1
   simp only [resF, h1, asAddr]
   exact h2 hF w hsh hst
theorem ends_none (hr : fn.results = #[]) (h : R (.tuple #[]) Γ) : Ends P w0 sh fn ρ Γ R := fun hF a w _ _ hst => ⟨_, Γ, by simp [results, hr, Sem.run, pure], h, hst⟩
theorem zem {r1 : ResultVar} {v1 : Value} (hr : fn.results = #[r1]) (h1 : ResOk P w0 sh ρ Γ r1 v1) (h : R v1 Γ) : Ends P w0 sh fn ρ Γ R :=
 fun hF a w hsh ha hst => ⟨v1, Γ, by
   rw [results_eq, hr]
   have e1 := resOk_run h1 hsh ha hst
   simp only [Array.mapM_eq_mapM_toList, List.mapM_cons, List.mapM_nil, Sem.run_bind, Sem.run_map, Sem.run_pure, Result.andThen_ok, e1]
   rfl, h, hst⟩
theorem zen {r1 r2 : ResultVar} {v1 v2 : Value} (hr : fn.results = #[r1, r2]) (h1 : ResOk P w0 sh ρ Γ r1 v1) (h2 : ResOk P w0 sh ρ Γ r2 v2) (h : R (.tuple #[v1, v2]) Γ) : Ends P w0 sh fn ρ Γ R :=
 fun hF a w hsh ha hst => ⟨_, Γ, by
   rw [results_eq, hr]
   have e1 := resOk_run h1 hsh ha hst
   have e2 := resOk_run h2 hsh ha hst
   simp only [Array.mapM_eq_mapM_toList, List.mapM_cons, List.mapM_nil, Sem.run_bind, Sem.run_map, Sem.run_pure, Result.andThen_ok, e1, e2]
   rfl, h, hst⟩
theorem ends_three {r1 r2 r3 : ResultVar} {v1 v2 v3 : Value} (hr : fn.results = #[r1, r2, r3]) (h1 : ResOk P w0 sh ρ Γ r1 v1) (h2 : ResOk P w0 sh ρ Γ r2 v2) (h3 : ResOk P w0 sh ρ Γ r3 v3)
   (h : R (.tuple #[v1, v2, v3]) Γ) : Ends P w0 sh fn ρ Γ R :=
 fun hF a w hsh ha hst => ⟨_, Γ, by
   rw [results_eq, hr]
   have e1 := resOk_run h1 hsh ha hst
   have e2 := resOk_run h2 hsh ha hst
   have e3 := resOk_run h3 hsh ha hst
   simp only [Array.mapM_eq_mapM_toList, List.mapM_cons, List.mapM_nil, Sem.run_bind, Sem.run_map, Sem.run_pure, Result.andThen_ok, e1, e2, e3]
   rfl, h, hst⟩
end
end Go.Vc
namespace Go.Vc
class TShape (P : Program) (t : TypeId) (agg : outParam Bool) (n : outParam Nat) : Prop where
 agg_run : ∀ w, (isAgg t).run P w = .ok agg w
 size_run : ∀ w, (sizeOf t).run P w = .ok n w
class TZero (P : Program) (t : TypeId) (z : outParam (List Value)) : Prop where
 zero_run : ∀ w, ∃ v : Value, (zeroValue t).run P w = .ok v w ∧ v.cells = z.toArray
class TField (P : Program) (s : TypeId) (f : Nat) (off : outParam Nat) : Prop where
 field_run : ∀ b o w, (Instr.fieldAt s (.pointer (some ⟨b, o, none⟩)) f).run P w = .ok (.pointer (some ⟨b, o + off, none⟩)) w
class TUnd (P : Program) (t : TypeId) (d : outParam TypeDesc) : Prop where
 und : P.underlying t = some d
class TBytes (P : Program) (t : TypeId) (n : outParam Nat) : Prop where
 info_run : ∀ w, ∃ i : TypeInfo, (typeInfo t).run P w = .ok i w ∧ i.bytes = n
def nth : List Value → Nat → Option Value
 | [], _ => none
 | v :: _, 0 => some v
 | _ :: l, i + 1 => nth l i
def dropL : Nat → List Value → List Value
 | 0, l => l
 | _ + 1, [] => []
 | i + 1, _ :: l => dropL i l
def takeL : Nat → List Value → Option (List Value)
 | 0, _ => some []
 | _ + 1, [] => none
 | i + 1, v :: l => match takeL i l with | some l' => some (v :: l') | none => none
def rd : Bool → Nat → List Value → Nat → Option Value
 | false, _, cs, off => nth cs off
 | true, n, cs, off => match takeL n (dropL off cs) with | some l => some (.agg l.toArray) | none => none
def over : List Value → List Value → Option (List Value)
 | [], l => some l
 | _ :: _, [] => none
 | v :: vs, _ :: l => match over vs l with | some l' => some (v :: l') | none => none
def wr : List Value → Nat → List Value → Option (List Value)
 | vs, 0, l => over vs l
 | _, _ + 1, [] => none
 | vs, i + 1, v :: l => match wr vs i l with | some l' => some (v :: l') | none => none
def cellsL (v : Value) : List Value := match v with | .agg cs => cs.toList | v => [v]
def oneC : Value → Bool | .agg _ | .tuple _ => false | _ => true
def allOne : List Value → Bool | [] => true | v :: l => oneC v && allOne l
theorem nth_eq : ∀ (l : List Value) (i : Nat), nth l i = l[i]?
 | [], i => by simp [nth]
 | v :: l, 0 => rfl
 | v :: l, i + 1 => by simp [nth, nth_eq l i]
theorem dropL_eq : ∀ (i : Nat) (l : List Value), dropL i l = l.drop i
 | 0, l => rfl
 | i + 1, [] => rfl
 | i + 1, v :: l => by simp [dropL, dropL_eq i l]
theorem takeL_eq : ∀ (i : Nat) (l l' : List Value), takeL i l = some l' → l' = l.take i ∧ i ≤ l.length
 | 0, l, l', h => by simp [takeL] at h; subst h; simp
 | i + 1, [], l', h => by simp [takeL] at h
 | i + 1, v :: l, l', h => by
   simp only [takeL] at h
   split at h
   · rename_i l2 hl
     obtain ⟨h1, h2⟩ := takeL_eq i l l2 hl
     simp at h; subst h; subst h1
     simp [h2]
   · cases h
theorem over_eq : ∀ (vs l l' : List Value), over vs l = some l' → l' = vs ++ l.drop vs.length ∧ vs.length ≤ l.length
 | [], l, l', h => by simp [over] at h; subst h; simp
 | v :: vs, [], l', h => by simp [over] at h
 | v :: vs, u :: l, l', h => by
   simp only [over] at h
   split at h
   · rename_i l2 hl
     obtain ⟨h1, h2⟩ := over_eq vs l l2 hl
     simp at h; subst h; subst h1
     simp [h2]
   · cases h
theorem wr_eq : ∀ (vs : List Value) (i : Nat) (l l' : List Value), wr vs i l = some l' → l' = l.take i ++ vs ++ l.drop (i + vs.length) ∧ i + vs.length ≤ l.length
 | vs, 0, l, l', h => by
   simp only [wr] at h
   obtain ⟨h1, h2⟩ := over_eq vs l l' h
   subst h1; simp [h2]
 | vs, i + 1, [], l', h => by simp [wr] at h
 | vs, i + 1, v :: l, l', h => by
   simp only [wr] at h
   split at h
   · rename_i l2 hl
     obtain ⟨h1, h2⟩ := wr_eq vs i l l2 hl
     simp at h; subst h; subst h1
     have : i + 1 + vs.length = (i + vs.length) + 1 := by omega
     rw [this]
     simp; omega
   · cases h
theorem cellsL_eq (v : Value) : v.cells = (cellsL v).toArray := by cases v <;> simp [Value.cells, cellsL]
theorem take_set_drop (l : List Value) (k : Nat) (v : Value) (vs : List Value) (h : k < l.length) :
   (l.set k v).take (k + 1) ++ vs ++ (l.set k v).drop (k + 1 + vs.length) = l.take k ++ (v :: vs) ++ l.drop (k + (v :: vs).length) := by
 have e1 : (l.set k v).take (k + 1) = l.take k ++ [v] := by
   rw [List.take_succ_eq_append_getElem (by simpa using h), List.take_set_of_le (Nat.le_refl _)]; simp
 have e2 : (l.set k v).drop (k + 1 + vs.length) = l.drop (k + (v :: vs).length) := by
   rw [List.drop_set, if_pos (by omega)]; congr 1; simp; omega
 rw [e1, e2]; simp
section
variable {P : Program} {w : World}
theorem cell_of_heap {b : Nat} {c : Array Value} {T : TypeId} {fr : Nat × Nat} (h : w.heap[b]? = some (.cells c T fr)) (i : Nat) : w.cell? ⟨b, i, none⟩ = c[i]? := by
 simp [World.cell?, h]
theorem run_loadCells {b : Nat} {c : Array Value} {T : TypeId} {fr : Nat × Nat} (h : w.heap[b]? = some (.cells c T fr)) (off : Nat) :
   ∀ (n i : Nat) (acc : Array Value), off + i + n ≤ c.size → (loadCellsFrom ⟨b, off, none⟩ i n acc).run P w = .ok (acc ++ c.extract (off + i) (off + i + n)) w
 | 0, i, acc, _ => by simp [loadCellsFrom]; omega
 | n + 1, i, acc, hle => by
   have hc : w.cell? (Addr.add ⟨b, off, none⟩ i) = some (c[off + i]'(by omega)) := by
     rw [Addr.add_lit, cell_of_heap h]; simp
   simp only [loadCellsFrom, Sem.run_bind, run_load, hc, Result.andThen_ok]
   rw [run_loadCells h off n (i + 1) _ (by omega)]
   congr 1
   rw [Array.push_eq_append, Array.append_assoc]
   congr 1
   have e1 : #[c[off + i]'(by omega)] = c.extract (off + i) (off + i + 1) := by
     apply Array.ext
     · simp; omega
     · intro j h1 h2
       have : j = 0 := by simp at h1; omega
       subst this; simp
   have e2 : off + (i + 1) = off + i + 1 := by omega
   rw [e1, e2, Array.extract_append_extract]
   congr 1 <;> omega
theorem run_loadVar {b off : Nat} {c : Array Value} {T t : TypeId} {fr : Nat × Nat} {agg : Bool} {n : Nat} {v : Value} [hT : TShape P t agg n] (h : w.heap[b]? = some (.cells c T fr))
   (hr : rd agg n c.toList off = some v) : (loadVar t ⟨b, off, none⟩).run P w = .ok v w := by
 cases agg with
 | true =>
   simp only [rd] at hr
   split at hr
   · rename_i l hl
     obtain ⟨h1, h2⟩ := takeL_eq _ _ _ hl
     rw [dropL_eq] at h1 h2
     simp only [List.length_drop, Array.length_toList] at h2
     simp only [Option.some.injEq] at hr
     subst hr
     by_cases hn : n = 0
     · subst hn
       simp only [loadVar, Sem.run_bind, hT.agg_run, Result.andThen_ok, if_true, hT.size_run, loadCells, loadCellsFrom, Sem.run_pure]
       simp at h1; subst h1; rfl
     · have := run_loadCells (P := P) h off n 0 #[] (by omega)
       simp only [loadVar, Sem.run_bind, hT.agg_run, Result.andThen_ok, if_true, hT.size_run, loadCells, this, Sem.run_pure]
       congr 2
       subst h1
       apply Array.ext'
       simp [List.take_drop]
   · cases hr
 | false =>
   simp only [rd, nth_eq] at hr
   have hc : w.cell? ⟨b, off, none⟩ = some v := by rw [cell_of_heap h]; simpa using hr
   simp [loadVar, hT.agg_run, hc]
theorem run_storeCells {b off : Nat} {T : TypeId} : ∀ (vs : List Value) (i : Nat) (c : Array Value) (w : World), w.heap[b]? = some (.cells c T (0, 0)) → allOne vs = true → off + i + vs.length ≤ c.size →
   ∃ w' c', (storeCells ⟨b, off, none⟩ vs i).run P w = .ok () w' ∧ w'.heap[b]? = some (.cells c' T (0, 0)) ∧ c'.toList = c.toList.take (off + i) ++ vs ++ c.toList.drop (off + i + vs.length) ∧
     w'.heap.size = w.heap.size ∧ (∀ x, x ≠ b → w'.heap[x]? = w.heap[x]?) ∧ w'.tape = w.tape ∧ w'.os = w.os ∧ w'.output = w.output
 | [], i, c, w, h, _, _ => ⟨w, c, by simp [storeCells], h, by simp, rfl, fun _ _ => rfl, rfl, rfl, rfl⟩
 | v :: vs, i, c, w, h, hone, hle => by
   simp only [allOne, Bool.and_eq_true] at hone
   simp only [List.length_cons] at hle
   have hlt : off + i < c.size := by omega
   have hc : w.cell? (Addr.add ⟨b, off, none⟩ i) = some (c[off + i]'hlt) := by rw [Addr.add_lit, cell_of_heap h]; simp
   have hv : v.oneCell' = true := by have := hone.1; cases v <;> simp_all [oneC, Value.oneCell']
   have hfz : w.frozen? (Addr.add ⟨b, off, none⟩ i) = false := by rw [Addr.add_lit]; simp [World.frozen?, h]
   have hset : (w.setCell (Addr.add ⟨b, off, none⟩ i) v).heap[b]? = some (.cells (c.setIfInBounds (off + i) v) T (0, 0)) := by
     rw [Addr.add_lit]; simp [World.setCell, Array.getElem?_modify, h]
   have hoth : ∀ x, x ≠ b → (w.setCell (Addr.add ⟨b, off, none⟩ i) v).heap[x]? = w.heap[x]? := fun x hx => by
     rw [Addr.add_lit]; simp [World.setCell, Array.getElem?_modify, Ne.symm hx]
   obtain ⟨w', c', h1, h2, h3, h4, h5, h6, h7, h8⟩ := run_storeCells (off := off) vs (i + 1) (c.setIfInBounds (off + i) v) _ hset hone.2 (by simp; omega)
   refine ⟨w', c', ?_, h2, ?_, by rw [h4]; simp, fun x hx => by rw [h5 x hx, hoth x hx], h6, h7, h8⟩
   · simp only [storeCells, Sem.run_bind]
     rw [run_store _ _ _ _ _ hv, hc, hfz]
     simpa using h1
   · rw [h3]
     have e1 : (c.setIfInBounds (off + i) v).toList = c.toList.set (off + i) v := by simp
     rw [e1]
     have e3 : off + (i + 1) = off + i + 1 := by omega
     rw [e3]
     exact take_set_drop c.toList (off + i) v vs (by simpa using hlt)
theorem run_storeVar {b off n : Nat} {c : Array Value} {T t : TypeId} {agg : Bool} {v : Value} {vs l' : List Value} [hT : TShape P t agg n] (h : w.heap[b]? = some (.cells c T (0, 0)))
   (hv : cellsL v = vs) (hlen : vs.length = n) (hone : allOne vs = true) (hw : wr vs off c.toList = some l') :
   ∃ w', (storeVar t ⟨b, off, none⟩ v).run P w = .ok () w' ∧ w'.heap[b]? = some (.cells l'.toArray T (0, 0)) ∧
     w'.heap.size = w.heap.size ∧ (∀ x, x ≠ b → w'.heap[x]? = w.heap[x]?) ∧ w'.tape = w.tape ∧ w'.os = w.os ∧ w'.output = w.output := by
 obtain ⟨h1, h2⟩ := wr_eq _ _ _ _ hw
 obtain ⟨w', c', g1, g2, g3, g4⟩ := run_storeCells (P := P) (off := off) vs 0 c w h hone (by simpa using h2)
 refine ⟨w', ?_, ?_, g4⟩
 · have hcs : v.cells = vs.toArray := by rw [cellsL_eq, hv]
   simp only [storeVar, Sem.run_bind, hT.size_run, Result.andThen_ok, hcs]
   simp [hlen, g1]
 · rw [g2, h1]
   have : c' = (c.toList.take off ++ vs ++ c.toList.drop (off + vs.length)).toArray := by
     apply Array.ext'; simpa using g3
   rw [this]
end
end Go.Vc
namespace Go.Vc
def getAt {α : Type _} : Nat → List α → Option α
 | _, [] => none
 | 0, x :: _ => some x
 | i + 1, _ :: l => getAt i l
def putAt {α : Type _} : Nat → α → List α → Option (List α)
 | _, _, [] => none
 | 0, y, _ :: l => some (y :: l)
 | i + 1, y, x :: l => match putAt i y l with | some l' => some (x :: l') | none => none
theorem getAt_perm {α : Type _} : ∀ {i : Nat} {l : List α} {x : α}, getAt i l = some x → ∃ r, l.Perm (x :: r)
 | _, [], _, h => by simp [getAt] at h
 | 0, y :: l, x, h => by simp [getAt] at h; subst h; exact ⟨l, List.Perm.refl _⟩
 | i + 1, y :: l, x, h => by
   obtain ⟨r, hr⟩ := getAt_perm (i := i) h
   exact ⟨y :: r, (hr.cons y).trans (List.Perm.swap _ _ _)⟩
theorem getAt_mem {α : Type _} : ∀ {i : Nat} {l : List α} {x : α}, getAt i l = some x → x ∈ l
 | _, [], _, h => by simp [getAt] at h
 | 0, y :: l, x, h => by simp [getAt] at h; subst h; simp
 | i + 1, y :: l, x, h => List.mem_cons_of_mem _ (getAt_mem (i := i) h)
theorem putAt_perm {α : Type _} : ∀ {i : Nat} {l l' : List α} {x y : α}, getAt i l = some x → putAt i y l = some l' → ∃ r, l.Perm (x :: r) ∧ (y :: r).Perm l'
 | _, [], _, _, _, h, _ => by simp [getAt] at h
 | 0, z :: l, l', x, y, h, h' => by
   simp [getAt] at h; simp [putAt] at h'; subst h; subst h'
   exact ⟨l, List.Perm.refl _, List.Perm.refl _⟩
 | i + 1, z :: l, l', x, y, h, h' => by
   simp only [putAt] at h'
   split at h'
   · rename_i l2 hl
     obtain ⟨r, h1, h2⟩ := putAt_perm (i := i) h hl
     simp at h'; subst h'
     exact ⟨z :: r, (h1.cons z).trans (List.Perm.swap _ _ _), (List.Perm.swap _ _ _).trans (h2.cons z)⟩
   · cases h'
section
variable {P : Program} {w0 : World} {n : Nat} {sh : Shared} {Q : Exit → Env → List Deferred → List Asn → Prop} {k : List Item} {ρ : Env} {df : List Deferred} {Γ : List Asn} {hF : Heap}
variable {ops : Array Oper} {l : List (Fl × Nat × Oper)} {b : Fl} {i d : Nat} {ty : TypeId} {pos : String} {aft : Array Edge}
theorem zch (h : Run P w0 n sh Q k ρ df Γ) (hk : notMark k = true := by rfl) : Reg P w0 n sh Q ops [] k ρ df Γ := ⟨Fin.of hk h⟩
theorem reg_quiet {op : Op} {dst : Option Tmp} {v : Value} (hna : allocOp op = false) (hq : ∀ hF, Sh sh hF → QuietAt P w0 hF ⟨dst, op, ty, pos, aft, none⟩ ρ v) (h : Reg P w0 n sh Q ops l k (ρ.setO dst v) df Γ) :
   Reg P w0 n sh Q ops ((b, i, ⟨dst, op, ty, pos, aft, none⟩) :: l) k ρ df Γ := by
 refine ⟨?_⟩
 have hw : wantedE ops ρ ⟨dst, op, ty, pos, aft, none⟩ = true := rfl
 simp only [WR, hw, if_true, hna, Bool.false_eq_true, if_false]
 cases b with
 | quiet => exact ⟨v, hq, h.go⟩
 | read => exact ⟨v, fun hF hsh w hst => hq hF hsh w _ hst, h.go⟩
 | loud => exact ⟨fun v' df' Γ' => v' = v ∧ df' = df ∧ Γ' = Γ, fun hF hsh => (hq hF hsh).opW ⟨rfl, rfl, rfl⟩, fun v' df' Γ' ⟨h1, h2, h3⟩ => by subst h1; subst h2; subst h3; exact h.go⟩
theorem reg_loud {op : Op} {dst : Option Tmp} (hna : allocOp op = false) (R : Value → List Deferred → List Asn → Prop) (hq : ∀ hF, Sh sh hF → OpW P w0 hF ⟨dst, op, ty, pos, aft, none⟩ ρ df Γ R)
   (h : ∀ v df' Γ', R v df' Γ' → Reg P w0 n sh Q ops l k (ρ.setO dst v) df' Γ') :
   Reg P w0 n sh Q ops ((Fl.loud, i, ⟨dst, op, ty, pos, aft, none⟩) :: l) k ρ df Γ := by
 refine ⟨?_⟩
 have hw : wantedE ops ρ ⟨dst, op, ty, pos, aft, none⟩ = true := rfl
 simp only [WR, hw, if_true, hna, Bool.false_eq_true, if_false, reduceCtorEq]
 exact ⟨R, hq, fun v df' Γ' hR => (h v df' Γ' hR).go⟩
def notQuiet : Fl → Bool
 | .quiet => false
 | _ => true
theorem reg_read {op : Op} {dst : Option Tmp} {v : Value} (hna : allocOp op = false) (hb : notQuiet b = true) (hq : ∀ hF, Sh sh hF → ReadAt P w0 hF ⟨dst, op, ty, pos, aft, none⟩ ρ Γ v) (h : Reg P w0 n sh Q ops l k (ρ.setO dst v) df Γ) :
   Reg P w0 n sh Q ops ((b, i, ⟨dst, op, ty, pos, aft, none⟩) :: l) k ρ df Γ := by
 refine ⟨?_⟩
 have hw : wantedE ops ρ ⟨dst, op, ty, pos, aft, none⟩ = true := rfl
 simp only [WR, hw, if_true, hna, Bool.false_eq_true, if_false]
 cases b with
 | quiet => cases hb
 | read => exact ⟨v, hq, h.go⟩
 | loud => exact ⟨fun v' df' Γ' => v' = v ∧ df' = df ∧ Γ' = Γ, fun hF hsh => (hq hF hsh).opW ⟨rfl, rfl, rfl⟩, fun v' df' Γ' ⟨h1, h2, h3⟩ => by subst h1; subst h2; subst h3; exact h.go⟩
theorem reg_make {op : Op} {dst : Option Tmp} {obj : Obj} {val : Nat → Value} (ha : allocOp op = true) (hrun : ∀ w, (execOp (ev ρ) ⟨dst, op, ty, pos, aft, none⟩).run P w = .ok (.value (val w.heap.size)) { w with heap := w.heap.push obj })
   (h : ∀ nb, Reg P w0 n sh Q ops l k (ρ.setO dst (val nb)) df (Γ ++ [pt nb obj])) :
   Reg P w0 n sh Q ops ((Fl.loud, i, ⟨dst, op, ty, pos, aft, none⟩) :: l) k ρ df Γ := by
 refine ⟨?_⟩
 have hw : wantedE ops ρ ⟨dst, op, ty, pos, aft, none⟩ = true := rfl
 simp only [WR, hw, if_true, ha, reduceCtorEq, if_false]
 exact fun _ => ⟨obj, val, hrun, fun nb _ => (h nb).go⟩
theorem zaj {op : Op} {dst : Option Tmp} {j : Nat} {want : Bool} (hy : yieldedE ops ρ j = some want)
   (h : Reg P w0 n sh Q ops ((b, i, ⟨dst, op, ty, pos, aft, none⟩) :: l) k ρ df Γ) : Reg P w0 n sh Q ops ((b, i, ⟨dst, op, ty, pos, aft, some (j, want)⟩) :: l) k ρ df Γ := by
 refine ⟨?_⟩
 have h1 := h.go
 have hw : wantedE ops ρ ⟨dst, op, ty, pos, aft, none⟩ = true := rfl
 have hw2 : wantedE ops ρ ⟨dst, op, ty, pos, aft, some (j, want)⟩ = true := by simp [wantedE, Region.wanted, hy]
 simp only [WR, hw, hw2, if_true] at h1 ⊢
 exact h1
theorem zak {op : Op} {dst : Option Tmp} {j : Nat} {want : Bool} (hy : yieldedE ops ρ j = some (!want))
   (h : Reg P w0 n sh Q ops l k (ρ.setO dst undef) df Γ) : Reg P w0 n sh Q ops ((b, i, ⟨dst, op, ty, pos, aft, some (j, want)⟩) :: l) k ρ df Γ := by
 refine ⟨?_⟩
 have hw2 : ¬ (wantedE ops ρ ⟨dst, op, ty, pos, aft, some (j, want)⟩ = true) := by simp [wantedE, Region.wanted, hy]
 simp only [WR, if_neg hw2]
 exact h.go
theorem set_same {d : Nat} {v : Value} (h : ρ d = v) : ρ.set d v = ρ := by
 funext t
 unfold Env.set
 cases hb : Nat.beq t d with
 | false => rfl
 | true => have := Nat.eq_of_beq_eq_true hb; subst this; exact h.symm
theorem zam {op : Op} {dst : Option Tmp} {j gd : Nat} {want : Bool} {p : Prop} [hdec : Decidable p] (hy : (ops[j]?).bind (·.dst) = some gd) (hv : ρ gd = .bool (decide p))
   (ht : p → Reg P w0 n sh Q ops ((b, i, ⟨dst, op, ty, pos, aft, some (j, want)⟩) :: l) k (ρ.set gd (.bool true)) df Γ)
   (hf : ¬ p → Reg P w0 n sh Q ops ((b, i, ⟨dst, op, ty, pos, aft, some (j, want)⟩) :: l) k (ρ.set gd (.bool false)) df Γ) :
   Reg P w0 n sh Q ops ((b, i, ⟨dst, op, ty, pos, aft, some (j, want)⟩) :: l) k ρ df Γ := by
 have _ := hy
 by_cases hp : p
 · have := ht hp; rwa [set_same (by rw [hv, decide_eq_true hp])] at this
 · have := hf hp; rwa [set_same (by rw [hv, decide_eq_false hp])] at this
theorem quiet_of_run {o : Oper} {v : Value} (h : ∀ w, (execOp (ev ρ) o).run P w = .ok (.value v) w) : QuietAt P w0 hF o ρ v := fun w _ hst => ⟨w, h w, hst⟩
def pureV (ρ : Env) : Op → Option Value
 | .move x => some (ev ρ x)
 | .assign x => some (ev ρ x)
 | .extract t i => match ev ρ t with | .tuple vs => nth vs.toList i | _ => none
 | .nilCheck x => match ev ρ x with
   | .pointer (some a) => some (.pointer (some a))
   | .func (.func f) a c => some (.func (.func f) a c)
   | _ => none
 | .makeFunc fn first cap => some (.func fn (first.toList.map (ev ρ)).toArray (cap.toList.map (ev ρ)).toArray)
 | .pick c a b => match ev ρ c with | .bool true => some (ev ρ a) | .bool false => some (ev ρ b) | _ => none
 | _ => none
theorem zan {op : Op} {v : Value} (hv : pureV ρ op = some v) (h : Reg P w0 n sh Q ops l k (ρ.set d v) df Γ) :
   Reg P w0 n sh Q ops ((b, i, ⟨some d, op, ty, pos, aft, none⟩) :: l) k ρ df Γ := by
 refine reg_quiet (v := v) (by cases op <;> first | rfl | (simp [pureV] at hv)) (fun hF _ => quiet_of_run fun w => ?_) h
 cases op <;> simp only [pureV] at hv <;> try (cases hv; done)
 case move x => cases hv; rfl
 case assign x => cases hv; rfl
 case pick c x y =>
   split at hv
   · rename_i hc; cases hv; simp [execOp, hc, asBool]
   · rename_i hc; cases hv; simp [execOp, hc, asBool]
   · cases hv
 case nilCheck x =>
   split at hv
   · rename_i hc; cases hv; simp [execOp, hc]
   · rename_i hc; cases hv; simp [execOp, hc]
   · cases hv
 case makeFunc fn first cap =>
   cases hv
   have e : ∀ a : Array Operand, a.map (ev ρ) = (a.toList.map (ev ρ)).toArray := fun a => by apply Array.ext'; simp
   simp only [execOp, Instr.makeFunc, Sem.run_bind, Sem.run_pure, Result.andThen_ok, e]
 case extract t ix =>
   split at hv
   · rename_i vs hc
     rw [nth_eq] at hv
     simp [execOp, Instr.extract, hc, show vs[ix]? = some v by simpa using hv]
   · cases hv
section arith
variable {x y : Operand} {t yt : TypeId} {kd : IntKind} {m m' : Int}
theorem zdu (hx : ev ρ x = .int kd m) (hy : ev ρ y = .int kd m') (h : Reg P w0 n sh Q ops l k (ρ.set d (.int kd (kd.wrap (m + m')))) df Γ) :
   Reg P w0 n sh Q ops ((b, i, ⟨some d, .binOp .add t x y yt, ty, pos, aft, none⟩) :: l) k ρ df Γ :=
 reg_quiet rfl (fun hF _ => quiet_of_run fun w => by simp [execOp, hx, hy, go_sem]) h
theorem zev (hx : ev ρ x = .int kd m) (hy : ev ρ y = .int kd m') (h : Reg P w0 n sh Q ops l k (ρ.set d (.int kd (kd.wrap (m - m')))) df Γ) :
   Reg P w0 n sh Q ops ((b, i, ⟨some d, .binOp .sub t x y yt, ty, pos, aft, none⟩) :: l) k ρ df Γ :=
 reg_quiet rfl (fun hF _ => quiet_of_run fun w => by simp [execOp, hx, hy, go_sem]) h
theorem reg_mul (hx : ev ρ x = .int kd m) (hy : ev ρ y = .int kd m') (h : Reg P w0 n sh Q ops l k (ρ.set d (.int kd (kd.wrap (m * m')))) df Γ) :
   Reg P w0 n sh Q ops ((b, i, ⟨some d, .binOp .mul t x y yt, ty, pos, aft, none⟩) :: l) k ρ df Γ :=
 reg_quiet rfl (fun hF _ => quiet_of_run fun w => by simp [execOp, hx, hy, go_sem]) h
theorem wrap64_id {m : Int} (h0 : -9223372036854775808 ≤ m) (h1 : m ≤ 9223372036854775807) : IntKind.i64.wrap m = m := by
 simp only [IntKind.wrap, IntKind.bits, IntKind.signed]
 simp
 split <;> omega
theorem zau (hx : ev ρ x = .int .i64 m) (hy : ev ρ y = .int .i64 m') (hb : -9223372036854775808 ≤ m + m' ∧ m + m' ≤ 9223372036854775807)
   (h : Reg P w0 n sh Q ops l k (ρ.set d (.int .i64 (m + m'))) df Γ) : Reg P w0 n sh Q ops ((b, i, ⟨some d, .binOp .add t x y yt, ty, pos, aft, none⟩) :: l) k ρ df Γ :=
 zdu hx hy (by rw [wrap64_id hb.1 hb.2]; exact h)
theorem zav (hx : ev ρ x = .int .i64 m) (hy : ev ρ y = .int .i64 m') (hb : -9223372036854775808 ≤ m - m' ∧ m - m' ≤ 9223372036854775807)
   (h : Reg P w0 n sh Q ops l k (ρ.set d (.int .i64 (m - m'))) df Γ) : Reg P w0 n sh Q ops ((b, i, ⟨some d, .binOp .sub t x y yt, ty, pos, aft, none⟩) :: l) k ρ df Γ :=
 zev hx hy (by rw [wrap64_id hb.1 hb.2]; exact h)
theorem zaw (hx : ev ρ x = .int .i64 m) (hy : ev ρ y = .int .i64 m') (hb : -9223372036854775808 ≤ m * m' ∧ m * m' ≤ 9223372036854775807)
   (h : Reg P w0 n sh Q ops l k (ρ.set d (.int .i64 (m * m'))) df Γ) : Reg P w0 n sh Q ops ((b, i, ⟨some d, .binOp .mul t x y yt, ty, pos, aft, none⟩) :: l) k ρ df Γ :=
 reg_mul hx hy (by rw [wrap64_id hb.1 hb.2]; exact h)
theorem reg_quo (hx : ev ρ x = .int kd m) (hy : ev ρ y = .int kd m') (h0 : m' ≠ 0) (h : Reg P w0 n sh Q ops l k (ρ.set d (.int kd (kd.wrap (m.tdiv m')))) df Γ) :
   Reg P w0 n sh Q ops ((b, i, ⟨some d, .binOp .quo t x y yt, ty, pos, aft, none⟩) :: l) k ρ df Γ :=
 reg_quiet rfl (fun hF _ => quiet_of_run fun w => by simp [execOp, hx, hy, go_sem, binOp, h0]) h
theorem zax (hx : ev ρ x = .int .i64 m) (hy : ev ρ y = .int .i64 m') (hb : 0 ≤ m ∧ 0 < m' ∧ m ≤ 9223372036854775807) (h : Reg P w0 n sh Q ops l k (ρ.set d (.int .i64 (m / m'))) df Γ) :
   Reg P w0 n sh Q ops ((b, i, ⟨some d, .binOp .quo t x y yt, ty, pos, aft, none⟩) :: l) k ρ df Γ :=
 reg_quo hx hy (by omega) (by
   have e : m.tdiv m' = m / m' := Int.tdiv_eq_ediv_of_nonneg hb.1
   have h1 : 0 ≤ m / m' := Int.ediv_nonneg hb.1 (by omega)
   have h2 : m / m' ≤ m := Int.ediv_le_self _ hb.1
   rw [e, wrap64_id (by omega) (by omega)]; exact h)
theorem zbo (hx : ev ρ x = .int kd m) (hy : ev ρ y = .int kd m') (h : Reg P w0 n sh Q ops l k (ρ.set d (.bool (decide (m = m')))) df Γ) :
   Reg P w0 n sh Q ops ((b, i, ⟨some d, .binOp .eql t x y yt, ty, pos, aft, none⟩) :: l) k ρ df Γ :=
 reg_quiet rfl (fun hF _ => quiet_of_run fun w => by
   have : (m == m') = decide (m = m') := by by_cases hm : m = m' <;> simp [hm]
   simp [execOp, hx, hy, go_sem, binOp, this]) h
theorem zbp (hx : ev ρ x = .int kd m) (hy : ev ρ y = .int kd m') (h : Reg P w0 n sh Q ops l k (ρ.set d (.bool (decide (m ≠ m')))) df Γ) :
   Reg P w0 n sh Q ops ((b, i, ⟨some d, .binOp .neq t x y yt, ty, pos, aft, none⟩) :: l) k ρ df Γ :=
 reg_quiet rfl (fun hF _ => quiet_of_run fun w => by
   have : (m != m') = decide (m ≠ m') := by by_cases hm : m = m' <;> simp [hm]
   simp [execOp, hx, hy, go_sem, binOp, this]) h
theorem zbq (hx : ev ρ x = .int kd m) (hy : ev ρ y = .int kd m') (h : Reg P w0 n sh Q ops l k (ρ.set d (.bool (decide (m < m')))) df Γ) :
   Reg P w0 n sh Q ops ((b, i, ⟨some d, .binOp .lss t x y yt, ty, pos, aft, none⟩) :: l) k ρ df Γ :=
 reg_quiet rfl (fun hF _ => quiet_of_run fun w => by simp [execOp, hx, hy, go_sem, binOp]) h
theorem zbr (hx : ev ρ x = .int kd m) (hy : ev ρ y = .int kd m') (h : Reg P w0 n sh Q ops l k (ρ.set d (.bool (decide (m ≤ m')))) df Γ) :
   Reg P w0 n sh Q ops ((b, i, ⟨some d, .binOp .leq t x y yt, ty, pos, aft, none⟩) :: l) k ρ df Γ :=
 reg_quiet rfl (fun hF _ => quiet_of_run fun w => by simp [execOp, hx, hy, go_sem, binOp]) h
theorem zbs (hx : ev ρ x = .int kd m) (hy : ev ρ y = .int kd m') (h : Reg P w0 n sh Q ops l k (ρ.set d (.bool (decide (m' < m)))) df Γ) :
   Reg P w0 n sh Q ops ((b, i, ⟨some d, .binOp .gtr t x y yt, ty, pos, aft, none⟩) :: l) k ρ df Γ :=
 reg_quiet rfl (fun hF _ => quiet_of_run fun w => by simp [execOp, hx, hy, go_sem, binOp]) h
theorem zbt (hx : ev ρ x = .int kd m) (hy : ev ρ y = .int kd m') (h : Reg P w0 n sh Q ops l k (ρ.set d (.bool (decide (m' ≤ m)))) df Γ) :
   Reg P w0 n sh Q ops ((b, i, ⟨some d, .binOp .geq t x y yt, ty, pos, aft, none⟩) :: l) k ρ df Γ :=
 reg_quiet rfl (fun hF _ => quiet_of_run fun w => by simp [execOp, hx, hy, go_sem, binOp]) h
theorem zby {p : Prop} [Decidable p] (hx : ev ρ x = .bool (decide p)) (h : Reg P w0 n sh Q ops l k (ρ.set d (.bool (decide (¬ p)))) df Γ) :
   Reg P w0 n sh Q ops ((b, i, ⟨some d, .unOp .not t x, ty, pos, aft, none⟩) :: l) k ρ df Γ :=
 reg_quiet rfl (fun hF _ => quiet_of_run fun w => by simp [execOp, hx, Op.unary]) h
theorem zbx {q : Bool} (hx : ev ρ x = .bool q) (h : Reg P w0 n sh Q ops l k (ρ.set d (.bool (!q))) df Γ) :
   Reg P w0 n sh Q ops ((b, i, ⟨some d, .unOp .not t x, ty, pos, aft, none⟩) :: l) k ρ df Γ :=
 reg_quiet rfl (fun hF _ => quiet_of_run fun w => by simp [execOp, hx, Op.unary]) h
theorem zbu {c : Operand} (hc : ev ρ c = .bool true) (h : Reg P w0 n sh Q ops l k (ρ.set d (ev ρ x)) df Γ) :
   Reg P w0 n sh Q ops ((b, i, ⟨some d, .pick c x y, ty, pos, aft, none⟩) :: l) k ρ df Γ := zan (by simp [pureV, hc]) h
theorem zbv {c : Operand} (hc : ev ρ c = .bool false) (h : Reg P w0 n sh Q ops l k (ρ.set d (ev ρ y)) df Γ) :
   Reg P w0 n sh Q ops ((b, i, ⟨some d, .pick c x y, ty, pos, aft, none⟩) :: l) k ρ df Γ := zan (by simp [pureV, hc]) h
theorem run_equal {P : Program} {t : TypeId} {u v : Value} {q : Bool} {w : World} (h : ∀ d, (Op.equalIn (d + 1) t u v).run P w = .ok q w) : (Op.equal t u v).run P w = .ok q w := h 9999
theorem reg_eq_gen {u v : Value} {q : Bool} (hx : ev ρ x = u) (hy : ev ρ y = v) (hgd : eqGuard .eql t x y u v = pure ()) (hb : binOp .eql t u v = (do pure (.bool (← Op.equal t u v)))) (he : ∀ d w, (Op.equalIn (d + 1) t u v).run P w = .ok q w)
   (h : Reg P w0 n sh Q ops l k (ρ.set d (.bool q)) df Γ) : Reg P w0 n sh Q ops ((b, i, ⟨some d, .binOp .eql t x y yt, ty, pos, aft, none⟩) :: l) k ρ df Γ :=
 reg_quiet rfl (fun hF _ => quiet_of_run fun w => by
   simp only [execOp, hx, hy, hgd, hb, Sem.run_bind, Sem.run_pure, Result.andThen_ok, run_equal (fun d => he d w)]) h
theorem zca {src dst : TypeId} {sd : TypeDesc} {kd' : IntKind} [hs : TUnd P src sd] [hd : TUnd P dst (.int kd')] (hx : ev ρ x = .int kd m)
   (h : Reg P w0 n sh Q ops l k (ρ.set d (.int kd' (kd'.wrap m))) df Γ) : Reg P w0 n sh Q ops ((b, i, ⟨some d, .convert src dst x, ty, pos, aft, none⟩) :: l) k ρ df Γ :=
 reg_quiet rfl (fun hF _ => quiet_of_run fun w => by
   simp only [execOp, hx, convert, Sem.run_bind, run_underlying hs.und, run_underlying hd.und, Result.andThen_ok, Conv.intToInt]
   simp) h
theorem zbz {src dst : TypeId} {sd : TypeDesc} [hs : TUnd P src sd] [hd : TUnd P dst (.int .i64)] (hx : ev ρ x = .int kd m) (hb : -9223372036854775808 ≤ m ∧ m ≤ 9223372036854775807)
   (h : Reg P w0 n sh Q ops l k (ρ.set d (.int .i64 m)) df Γ) : Reg P w0 n sh Q ops ((b, i, ⟨some d, .convert src dst x, ty, pos, aft, none⟩) :: l) k ρ df Γ :=
 zca hx (by rw [wrap64_id hb.1 hb.2]; exact h)
end arith
end
end Go.Vc
namespace Go.Vc
section
variable {P : Program} {w0 : World} {n : Nat} {sh : Shared} {Q : Exit → Env → List Deferred → List Asn → Prop} {k : List Item} {ρ : Env} {df : List Deferred} {Γ : List Asn} {hF : Heap}
variable {ops : Array Oper} {l : List (Fl × Nat × Oper)} {b : Fl} {i d : Nat} {ty : TypeId} {pos : String} {aft : Array Edge}
variable {x y : Operand} {t T : TypeId} {agg : Bool} {m bb off : Nat} {cs vs l' : List Value} {fr : Nat × Nat} {v : Value}
theorem load_of {w : World} {c : Array Value} (hT : TShape P t agg m) (hx : ev ρ x = .pointer (some ⟨bb, off, none⟩)) (h : w.heap[bb]? = some (.cells c T fr)) (hr : rd agg m c.toList off = some v) {dst : Option Tmp} :
   (execOp (ev ρ) ⟨dst, .load t x, ty, pos, aft, none⟩).run P w = .ok (.value v) w := by
 simp only [execOp, hx, Instr.loadAt, Instr.sureAddr, Sem.run_bind, Sem.run_pure, Result.andThen_ok, run_loadVar h hr]
theorem zaa (j : Nat) [hT : TShape P t agg m] (hx : ev ρ x = .pointer (some ⟨bb, off, none⟩)) (hm : getAt j sh = some (bb, .cells (List.toArray cs) T fr)) (hr : rd agg m cs off = some v)
   (h : Reg P w0 n sh Q ops l k (ρ.set d v) df Γ) : Reg P w0 n sh Q ops ((b, i, ⟨some d, .load t x, ty, pos, aft, none⟩) :: l) k ρ df Γ :=
 reg_quiet rfl (fun _ hsh w _ hst => ⟨w, load_of hT hx (hst.frame (hsh _ (getAt_mem hm))).2 hr, hst⟩) h
theorem zab (j : Nat) [hT : TShape P t agg m] (hx : ev ρ x = .pointer (some ⟨bb, off, none⟩)) (hm : getAt j Γ = some (pt bb (.cells (List.toArray cs) T fr))) (hr : rd agg m cs off = some v)
   (h : Reg P w0 n sh Q ops l k (ρ.set d v) df Γ) (hb : notQuiet b = true := by rfl) : Reg P w0 n sh Q ops ((b, i, ⟨some d, .load t x, ty, pos, aft, none⟩) :: l) k ρ df Γ :=
 reg_read rfl hb (fun hF _ w hst => by
   obtain ⟨r, hp⟩ := getAt_perm hm
   exact ⟨w, load_of hT hx (hst.perm hp).get.2 hr, hst⟩) h
theorem zae (j : Nat) {Γ' : List Asn} {dst : Option Tmp} [hT : TShape P t agg m] (hx : ev ρ x = .pointer (some ⟨bb, off, none⟩)) (hm : getAt j Γ = some (pt bb (.cells (List.toArray cs) T (0, 0)))) (hv : cellsL (ev ρ y) = vs)
   (hlen : vs.length = m) (hone : allOne vs = true) (hw : wr vs off cs = some l') (hp : putAt j (pt bb (.cells (List.toArray l') T (0, 0))) Γ = some Γ')
   (h : Reg P w0 n sh Q ops l k (ρ.setO dst undef) df Γ') : Reg P w0 n sh Q ops ((Fl.loud, i, ⟨dst, .store t x y, ty, pos, aft, none⟩) :: l) k ρ df Γ := by
 refine reg_loud rfl (fun v' df' Γ'' => v' = undef ∧ df' = df ∧ Γ'' = Γ') (fun hF _ w hst => ?_) (fun v' df' Γ'' ⟨h1, h2, h3⟩ => by subst h1; subst h2; subst h3; exact h)
 obtain ⟨r, hp1, hp2⟩ := putAt_perm hm hp
 have hst1 := hst.perm hp1
 obtain ⟨w', g1, g2, g3, g4, g5, g6, g7⟩ := run_storeVar (P := P) (off := off) (v := ev ρ y) (t := t) hst1.get.2 hv hlen hone hw
 simp only [execOp, hx, Instr.storeAt, Instr.sureAddr, Sem.run_bind, Sem.run_pure, Result.andThen_ok, g1]
 exact ⟨Γ', ⟨rfl, rfl, rfl⟩, (hst1.upd g5 g6 g7 g3 g2 g4).perm hp2⟩
theorem reg_new {o : Op} {cs' : List Value} {T' : TypeId} {val : Nat → Value} (ha : allocOp o = true) (hrun : ∀ w, (execOp (ev ρ) ⟨some d, o, ty, pos, aft, none⟩).run P w = .ok (.value (val w.heap.size)) { w with heap := w.heap.push (.cells cs'.toArray T' (0, 0)) })
   (h : ∀ nb, Reg P w0 n sh Q ops l k (ρ.set d (val nb)) df (Γ ++ [pt nb (.cells (List.toArray cs') T' (0, 0))])) : Reg P w0 n sh Q ops ((Fl.loud, i, ⟨some d, o, ty, pos, aft, none⟩) :: l) k ρ df Γ :=
 reg_make ha hrun h
theorem zaq (hv : cellsL (ev ρ x) = cs) (h : ∀ nb, Reg P w0 n sh Q ops l k (ρ.set d (.pointer (some ⟨nb, 0, none⟩))) df (Γ ++ [pt nb (.cells (List.toArray cs) t (0, 0))])) :
   Reg P w0 n sh Q ops ((Fl.loud, i, ⟨some d, .box t x, ty, pos, aft, none⟩) :: l) k ρ df Γ :=
 reg_new (val := fun nb => .pointer (some ⟨nb, 0, none⟩)) rfl (fun w => by
   have : (ev ρ x).cells = cs.toArray := by rw [cellsL_eq, hv]
   simp only [execOp, Instr.box, newVar, newRow, this, Sem.run_bind, run_newObj, Sem.run_pure, Result.andThen_ok]) h
theorem zar [hz : TZero P t cs] (h : ∀ nb, Reg P w0 n sh Q ops l k (ρ.set d (.pointer (some ⟨nb, 0, none⟩))) df (Γ ++ [pt nb (.cells (List.toArray cs) t (0, 0))])) :
   Reg P w0 n sh Q ops ((Fl.loud, i, ⟨some d, .alloc t, ty, pos, aft, none⟩) :: l) k ρ df Γ :=
 reg_new (val := fun nb => .pointer (some ⟨nb, 0, none⟩)) rfl (fun w => by
   obtain ⟨z, h1, h2⟩ := hz.zero_run w
   simp only [execOp, Instr.alloc, newVar, newRow, Sem.run_bind, h1, h2, run_newObj, Sem.run_pure, Result.andThen_ok]) h
theorem zao {f off' : Nat} [hT : TField P t f off'] (hx : ev ρ x = .pointer (some ⟨bb, off, none⟩)) (h : Reg P w0 n sh Q ops l k (ρ.set d (.pointer (some ⟨bb, off + off', none⟩))) df Γ) :
   Reg P w0 n sh Q ops ((b, i, ⟨some d, .fieldAddr t x f, ty, pos, aft, none⟩) :: l) k ρ df Γ :=
 reg_quiet rfl (fun hF _ => quiet_of_run fun w => by
   simp only [execOp, hx, Sem.run_bind, hT.field_run, Sem.run_pure, Result.andThen_ok]) h
class TPart (P : Program) (s : TypeId) (f : Nat) (agg : outParam Bool) (off m : outParam Nat) : Prop where
 part_run : ∀ (cs : Array Value) (v : Value) w, rd agg m cs.toList off = some v → (Instr.field s (.agg cs) f).run P w = .ok v w
theorem reg_fieldV {f : Nat} [hT : TPart P t f agg off m] (hx : ev ρ x = .agg (List.toArray cs)) (hr : rd agg m cs off = some v) (h : Reg P w0 n sh Q ops l k (ρ.set d v) df Γ) :
   Reg P w0 n sh Q ops ((b, i, ⟨some d, .field t x f, ty, pos, aft, none⟩) :: l) k ρ df Γ :=
 reg_quiet rfl (fun hF _ => quiet_of_run fun w => by
   simp only [execOp, hx, Sem.run_bind, hT.part_run cs.toArray v w hr, Sem.run_pure, Result.andThen_ok]) h
section index
variable {e : TypeId} {len cap : Nat} {kd : IntKind} {ix : Int}
theorem indexAt_slice {w : World} (hu : P.underlying t = some (.slice e)) {sz : Nat} (hz : ∀ w, (sizeOf e).run P w = .ok sz w) (h0 : 0 ≤ ix) (h1 : ix < len) :
   (Instr.indexAt t (.slice (some ⟨bb, off, none⟩) len cap) (.int kd ix)).run P w = .ok (.pointer (some ⟨bb, off + ix.toNat * sz, none⟩)) w := by
 simp only [Instr.indexAt, asIntOf, Sem.run_bind, Sem.run_pure, Result.andThen_ok, run_underlying hu]
 simp [h0, h1, hz, Addr.add_lit]
theorem zas {sz : Nat} {ag : Bool} [hT : TUnd P t (.slice e)] [hS : TShape P e ag sz] (hx : ev ρ x = .slice (some ⟨bb, off, none⟩) len cap) (hy : ev ρ y = .int kd ix) (hb : 0 ≤ ix ∧ ix < len)
   (h : Reg P w0 n sh Q ops l k (ρ.set d (.pointer (some ⟨bb, off + ix.toNat * sz, none⟩))) df Γ) :
   Reg P w0 n sh Q ops ((b, i, ⟨some d, .indexAddr t x y, ty, pos, aft, none⟩) :: l) k ρ df Γ :=
 reg_quiet rfl (fun hF _ => quiet_of_run fun w => by
   simp only [execOp, hx, hy, Sem.run_bind, indexAt_slice hT.und hS.size_run hb.1 hb.2, Sem.run_pure, Result.andThen_ok]) h
theorem zat {sz alen : Nat} {ag : Bool} [hT : TUnd P t (.array alen e)] [hS : TShape P e ag sz] (hx : ev ρ x = .pointer (some ⟨bb, off, none⟩)) (hy : ev ρ y = .int kd ix) (hb : 0 ≤ ix ∧ ix < (alen : Int))
   (h : Reg P w0 n sh Q ops l k (ρ.set d (.pointer (some ⟨bb, off + ix.toNat * sz, none⟩))) df Γ) :
   Reg P w0 n sh Q ops ((b, i, ⟨some d, .indexAddr t x y, ty, pos, aft, none⟩) :: l) k ρ df Γ :=
 reg_quiet rfl (fun hF _ => quiet_of_run fun w => by
   simp only [execOp, hx, hy, Instr.indexAt, asIntOf, Instr.sureAddr, Sem.run_bind, Sem.run_pure, Result.andThen_ok, run_underlying hT.und]
   simp [hb.1, hb.2, hS.size_run, Addr.add_lit]) h
theorem zce {a : Option Addr} [hT : TUnd P t (.slice e)] (hx : ev ρ x = .slice a len cap) (h : Reg P w0 n sh Q ops l k (ρ.set d (.int .i64 len)) df Γ) :
   Reg P w0 n sh Q ops ((b, i, ⟨some d, .call ⟨.builtin .len, #[x], #[t]⟩, ty, pos, aft, none⟩) :: l) k ρ df Γ :=
 reg_quiet rfl (fun hF _ => quiet_of_run fun w => by
   simp [execOp, resolve, invoke, builtin, Builtin.len_, hx, run_underlying hT.und, goInt]) h
theorem zcf {u v' : Int} {ats : Array TypeId} (hx : ev ρ x = .int kd u) (hy : ev ρ y = .int kd v') (h : Reg P w0 n sh Q ops l k (ρ.set d (.int kd (if v' > u then v' else u))) df Γ) :
   Reg P w0 n sh Q ops ((b, i, ⟨some d, .call ⟨.builtin .max, #[x, y], ats⟩, ty, pos, aft, none⟩) :: l) k ρ df Γ :=
 reg_quiet rfl (fun hF _ => quiet_of_run fun w => by
   simp [execOp, resolve, invoke, builtin, Builtin.max_, Builtin.max2, hx, hy]) h
end index
section calls
variable {f : FuncId} {args : List Value} {Γp Γr : List Asn} {R : Value → List Asn → Prop} {shf : Shared} {cargs : Array Operand} {ats : Array TypeId} {fo : Operand} {first cap : Array Value} {is : List Nat}
theorem opW_call {dst : Option Tmp} (hfo : ev ρ fo = .func (.func f) first cap) (spec : Fn P w0 shf f args Γp R) (hargs : first.toList ++ cargs.toList.map (ev ρ) ++ cap.toList = args)
   (hp : pick is Γ = some (Γp, Γr)) (hsh : Sh shf hF) :
   OpW P w0 hF ⟨dst, .call ⟨.value fo, cargs, ats⟩, ty, pos, aft, none⟩ ρ df Γ fun v df' Γ' => ∃ Γ'', R v Γ'' ∧ df' = df ∧ Γ' = Γ'' ++ Γr := by
 intro w hst
 have e1 : first ++ cargs.map (ev ρ) ++ cap = args.toArray := by
   rw [← hargs]; apply Array.ext'; simp
 have he : (callFunc f args.toArray).run P w = .ok (.enter f args.toArray) w := spec.enters _ _
 simp only [execOp, resolve, Deferred.ofValue, hfo, Sem.run_bind, Sem.run_pure, Result.andThen_ok, invoke, e1, he]
 obtain ⟨g, hg, hd, hst1⟩ := (hst.perm (pick_perm hp)).split
 have hsh1 : Sh shf (g.or hF) := fun p hp => by
   have := hsh p hp
   rcases hd p.1 with e | e
   · simp [Heap.or, e, this]
   · rw [e] at this; cases this
 exact (spec.calls _ w hsh1 hst1).mono fun e w' ⟨v, Γ', he, hR, hst'⟩ => ⟨v, Γ' ++ Γr, he, ⟨Γ', hR, rfl, rfl⟩, hst'.join hg hd⟩
theorem zai (is : List Nat) {dst : Option Tmp} (spec : Fn P w0 shf f args Γp R) (hfo : ev ρ fo = .func (.func f) first cap) (hargs : first.toList ++ cargs.toList.map (ev ρ) ++ cap.toList = args)
   (hp : pick is Γ = some (Γp, Γr)) (hsh : ∀ p ∈ shf, p ∈ sh) (h : ∀ v Γ', R v Γ' → Reg P w0 n sh Q ops l k (ρ.setO dst v) df (Γ' ++ Γr)) :
   Reg P w0 n sh Q ops ((Fl.loud, i, ⟨dst, .call ⟨.value fo, cargs, ats⟩, ty, pos, aft, none⟩) :: l) k ρ df Γ :=
 reg_loud rfl _ (fun hF hs => opW_call hfo spec hargs hp (fun p hp => hs p (hsh p hp))) (fun v df' Γ' ⟨Γ'', hR, h2, h3⟩ => by subst h2; subst h3; exact h v Γ'' hR)
theorem zah (is : List Nat) {dst : Option Tmp} {Γ' Γ2 : List Asn} (spec : FnE P w0 shf f args Γp v Γ') (hfo : ev ρ fo = .func (.func f) first cap) (hargs : first.toList ++ cargs.toList.map (ev ρ) ++ cap.toList = args)
   (hp : pick is Γ = some (Γp, Γr)) (hsh : ∀ p ∈ shf, p ∈ sh) (happ : Γ' ++ Γr = Γ2) (h : Reg P w0 n sh Q ops l k (ρ.setO dst v) df Γ2) :
   Reg P w0 n sh Q ops ((Fl.loud, i, ⟨dst, .call ⟨.value fo, cargs, ats⟩, ty, pos, aft, none⟩) :: l) k ρ df Γ :=
 zai is spec hfo hargs hp hsh (fun v' Γ'' ⟨h1, h2⟩ => by subst h1; subst h2; rw [happ]; exact h)
end calls
end
end Go.Vc
namespace Go.Vc
section
variable {P : Program} {w0 : World} {n : Nat} {sh : Shared} {Q : Exit → Env → List Deferred → List Asn → Prop} {k : List Item} {ρ : Env} {df : List Deferred} {Γ : List Asn}
variable {ops : Array Oper} {l : List (Fl × Nat × Oper)}
theorem zap {L : List (Fl × Nat × Oper)} {p : Fl × Nat × Oper} (hl : L = p :: l) (h : Reg P w0 n sh Q ops (p :: l) k ρ df Γ) : Reg P w0 n sh Q ops L k ρ df Γ := hl ▸ h
section
variable {b : Fl} {i : Nat} {dst : Option Tmp} {ty : TypeId} {pos : String} {aft : Array Edge} {g : Option (Nat × Bool)} {t t2 f : Nat} {x y z : Operand} {c : Call} {bo : BinOp} {uo : UnOp} {op : Op} {j : Nat} {want : Bool}
end
variable {fn : Func} {R : Value → List Asn → Prop} {sh0 : Shared}
theorem end_tmp0 (hr : fn.results = #[]) (h : R (.tuple #[]) Γ) : Run P w0 n sh (retQ P w0 sh0 fn R) [] ρ [] Γ := run_nil (zek (ends_none hr h))
theorem zej {t : Tmp} (hr : fn.results = #[.tmp t]) (h : R (ρ t) Γ) : Run P w0 n sh (retQ P w0 sh0 fn R) (.code .ret :: k) ρ [] Γ :=
 zeg (zek (zem hr rfl h))
theorem zei {t u : Tmp} (hr : fn.results = #[.tmp t, .tmp u]) (h : R (.tuple #[ρ t, ρ u]) Γ) : Run P w0 n sh (retQ P w0 sh0 fn R) (.code .ret :: k) ρ [] Γ :=
 zeg (zek (zen hr rfl rfl h))
theorem ret_tmp3 {t u v : Tmp} (hr : fn.results = #[.tmp t, .tmp u, .tmp v]) (h : R (.tuple #[ρ t, ρ u, ρ v]) Γ) : Run P w0 n sh (retQ P w0 sh0 fn R) (.code .ret :: k) ρ [] Γ :=
 zeg (zek (ends_three hr rfl rfl rfl h))
theorem zdj : ∀ p ∈ ([] : Shared), p ∈ sh := by simp
theorem zes {k : IntKind} {a b : Int} (h : a = b) : Value.int k a = .int k b := h ▸ rfl
end
end Go.Vc
namespace Go.Vc
def SlA (T : TypeId) (sz : Nat) (a : Option Addr) (len cap : Nat) (cs : List Value) : Asn := fun h =>
 match a with
 | none => len = 0 ∧ cap = 0 ∧ cs = [] ∧ h = Heap.emp
 | some ad => ∃ b spare, ad = ⟨b, 0, none⟩ ∧ cs.length = len * sz ∧ len ≤ cap ∧ cap * sz ≤ cs.length + spare.length ∧ pt b (.cells (List.toArray (cs ++ spare)) T (0, 0)) h
class TZeroV (P : Program) (t : TypeId) (v : outParam Value) : Prop where
 zero_run : ∀ w, (zeroValue t).run P w = .ok v w
class TInfo (P : Program) (t : TypeId) (bytes : outParam Nat) : Prop where
 info_run : ∀ w, ∃ i : TypeInfo, (typeInfo t).run P w = .ok i w ∧ i.bytes = bytes
theorem growBy_le (m : Nat) : ∀ (r c : Nat), c ≤ m → Builtin.growBy m r c ≤ 2 * m + 192
 | 0, c, h => by simp only [Builtin.growBy]; omega
 | r + 1, c, h => by
   simp only [Builtin.growBy]
   split
   · omega
   · by_cases h2 : c + (c + 768) / 4 ≤ m
     · exact growBy_le m r _ h2
     · cases r with
       | zero => simp only [Builtin.growBy]; omega
       | succ r => simp only [Builtin.growBy]; rw [if_pos (by omega)]; omega
theorem nextslicecap_le {m c : Nat} (h : c < m) : Builtin.nextslicecap m c ≤ 2 * m + 192 := by
 unfold Builtin.nextslicecap
 split
 · omega
 · split
   · omega
   · exact growBy_le m 4 c (by omega)
section
variable {P : Program} {w : World}
theorem run_firstCells {b off n sz cap : Nat} {c : Array Value} {T : TypeId} {fr : Nat × Nat} (h : w.heap[b]? = some (.cells c T fr)) (hle : off + n * sz ≤ c.size) :
   (Builtin.firstCells sz n (.slice (some ⟨b, off, none⟩) n cap)).run P w = .ok (c.extract off (off + n * sz)) w := by
 have := run_loadCells (P := P) h off (n * sz) 0 #[] (by simpa using hle)
 simp only [Builtin.firstCells, loadCells, this]
 simp
theorem size_zeroCells (z : Array Value) (n : Nat) : (Builtin.zeroCells z n).size = n * z.size := by simp [Builtin.zeroCells]
end
section
variable {P : Program} {w0 : World} {n : Nat} {sh : Shared} {Q : Exit → Env → List Deferred → List Asn → Prop} {k : List Item} {ρ : Env} {df : List Deferred} {Γ : List Asn} {hF : Heap}
variable {ops : Array Oper} {l : List (Fl × Nat × Oper)} {b : Fl} {i d : Nat} {ty : TypeId} {pos : String} {aft : Array Edge}
variable {x y : Operand} {t T e : TypeId} {agg : Bool} {sz bytes : Nat} {cs new : List Value}
theorem SlA.none_iff {h : Heap} {len cap : Nat} : SlA T sz none len cap cs h ↔ len = 0 ∧ cap = 0 ∧ cs = [] ∧ h = Heap.emp := Iff.rfl
theorem SlA.some_iff {h : Heap} {len cap : Nat} {ad : Addr} : SlA T sz (some ad) len cap cs h ↔ ∃ b spare, ad = ⟨b, 0, none⟩ ∧ cs.length = len * sz ∧ len ≤ cap ∧ cap * sz ≤ cs.length + spare.length ∧ pt b (.cells (List.toArray (cs ++ spare)) T (0, 0)) h := Iff.rfl
theorem St.emp_head {A : Asn} {w : World} (hA : A Heap.emp) (h : St w0 hF Γ w) : St w0 hF (A :: Γ) w := by
 obtain ⟨g, hs, hd, ha⟩ := h
 exact ⟨g, ⟨Heap.emp, g, Disj.emp_left _, rfl, hA, hs⟩, hd, ha⟩
theorem St.head {A : Asn} {w : World} (h : St w0 hF (A :: Γ) w) : ∃ g, A g ∧ ∀ B : Asn, B g → St w0 hF (B :: Γ) w := by
 obtain ⟨g, ⟨g1, g2, hd2, rfl, hA, hs⟩, hd, ha⟩ := h
 exact ⟨g1, hA, fun B hB => ⟨_, ⟨g1, g2, hd2, rfl, hB, hs⟩, hd, ha⟩⟩
theorem St.exch {A B : Asn} {w : World} (h : St w0 hF (A :: Γ) w) (hAB : ∀ g, A g → B g) : St w0 hF (B :: Γ) w := by
 obtain ⟨g, ⟨g1, g2, hd2, rfl, hA, hs⟩, hd, ha⟩ := h
 exact ⟨_, ⟨g1, g2, hd2, rfl, hAB _ hA, hs⟩, hd, ha⟩
theorem putAt_some {α : Type _} : ∀ {j : Nat} {l : List α} {x : α} (y : α), getAt j l = some x → ∃ l', putAt j y l = some l'
 | _, [], _, _, h => by simp [getAt] at h
 | 0, _ :: _, _, _, _ => ⟨_, rfl⟩
 | j + 1, z :: l, x, y, h => by
   obtain ⟨l', h'⟩ := putAt_some (j := j) (l := l) y h
   exact ⟨z :: l', by simp [putAt, h']⟩
theorem St.at {w : World} {j : Nat} {A : Asn} (h : St w0 hF Γ w) (hj : getAt j Γ = some A) : ∃ r, St w0 hF (A :: r) w ∧ ∀ (B : Asn) (w' : World), St w0 hF (B :: r) w' → ∃ Γ', putAt j B Γ = some Γ' ∧ St w0 hF Γ' w' := by
 obtain ⟨Γ1, h1⟩ := putAt_some (j := j) A hj
 obtain ⟨r, hp1, _⟩ := putAt_perm hj h1
 refine ⟨r, h.perm hp1, fun B w' hB => ?_⟩
 obtain ⟨Γ', h2⟩ := putAt_some (j := j) B hj
 obtain ⟨r', hp2, hp3⟩ := putAt_perm hj h2
 exact ⟨Γ', h2, hB.perm (((List.Perm.cons_inv (hp1.symm.trans hp2)).cons B).trans hp3)⟩
theorem opW_append {dst : Option Tmp} {a : Option Addr} {len cap m cap2 b2 off2 : Nat} {T2 : TypeId} {fr : Nat × Nat} {c2 : List Value} {j : Nat} {ats : Array TypeId} {zv : Value}
   [hT : TUnd P t (.slice e)] [hS : TShape P e agg sz] [hZ : TZeroV P e zv] [hI : TInfo P e bytes] {t2 : TypeId} {e2 : TypeId} [hT2 : TUnd P t2 (.slice e2)]
   (hats : ats = #[t, t2]) (hx : ev ρ x = .slice a len cap) (hy : ev ρ y = .slice (some ⟨b2, off2, none⟩) m cap2) (hj : getAt j Γ = some (SlA e sz a len cap cs))
   (hblk : ∀ w, St w0 hF Γ w → w.heap[b2]? = some (.cells (List.toArray c2) T2 fr)) (hnew : (c2.drop off2).take (m * sz) = new) (hle2 : off2 + m * sz ≤ c2.length) (hone : allOne new = true)
   (hzs : zv.cells.size = sz) (hsmall : (2 * (len + m) + 192) * bytes ≤ 281474976710656) (hbig : len + m ≤ 9223372036854775807) :
   OpW P w0 hF ⟨dst, .call ⟨.builtin .append, #[x, y], ats⟩, ty, pos, aft, none⟩ ρ df Γ fun v df' Γ' => ∃ a' cap', v = .slice a' (len + m) cap' ∧ df' = df ∧ putAt j (SlA e sz a' (len + m) cap' (cs ++ new)) Γ = some Γ' := by
 subst hats
 intro w hst
 have hlen : new.length = m * sz := by rw [← hnew]; simp; omega
 obtain ⟨r, hst1, hback⟩ := hst.at hj
 have hb2 := hblk w hst
 obtain ⟨ti, hti, hbytes⟩ := hI.info_run w
 have hfirst : ∀ w, w.heap[b2]? = some (.cells (List.toArray c2) T2 fr) → (Builtin.firstCells sz m (.slice (some ⟨b2, off2, none⟩) m cap2)).run P w = .ok new.toArray w := fun w hw => by
   rw [run_firstCells hw (by simpa using hle2)]
   congr 1
   apply Array.ext'
   rw [← hnew]
   simp [List.take_drop]
 have hmax : ¬ ((len + m : Nat) : Int) > IntKind.i64.max := by rw [IntKind.max_i64]; omega
 simp only [execOp, resolve, invoke, builtin, Builtin.append_, Builtin.lenOf]
 simp only [List.map_toArray, List.map_cons, List.map_nil, hx, hy, Sem.run_bind, Sem.run_pure, Result.andThen_ok]
 simp only [List.getElem?_toArray, List.getElem?_cons_zero, List.getElem?_cons_succ, Sem.run_bind, Sem.run_pure, Result.andThen_ok, run_underlying hT.und, run_underlying hT2.und, hS.size_run, Bool.false_eq_true, if_false, Bool.not_false, if_true]
 by_cases hfit : len + m ≤ cap
 · simp only [hfit, if_true, Sem.run_bind, hfirst w hb2, Result.andThen_ok]
   cases a with
   | none =>
     obtain ⟨g, hA, hB⟩ := hst1.head
     obtain ⟨h1, h2, h3, h4⟩ := SlA.none_iff.1 hA
     subst h1; subst h2; subst h3
     have hm : m = 0 := by omega
     subst hm
     have hn : new = [] := by simpa using hlen
     subst hn
     obtain ⟨Γ', h5, h6⟩ := hback _ w (hB (SlA e sz none (0 + 0) 0 ([] ++ [])) (SlA.none_iff.2 ⟨rfl, rfl, rfl, h4⟩))
     simp only [Sem.run_pure, Result.andThen_ok]
     exact ⟨Γ', ⟨none, 0, rfl, rfl, h5⟩, h6⟩
   | some ad =>
     obtain ⟨g, hA, hB⟩ := hst1.head
     obtain ⟨bb, spare, h1, h2, h3, h4, h5⟩ := SlA.some_iff.1 hA
     subst h1
     have hst2 := hB _ h5
     have hwr : wr new (0 + len * sz) (cs ++ spare) = some (cs ++ new ++ spare.drop (m * sz)) := by
       have hfl : (len + m) * sz ≤ cap * sz := Nat.mul_le_mul_right _ hfit
       rw [Nat.add_mul] at hfl
       have key : ∀ (cs : List Value) (spare : List Value), new.length ≤ spare.length → wr new cs.length (cs ++ spare) = some (cs ++ new ++ spare.drop new.length) := by
         intro cs
         induction cs with
         | nil =>
           intro spare hs
           simp only [List.length_nil, wr, List.nil_append]
           clear hnew hone hlen hfirst
           induction new generalizing spare with
           | nil => simp [over]
           | cons v vs ih =>
             cases spare with
             | nil => simp at hs
             | cons u us =>
               simp only [over]
               rw [ih us (by simpa using hs)]
               simp
         | cons c cs ih =>
           intro spare hs
           simp only [List.length_cons, wr, List.cons_append]
           rw [ih spare hs]
       rw [Nat.zero_add, ← h2, ← hlen]
       exact key cs spare (by omega)
     obtain ⟨w', c', g1, g2, g3, g4, g5, g6, g7, g8⟩ := run_storeCells (P := P) (off := len * sz) new 0 _ w hst2.get.2 hone (by
       have hfl : (len + m) * sz ≤ cap * sz := Nat.mul_le_mul_right _ hfit
       rw [Nat.add_mul] at hfl
       simp <;> omega)
     have e1 : (Addr.add ⟨bb, 0, none⟩ (len * sz)) = ⟨bb, len * sz, none⟩ := by rw [Addr.add_lit]; simp
     simp only [e1, Sem.run_bind, g1, Result.andThen_ok, Sem.run_pure]
     have hc' : c' = (cs ++ new ++ spare.drop (m * sz)).toArray := by
       apply Array.ext'
       rw [g3]
       simp [← h2, ← hlen]
     rw [hc'] at g2
     have hst3 := hst2.upd g6 g7 g8 g4 g2 g5
     obtain ⟨Γ', h7, h8⟩ := hback (SlA e sz (some ⟨bb, 0, none⟩) (len + m) cap (cs ++ new)) w' (hst3.exch fun g hg => SlA.some_iff.2 ⟨bb, spare.drop (m * sz), rfl, by simp [h2, hlen, Nat.add_mul], hfit, by
       have hfl : (len + m) * sz ≤ cap * sz := Nat.mul_le_mul_right _ hfit
       rw [Nat.add_mul] at hfl
       simp; omega, hg⟩)
     exact ⟨Γ', ⟨_, cap, rfl, rfl, h7⟩, h8⟩
 · have hcap : ¬ Builtin.nextslicecap (len + m) cap * bytes > 2 ^ 48 := by
     have := nextslicecap_le (m := len + m) (c := cap) (by omega)
     have h2 := Nat.mul_le_mul_right bytes this
     omega
   simp only [hfit, if_false, Sem.run_bind, hti, Result.andThen_ok, hbytes, hmax, false_and, hcap]
   simp only [run_choose, Question.forced, Bool.false_eq_true, if_false, Result.andThen_ok, Question.cut, run_askRoom, hZ.zero_run]
   generalize hq : len + m + w.tape w.drawn (.appendCap (len + m) cap e) % (2 ^ 63 - (len + m)) = newCap
   have hge : len + m ≤ newCap := by omega
   have hold : ∀ w' : World, (∀ (bb : Nat) (o : Obj), w.heap[bb]? = some o → w'.heap[bb]? = some o) → ∃ old : Array Value, (Builtin.firstCells sz len (.slice a len cap)).run P w' = .ok old w' ∧ old.toList = cs := by
     intro w' hw'
     obtain ⟨g, hA, hB⟩ := hst1.head
     cases a with
     | none =>
       obtain ⟨h1, h2, h3, h4⟩ := SlA.none_iff.1 hA
       subst h3
       exact ⟨#[], by simp [Builtin.firstCells], rfl⟩
     | some ad =>
       obtain ⟨bb, spare, h1, h2, h3, h4, h5⟩ := SlA.some_iff.1 hA
       subst h1
       have hg := (hB _ h5).get.2
       refine ⟨_, run_firstCells (hw' _ _ hg) (by simp; omega), ?_⟩
       simp [← h2]
   obtain ⟨old, ho1, ho2⟩ := hold { w with drawn := w.drawn + 1 } (fun _ _ h => h)
   obtain ⟨ti2, hti2, _⟩ := hI.info_run { w with drawn := w.drawn + 1 }
   simp only [hti2, ho1, Result.andThen_ok, hfirst { w with drawn := w.drawn + 1 } hb2, newRow, run_newObj, Sem.run_bind, Sem.run_pure]
   have hst2 := ((hst1.drew (w.drawn + 1)).drop).alloc (.cells (old ++ new.toArray ++ Builtin.zeroCells zv.cells (newCap - (len + m))) e (0, 0))
   obtain ⟨Γ', h7, h8⟩ := hback (SlA e sz (some ⟨w.heap.size, 0, none⟩) (len + m) newCap (cs ++ new)) _ (hst2.exch fun g hg => SlA.some_iff.2 ⟨w.heap.size, (Builtin.zeroCells zv.cells (newCap - (len + m))).toList, rfl, by
     obtain ⟨g, hA, _⟩ := hst1.head
     cases a with
     | none =>
       obtain ⟨h1, h2, h3, h4⟩ := SlA.none_iff.1 hA
       subst h1; subst h3; simp [hlen]
     | some ad =>
       obtain ⟨bb, spare, h1, h2, h3, h4, h5⟩ := SlA.some_iff.1 hA
       simp [h2, hlen, Nat.add_mul], hge, by
     obtain ⟨g, hA, _⟩ := hst1.head
     have hcs : cs.length = len * sz := by
       cases a with
       | none =>
         obtain ⟨h1, h2, h3, h4⟩ := SlA.none_iff.1 hA
         subst h1; subst h3; simp
       | some ad => exact (SlA.some_iff.1 hA).choose_spec.choose_spec.2.1
     have e2 : newCap * sz = (len + m) * sz + (newCap - (len + m)) * sz := by rw [← Nat.add_mul]; congr 1; omega
     simp [hcs, hlen, size_zeroCells, hzs, e2, Nat.add_mul], by
     have : (cs ++ new ++ (Builtin.zeroCells zv.cells (newCap - (len + m))).toList).toArray = old ++ new.toArray ++ Builtin.zeroCells zv.cells (newCap - (len + m)) := by
       apply Array.ext'; simp [ho2]
     rw [this]; exact hg⟩)
   exact ⟨Γ', ⟨_, newCap, rfl, rfl, h7⟩, h8⟩
end
end Go.Vc
namespace Go.Vc
class TStruct (P : Program) (t : TypeId) (z : outParam (List Value)) (pl : outParam (List (Nat × Nat))) : Prop where
 str : ∃ fields, P.underlying t = some (.struct fields) ∧ ∀ w, (fields.toList.mapM (m := Sem) fun f => do pure (f.offset, ← sizeOf f.type)).run P w = .ok pl w
 zero : ∀ w, ∃ v : Value, (zeroValue t).run P w = .ok v w ∧ v.cells = z.toArray
def bld : List (Nat × Nat) → List Value → List (Nat × Value) → Option (List Value)
 | _, cs, [] => some cs
 | pl, cs, (i, v) :: rest => match pl[i]? with
   | some (off, sz) => if (cellsL v).length = sz then (match wr (cellsL v) off cs with | some cs' => bld pl cs' rest | none => none) else none
   | none => none
theorem foldl_set : ∀ (vs : List Value) (off : Nat) (cs : Array Value), off + vs.length ≤ cs.size →
   ((vs.zipIdx 0).foldl (fun (c : Array Value) (x : Value × Nat) => c.setIfInBounds (off + x.2) x.1) cs).toList = cs.toList.take off ++ vs ++ cs.toList.drop (off + vs.length) := by
 have key : ∀ (vs : List Value) (j off : Nat) (cs : Array Value), off + j + vs.length ≤ cs.size →
     ((vs.zipIdx j).foldl (fun (c : Array Value) (x : Value × Nat) => c.setIfInBounds (off + x.2) x.1) cs).toList = cs.toList.take (off + j) ++ vs ++ cs.toList.drop (off + j + vs.length) := by
   intro vs
   induction vs with
   | nil => intro j off cs _; simp
   | cons v vs ih =>
     intro j off cs h
     simp only [List.length_cons] at h
     simp only [List.zipIdx_cons, List.foldl_cons]
     rw [ih (j + 1) off _ (by simp; omega)]
     have e1 : (cs.setIfInBounds (off + j) v).toList = cs.toList.set (off + j) v := by simp
     have e3 : off + (j + 1) = off + j + 1 := by omega
     rw [e1, e3]
     exact take_set_drop cs.toList (off + j) v vs (by simp; omega)
 intro vs off cs h
 have := key vs 0 off cs (by simpa using h)
 simpa using this
theorem bld_fill {pl : List (Nat × Nat)} : ∀ (parts : List (Nat × Value)) (cs : List Value) (cs' : List Value), bld pl cs parts = some cs' → Instr.fill (fun i => pl[i]?) cs.toArray parts = some cs'.toArray
 | [], cs, cs', h => by simp [bld] at h; subst h; rfl
 | (i, v) :: rest, cs, cs', h => by
   simp only [bld] at h
   simp only [Instr.fill]
   split at h
   · rename_i off sz hp
     rw [hp]
     split at h
     · rename_i hsz
       split at h
       · rename_i cs2 hw
         obtain ⟨h1, h2⟩ := wr_eq _ _ _ _ hw
         have e1 : v.cells.size = sz := by rw [cellsL_eq]; simpa using hsz
         have e2 : ¬ (off + v.cells.size > cs.toArray.size) := by rw [cellsL_eq]; simp; omega
         simp only [e1, ne_eq, not_true_eq_false, decide_false, Bool.false_or]
         rw [if_neg (by rw [← e1]; simpa using e2)]
         have e3 : (v.cells.zipIdx.foldl (fun cs (c, j) => cs.setIfInBounds (off + j) c) cs.toArray) = cs2.toArray := by
           apply Array.ext'
           rw [cellsL_eq, h1]
           have := foldl_set (cellsL v) off cs.toArray (by simpa using h2)
           simpa [← Array.foldl_toList] using this
         rw [e3]
         exact bld_fill rest cs2 cs' h
       · cases h
     · cases h
   · cases h
section
variable {P : Program} {w0 : World} {n : Nat} {sh : Shared} {Q : Exit → Env → List Deferred → List Asn → Prop} {k : List Item} {ρ : Env} {df : List Deferred} {Γ : List Asn} {hF : Heap}
variable {ops : Array Oper} {l : List (Fl × Nat × Oper)} {b : Fl} {i d : Nat} {ty : TypeId} {pos : String} {aft : Array Edge}
variable {x y : Operand} {t T e : TypeId} {agg : Bool} {sz bytes : Nat} {cs new : List Value}
theorem zcb {z : List Value} {pl : List (Nat × Nat)} {ps : Array (Nat × Operand)} [hT : TStruct P t z pl] (hb : bld pl z (ps.toList.map fun p => (p.1, ev ρ p.2)) = some cs)
   (h : Reg P w0 n sh Q ops l k (ρ.set d (.agg (List.toArray cs))) df Γ) : Reg P w0 n sh Q ops ((b, i, ⟨some d, .build t ps, ty, pos, aft, none⟩) :: l) k ρ df Γ :=
 reg_quiet rfl (fun hF _ => quiet_of_run fun w => by
   obtain ⟨fields, hu, hm⟩ := hT.str
   obtain ⟨z', h1, h2⟩ := hT.zero w
   have e1 : (ps.map fun (i, x) => (i, ev ρ x)).toList = ps.toList.map fun p => (p.1, ev ρ p.2) := by simp
   have e2 := bld_fill _ _ _ hb
   simp only [execOp, Instr.build, Sem.run_bind, h1, h2, Result.andThen_ok, run_underlying hu, Array.mapM_eq_mapM_toList, Sem.run_map, hm, Sem.run_pure, e1]
   have e3 : (fun x : Nat => pl.toArray[x]?) = fun i : Nat => pl[i]? := by funext i; simp
   rw [e3, e2]
   rfl) h
def catL : List Value → List Value
 | [] => []
 | v :: r => cellsL v ++ catL r
def idxOk : Nat → List (Nat × Value) → Bool
 | _, [] => true
 | j, (i, _) :: r => Nat.beq i j && idxOk (j + 1) r
def lenOk (sz : Nat) : List Value → Bool
 | [] => true
 | v :: r => Nat.beq (cellsL v).length sz && lenOk sz r
theorem fill_slice {sz : Nat} : ∀ (ps : List (Nat × Value)) (j : Nat) (pre rest : List Value), idxOk j ps = true → lenOk sz (ps.map (·.2)) = true → pre.length = j * sz → rest.length = ps.length * sz →
   Instr.fill (fun i => some (i * sz, sz)) (pre ++ rest).toArray ps = some (pre ++ catL (ps.map (·.2))).toArray
 | [], j, pre, rest, _, _, _, hr => by
   simp only [List.length_nil, Nat.zero_mul, List.length_eq_zero_iff] at hr
   subst hr
   simp [Instr.fill, catL]
 | (i, v) :: ps, j, pre, rest, hi, hl, hp, hr => by
   simp only [idxOk, Bool.and_eq_true] at hi
   simp only [List.map_cons, lenOk, Bool.and_eq_true] at hl
   obtain rfl := Nat.eq_of_beq_eq_true hi.1
   have hv := Nat.eq_of_beq_eq_true hl.1
   simp only [Instr.fill]
   have e1 : v.cells.size = sz := by rw [cellsL_eq]; simpa using hv
   simp only [List.length_cons, Nat.add_mul] at hr
   simp only [e1, ne_eq, not_true_eq_false, decide_false, Bool.false_or]
   rw [if_neg (by simp; omega)]
   have e3 : (v.cells.zipIdx.foldl (fun cs (c, j) => cs.setIfInBounds (i * sz + j) c) (pre ++ rest).toArray) = ((pre ++ cellsL v) ++ rest.drop sz).toArray := by
     apply Array.ext'
     rw [cellsL_eq]
     have := foldl_set (cellsL v) (i * sz) (pre ++ rest).toArray (by simp; omega)
     rw [hv] at this
     have e4 : (pre ++ rest).take (i * sz) = pre := by rw [← hp]; simp
     have e5 : (pre ++ rest).drop (i * sz + sz) = rest.drop sz := by rw [← hp]; simp [List.drop_append]
     simp only [e4, e5] at this
     simpa [← Array.foldl_toList] using this
   rw [e3, fill_slice ps (i + 1) (pre ++ cellsL v) (rest.drop sz) hi.2 hl.2 (by simp [hp, hv, Nat.add_mul]) (by simp; omega)]
   simp [catL]
theorem zdt {len : Nat} {ps : Array (Nat × Operand)} {vs : List Value} {zv : Value} [hT : TUnd P t (.slice e)] [hS : TShape P e agg sz] [hZ : TZeroV P e zv]
   (hvs : ps.toList.map (fun p => ev ρ p.2) = vs) (hidx : idxOk 0 (ps.toList.map fun p => (p.1, ev ρ p.2)) = true) (hl : lenOk sz vs = true) (hlen : Nat.beq vs.length len = true) (hcs : catL vs = cs)
   (hsm : Nat.ble (len * sz) 16777216 = true)
   (h : ∀ nb, Reg P w0 n sh Q ops l k (ρ.set d (.slice (some ⟨nb, 0, none⟩) len len)) df (Γ ++ [pt nb (.cells (List.toArray cs) e (0, 0))])) :
   Reg P w0 n sh Q ops ((Fl.loud, i, ⟨some d, .buildSlice t len ps, ty, pos, aft, none⟩) :: l) k ρ df Γ :=
 reg_new (val := fun nb => .slice (some ⟨nb, 0, none⟩) len len) rfl (fun w => by
   have hlen' := Nat.eq_of_beq_eq_true hlen
   have hsm' := Nat.le_of_ble_eq_true hsm
   have e1 : (ps.map fun (i, x) => (i, ev ρ x)).toList = ps.toList.map fun p => (p.1, ev ρ p.2) := by simp
   have e0 : (ps.toList.map fun p => (p.1, ev ρ p.2)).map (·.2) = vs := by rw [← hvs]; simp
   have hps : (ps.toList.map fun p => (p.1, ev ρ p.2)).length = len := by rw [← hlen', ← hvs]; simp
   have hno : ¬ (len * sz > 2 ^ 24) := by simpa using hsm'
   have key : ∀ zz : Array Value, ((Array.range (len * sz)).map (zz[· % zz.size]!)).size = len * sz := fun zz => by simp
   have hfill : ∀ zz : Array Value, Instr.fill (fun i => some (i * sz, sz)) ((Array.range (len * sz)).map (zz[· % zz.size]!)) (ps.toList.map fun p => (p.1, ev ρ p.2)) = some cs.toArray := fun zz => by
     have := fill_slice (sz := sz) (ps.toList.map fun p => (p.1, ev ρ p.2)) 0 [] ((Array.range (len * sz)).map (zz[· % zz.size]!)).toList hidx (by rw [e0]; exact hl) (by simp) (by rw [hps]; simp)
     rw [e0, hcs] at this
     simp only [List.nil_append, Array.toArray_toList] at this
     exact this
   simp only [execOp, Instr.buildSlice, Sem.run_bind, run_underlying hT.und, Result.andThen_ok, hS.size_run, hno, if_false, e1]
   by_cases h0 : len * sz = 0
   · simp only [h0, if_true, Sem.run_bind, Sem.run_pure, Result.andThen_ok]
     have := hfill #[]
     rw [h0] at this
     rw [this]
     simp [newRow]
   · simp only [h0, if_false, Sem.run_bind, hZ.zero_run, Result.andThen_ok, Sem.run_pure]
     rw [hfill]
     simp [newRow]) h
theorem zdz (j j2 : Nat) {G : Option Addr → Nat → List Asn} {dst : Option Tmp} {a : Option Addr} {len cap m cap2 b2 off2 : Nat} {T2 : TypeId} {fr : Nat × Nat} {c2 : List Value} {zv : Value}
   {t2 : TypeId} {e2 : TypeId} [hT : TUnd P t (.slice e)] [hS : TShape P e agg sz] [hZ : TZeroV P e zv] [hI : TInfo P e bytes] [hT2 : TUnd P t2 (.slice e2)]
   (hx : ev ρ x = .slice a len cap) (hy : ev ρ y = .slice (some ⟨b2, off2, none⟩) m cap2) (hj : getAt j Γ = some (SlA e sz a len cap cs))
   (hj2 : getAt j2 Γ = some (pt b2 (.cells (List.toArray c2) T2 fr))) (hnew : takeL (m * sz) (dropL off2 c2) = some new) (hoff : Nat.ble off2 c2.length = true) (hone : allOne new = true)
   (hzs : zv.cells.size = sz) (hsmall : (2 * (len + m) + 192) * bytes ≤ 281474976710656 ∧ len + m ≤ 9223372036854775807)
   (hput : ∀ a' cap', putAt j (SlA e sz a' (len + m) cap' (cs ++ new)) Γ = some (G a' cap'))
   (h : ∀ a' cap', Reg P w0 n sh Q ops l k (ρ.setO dst (.slice a' (len + m) cap')) df (G a' cap')) :
   Reg P w0 n sh Q ops ((Fl.loud, i, ⟨dst, .call ⟨.builtin .append, #[x, y], #[t, t2]⟩, ty, pos, aft, none⟩) :: l) k ρ df Γ := by
 obtain ⟨h1, h2⟩ := takeL_eq _ _ _ hnew
 rw [dropL_eq] at h1 h2
 refine reg_loud rfl _ (fun hF _ => opW_append (T2 := T2) (fr := fr) (hT := hT) (hS := hS) (hZ := hZ) (hI := hI) (hT2 := hT2) (new := new) rfl hx hy hj (fun w hst => ?_) h1.symm ?_ hone hzs hsmall.1 hsmall.2) ?_
 · obtain ⟨r, hp⟩ := getAt_perm hj2
   exact (hst.perm hp).get.2
 · have := Nat.le_of_ble_eq_true hoff
   simp at h2; omega
 · rintro v df' Γ' ⟨a', cap', h3, h4, h5⟩
   subst h3; subst h4
   rw [hput] at h5
   cases h5
   exact h a' cap'
end
end Go.Vc
namespace Go.Vc
def ents : Nat → List (Int × Value) → List MapEntry
 | _, [] => []
 | i, (a, v) :: r => { key := .int .i64 a, val := v, born := i } :: ents (i + 1) r
def mapI (l : List (Int × Value)) : Obj := .map (ents 0 l).toArray l.length
def look : List (Int × Value) → Int → Option Value
 | [], _ => none
 | (a, v) :: r, x => if a = x then some v else look r x
def ins : List (Int × Value) → Int → Value → List (Int × Value)
 | [], x, u => [(x, u)]
 | (a, v) :: r, x, u => if a = x then (a, u) :: r else (a, v) :: ins r x u
section
variable {P : Program} {w0 : World} {n : Nat} {sh : Shared} {Q : Exit → Env → List Deferred → List Asn → Prop} {k : List Item} {ρ : Env} {df : List Deferred} {Γ : List Asn} {hF : Heap}
variable {ops : Array Oper} {l : List (Fl × Nat × Oper)} {b : Fl} {i d : Nat} {ty : TypeId} {pos : String} {aft : Array Edge}
variable {x y z : Operand} {t T e kt et : TypeId} {kd : IntKind} {r : Nat} {a : Int} {ml : List (Int × Value)} {zv : Value}
theorem zcc (h : ∀ nb, Reg P w0 n sh Q ops l k (ρ.set d (.map (some nb))) df (Γ ++ [pt nb (mapI [])])) :
   Reg P w0 n sh Q ops ((Fl.loud, i, ⟨some d, .makeMap t none, ty, pos, aft, none⟩) :: l) k ρ df Γ :=
 reg_make (val := fun nb => .map (some nb)) (obj := mapI []) rfl (fun w => by
   simp only [execOp, Option.map_none, Instr.makeMap, Sem.run_bind, run_newObj, Sem.run_pure, Result.andThen_ok]
   rfl) h
end
end Go.Vc
namespace Go.Vc
def mkE : List (Nat × Value) → Env → Env
 | [], j => j
 | (d, v) :: l, j => (mkE l j).set d v
def AllAt (ρ : Env) : List (Nat × Value) → Prop
 | [] => True
 | (d, v) :: l => ρ d = v ∧ AllAt ρ l
theorem mkE_self {ρ : Env} : ∀ {l : List (Nat × Value)}, AllAt ρ l → mkE l ρ = ρ
 | [], _ => rfl
 | (d, v) :: l, ⟨h1, h2⟩ => by simp only [mkE]; rw [mkE_self h2]; exact set_same h1
section
variable {P : Program} {w0 : World} {n : Nat} {sh : Shared} {Q : Exit → Env → List Deferred → List Asn → Prop} {k : List Item} {ρ : Env} {df : List Deferred} {Γ : List Asn}
theorem Run.mono {Q' : Exit → Env → List Deferred → List Asn → Prop} (h : Run P w0 n sh Q k ρ df Γ) (hq : ∀ e ρ df Γ, Q e ρ df Γ → Q' e ρ df Γ) : Run P w0 n sh Q' k ρ df Γ :=
 ⟨fun hF hsh a w ha hn hd hst => (h.go hF hsh a w ha hn hd hst).mono fun _ _ _ ⟨h1, Γ', h2, h3⟩ => ⟨h1, Γ', hq _ _ _ _ h2, h3⟩⟩
def cutE (P : Program) (w0 : World) (n : Nat) (sh : Shared) (Q : Exit → Env → List Deferred → List Asn → Prop) (k : List Item) (J : Env → List Deferred → List Asn → Prop) : Exit → Env → List Deferred → List Asn → Prop
 | .normal, ρ, df, Γ => J ρ df Γ
 | .exit id, ρ, df, Γ => (∃ k1, exitTo id k = some k1 ∧ Run P w0 n sh Q k1 ρ df Γ) ∨ (exitTo id k = none ∧ Q (.exit id) ρ df Γ)
 | .ret, ρ, df, Γ => Q .ret ρ df Γ
 | _, _, _, _ => False
theorem run_cut {c : Code} (J : Env → List Deferred → List Asn → Prop) (h : Run P w0 n sh (cutE P w0 n sh Q k J) [.code c] ρ df Γ) (hk : ∀ ρ df Γ, J ρ df Γ → Run P w0 n sh Q k ρ df Γ) :
   Run P w0 n sh Q (.code c :: k) ρ df Γ := by
 refine ⟨fun hF hsh a w ha hn hd hst => wpk_of_wpk ((h.go hF hsh a w ha hn hd hst).mono ?_)⟩
 rintro e a' w' ⟨h1, Γ', h2, h3⟩
 cases e with
 | normal => exact (hk _ _ _ h2).go hF hsh a' w' rfl h1 rfl h3
 | exit id =>
   rcases h2 with ⟨k1, h4, h5⟩ | ⟨h4, h5⟩
   · exact .inl ⟨k1, h4, h5.go hF hsh a' w' rfl h1 rfl h3⟩
   · exact .inr ⟨h4, h1, Γ', h5, h3⟩
 | ret => exact ⟨h1, Γ', h2, h3⟩
 | _ => exact h2.elim
theorem zer {id : Nat} {k1 : List Item} {J : Env → List Deferred → List Asn → Prop} {sh' : Shared} {k' : List Item} (hk' : exitTo id k' = none) (hk : exitTo id k = some k1) (h : Run P w0 n sh Q k1 ρ df Γ) :
   Run P w0 n sh' (cutE P w0 n sh Q k J) (.code (.exit id) :: k') ρ df Γ := run_exit_out hk' (.inl ⟨k1, hk, h⟩)
theorem cut_ret {J : Env → List Deferred → List Asn → Prop} {sh' : Shared} {k' : List Item} (h : Q .ret ρ df Γ) :
   Run P w0 n sh' (cutE P w0 n sh Q k J) (.code .ret :: k') ρ df Γ := zeg h
theorem zeq {J : Env → List Deferred → List Asn → Prop} {sh' : Shared} (h : J ρ df Γ) : Run P w0 n sh' (cutE P w0 n sh Q k J) [] ρ df Γ := run_nil h
theorem run_loop {c : Code} {S : Type} (slots : S → List (Nat × Value)) (I : S → List Asn → Prop) (μ : S → Nat) (s0 : S) (h0 : AllAt ρ (slots s0)) (hI : I s0 Γ)
   (round : ∀ s Γ junk, I s Γ → Run P w0 n sh (cutE P w0 n sh Q (.inLoop c :: k) fun ρ' df' Γ' => df' = df ∧ ∃ s', AllAt ρ' (slots s') ∧ I s' Γ' ∧ μ s' < μ s) [.code c] (mkE (slots s) junk) df Γ) :
   Run P w0 n sh Q (.code (.loop c) :: k) ρ df Γ := by
 have key : ∀ m s Γ ρ, μ s = m → AllAt ρ (slots s) → I s Γ → Run P w0 n sh Q (.code c :: .inLoop c :: k) ρ df Γ := by
   intro m
   induction m using Nat.strongRecOn with
   | _ m ih =>
     intro s Γ ρ hm hA hI
     have h1 := round s Γ ρ hI
     rw [mkE_self hA] at h1
     refine run_cut _ h1 fun ρ' df' Γ' ⟨h2, s', h3, h4, h5⟩ => ?_
     subst h2
     exact zco (ih (μ s') (hm ▸ h5) s' Γ' ρ' rfl h3 h4)
 exact zet (key _ s0 Γ ρ rfl h0 hI)
end
theorem part_lemma {P : Program} {s : TypeId} {f : Nat} {fields : Array Field} {fld : Field} {agg : Bool} {m ft off : Nat} [hT : TShape P ft agg m] (hu : P.underlying s = some (.struct fields)) (hf : fields[f]? = some fld) (h1 : fld.type = ft) (h2 : fld.offset = off) :
   TPart P s f agg off m := ⟨fun cs v w hr => by
 subst h1; subst h2
 simp only [Instr.field, Sem.run_bind, run_underlying hu, Result.andThen_ok, hf, asAgg, Sem.run_pure, part, hT.agg_run]
 cases agg with
 | true =>
   simp only [rd] at hr
   split at hr
   · rename_i l hl
     obtain ⟨h1, h2⟩ := takeL_eq _ _ _ hl
     rw [dropL_eq] at h1 h2
     simp only [Option.some.injEq] at hr
     subst hr
     simp only [if_true, Sem.run_bind, hT.size_run, Result.andThen_ok, Sem.run_pure]
     congr 2
     subst h1
     apply Array.ext'
     simp [List.take_drop]
   · cases hr
 | false =>
   simp only [rd, nth_eq] at hr
   have : cs[fld.offset]? = some v := by simpa using hr
   simp [this]⟩
end Go.Vc
namespace Go.Vc
section
variable {P : Program} {w0 : World} {n : Nat} {sh : Shared} {Q : Exit → Env → List Deferred → List Asn → Prop} {k : List Item} {ρ : Env} {df : List Deferred} {Γ : List Asn} {hF : Heap}
variable {ops : Array Oper} {l : List (Fl × Nat × Oper)} {b : Fl} {i d : Nat} {ty : TypeId} {pos : String} {aft : Array Edge}
variable {x y : Operand} {t T e : TypeId} {agg : Bool} {m sz len cap bb off : Nat} {cs : List Value} {a : Option Addr} {v : Value}
theorem dropL_append (off : Nat) (cs sp : List Value) (h : off ≤ cs.length) : dropL off (cs ++ sp) = dropL off cs ++ sp := by
 rw [dropL_eq, dropL_eq, List.drop_append_of_le_length h]
theorem rd_append {sp : List Value} (hr : rd agg m cs off = some v) (hm : agg = true → 0 < m) : rd agg m (cs ++ sp) off = some v := by
 cases agg with
 | false =>
   simp only [rd, nth_eq] at hr ⊢
   rw [List.getElem?_append_left (List.getElem?_eq_some_iff.1 hr).1]; exact hr
 | true =>
   simp only [rd] at hr ⊢
   split at hr
   · rename_i l hl
     obtain ⟨h1, h2⟩ := takeL_eq _ _ _ hl
     rw [dropL_eq] at h1 h2
     have hpos := hm rfl
     have hle : off ≤ cs.length := by simp at h2; omega
     have key : ∀ (i : Nat) (l1 l2 l' : List Value), takeL i l1 = some l' → takeL i (l1 ++ l2) = some l' := by
       intro i
       induction i with
       | zero => intro l1 l2 l' h; simpa [takeL] using h
       | succ i ih =>
         intro l1 l2 l' h
         cases l1 with
         | nil => simp [takeL] at h
         | cons u l1 =>
           simp only [takeL, List.cons_append] at h ⊢
           split at h
           · rename_i l3 hl3; rw [ih l1 l2 l3 hl3]; exact h
           · cases h
     rw [dropL_append off cs sp hle, key _ _ sp _ hl]; exact hr
   · cases hr
theorem zag (j : Nat) [hT : TShape P t agg m] (hx : ev ρ x = .pointer (some ⟨bb, off, none⟩)) (hj : getAt j Γ = some (SlA T sz (some ⟨bb, 0, none⟩) len cap cs)) (hr : rd agg m cs off = some v) (hm : agg = true → 0 < m)
   (h : Reg P w0 n sh Q ops l k (ρ.set d v) df Γ) (hb : notQuiet b = true := by rfl) : Reg P w0 n sh Q ops ((b, i, ⟨some d, .load t x, ty, pos, aft, none⟩) :: l) k ρ df Γ := by
 refine reg_read rfl hb (fun hF _ w hst => ?_) h
 obtain ⟨r, hp⟩ := getAt_perm hj
 obtain ⟨g, hA, hB⟩ := (hst.perm hp).head
 obtain ⟨b', spare, h1, h2, h3, h4, h5⟩ := SlA.some_iff.1 hA
 have hb : bb = b' := by injection h1
 subst hb
 exact ⟨w, load_of hT hx (hB _ h5).get.2 (by simpa using rd_append (sp := spare) hr hm), hst⟩
theorem wr_append {vs cs sp l' : List Value} (h : wr vs off cs = some l') : wr vs off (cs ++ sp) = some (l' ++ sp) := by
 have hov : ∀ (vs l l' : List Value), over vs l = some l' → over vs (l ++ sp) = some (l' ++ sp) := by
   intro vs
   induction vs with
   | nil => intro l l' h; simp only [over] at h ⊢; cases h; rfl
   | cons v vs ih =>
     intro l l' h
     cases l with
     | nil => simp [over] at h
     | cons u l =>
       simp only [over, List.cons_append] at h ⊢
       split at h
       · rename_i l2 hl; rw [ih l l2 hl]; cases h; rfl
       · cases h
 induction off generalizing cs l' with
 | zero => simp only [wr] at h ⊢; exact hov _ _ _ h
 | succ o ih =>
   cases cs with
   | nil => simp [wr] at h
   | cons u cs =>
     simp only [wr, List.cons_append] at h ⊢
     split at h
     · rename_i l2 hl; rw [ih hl]; cases h; rfl
     · cases h
theorem zaf (j : Nat) {Γ' : List Asn} {dst : Option Tmp} {vs l' : List Value} [hT : TShape P t agg m] (hx : ev ρ x = .pointer (some ⟨bb, off, none⟩)) (hj : getAt j Γ = some (SlA T sz (some ⟨bb, 0, none⟩) len cap cs))
   (hv : cellsL (ev ρ y) = vs) (hlen : vs.length = m) (hone : allOne vs = true) (hw : wr vs off cs = some l') (hput : putAt j (SlA T sz (some ⟨bb, 0, none⟩) len cap l') Γ = some Γ')
   (h : Reg P w0 n sh Q ops l k (ρ.setO dst undef) df Γ') : Reg P w0 n sh Q ops ((Fl.loud, i, ⟨dst, .store t x y, ty, pos, aft, none⟩) :: l) k ρ df Γ := by
 refine reg_loud rfl (fun v' df' Γ'' => v' = undef ∧ df' = df ∧ Γ'' = Γ') (fun hF _ w hst => ?_) (fun v' df' Γ'' ⟨h1, h2, h3⟩ => by subst h1; subst h2; subst h3; exact h)
 obtain ⟨r, hst1, hback⟩ := hst.at hj
 obtain ⟨g, hA, hB⟩ := hst1.head
 obtain ⟨b', spare, h1, h2, h3, h4, h5⟩ := SlA.some_iff.1 hA
 have hb : bb = b' := by injection h1
 subst hb
 have hst2 := hB _ h5
 obtain ⟨w', g1, g2, g3, g4, g5, g6, g7⟩ := run_storeVar (P := P) (off := off) (v := ev ρ y) (t := t) hst2.get.2 hv hlen hone (by simpa using wr_append (sp := spare) hw)
 simp only [execOp, hx, Instr.storeAt, Instr.sureAddr, Sem.run_bind, Sem.run_pure, Result.andThen_ok, g1]
 have hl' : l'.length = cs.length := by
   obtain ⟨e1, e2⟩ := wr_eq _ _ _ _ hw
   rw [e1]; simp; omega
 obtain ⟨Γ'', h7, h8⟩ := hback (SlA T sz (some ⟨bb, 0, none⟩) len cap l') w' ((hst2.upd g5 g6 g7 g3 g2 g4).exch fun g hg => SlA.some_iff.2 ⟨bb, spare, rfl, by rw [hl']; exact h2, h3, by rw [hl']; exact h4, hg⟩)
 rw [hput] at h7
 cases h7
 exact ⟨Γ', ⟨rfl, rfl, rfl⟩, h8⟩
theorem run_sl_cases (j : Nat) (hj : getAt j Γ = some (SlA T sz a len cap cs)) (h0 : a = none → len = 0 → cap = 0 → cs = [] → Run P w0 n sh Q k ρ df Γ)
   (h1 : ∀ nb, a = some ⟨nb, 0, none⟩ → cs.length = len * sz → len ≤ cap → Run P w0 n sh Q k ρ df Γ) : Run P w0 n sh Q k ρ df Γ := by
 refine ⟨fun hF hsh a' w ha hn hd hst => ?_⟩
 obtain ⟨r, hp⟩ := getAt_perm hj
 obtain ⟨g, hA, _⟩ := (hst.perm hp).head
 cases a with
 | none =>
   obtain ⟨e1, e2, e3, _⟩ := SlA.none_iff.1 hA
   exact (h0 rfl e1 e2 e3).go hF hsh a' w ha hn hd hst
 | some ad =>
   obtain ⟨b', spare, e1, e2, e3, _⟩ := SlA.some_iff.1 hA
   exact (h1 b' (by rw [e1]) e2 e3).go hF hsh a' w ha hn hd hst
theorem SlA_len {h : Heap} (hA : SlA T sz a len cap cs h) : cs.length = len * sz ∧ len ≤ cap := by
 cases a with
 | none => obtain ⟨e1, e2, e3, _⟩ := SlA.none_iff.1 hA; subst e1; subst e3; simp
 | some ad => obtain ⟨b', spare, e1, e2, e3, _⟩ := SlA.some_iff.1 hA; exact ⟨e2, e3⟩
theorem reg_slice3 {hi mx : Operand} {h' m' : Int} [hT : TUnd P t (.slice e)] [hS : TShape P e agg sz] (hx : ev ρ x = .slice a len cap) (hh : ev ρ hi = .int .i64 h') (hm : ev ρ mx = .int .i64 m') (hb : 0 ≤ h' ∧ h' ≤ m' ∧ m' ≤ cap)
   (h : Reg P w0 n sh Q ops l k (ρ.set d (.slice a h'.toNat m'.toNat)) df Γ) : Reg P w0 n sh Q ops ((b, i, ⟨some d, .slice t x none (some hi) (some mx), ty, pos, aft, none⟩) :: l) k ρ df Γ :=
 reg_quiet rfl (fun hF _ => quiet_of_run fun w => by
   obtain ⟨h0, h1, h2⟩ := hb
   have h3 : 0 ≤ m' := by omega
   have e1 : (h' : Int) ≤ ((m'.toNat : Nat) : Int) := by omega
   simp only [execOp, hx, Option.map_some, Option.map_none, hh, hm, Instr.sliceAt, Instr.slice, Sem.run_bind, run_underlying hT.und, Result.andThen_ok, Instr.sliceBounds, Instr.sliceBound, asIntOf, Sem.run_pure]
   simp only [h0, h3, h2, e1, and_self, if_true, Sem.run_pure, Result.andThen_ok, hS.size_run]
   by_cases hz : m'.toNat = 0
   · simp [hz]
   · simp [hz]
     cases a with
     | none => rfl
     | some ad => simp [Addr.add_zero']) h
theorem SlA_nil : SlA T sz none 0 0 [] Heap.emp := SlA.none_iff.2 ⟨rfl, rfl, rfl, rfl⟩
theorem run_nilslice (T : TypeId) (sz : Nat) (h : Run P w0 n sh Q k ρ df (Γ ++ [SlA T sz none 0 0 []])) : Run P w0 n sh Q k ρ df Γ :=
 ⟨fun hF hsh a' w ha hn hd hst => h.go hF hsh a' w ha hn hd ((hst.emp_head SlA_nil).perm (List.perm_append_comm (l₁ := [_])))⟩
theorem St.left {Γ' : List Asn} {w : World} (h : St w0 hF (Γ ++ Γ') w) : St w0 hF Γ w := by
 have h1 := h.perm List.perm_append_comm
 clear h
 induction Γ' with
 | nil => exact h1
 | cons A r ih => exact ih h1.drop
theorem zec (is : List Nat) {Γp Γr : List Asn} (hp : pick is Γ = some (Γp, Γr)) (h : Run P w0 n sh Q k ρ df Γp) : Run P w0 n sh Q k ρ df Γ :=
 ⟨fun hF hsh a' w ha hn hd hst => h.go hF hsh a' w ha hn hd (hst.perm (pick_perm hp)).left⟩
variable {fn : Func} {R : Value → List Asn → Prop} {sh0 : Shared} {Q' : Exit → Env → List Deferred → List Asn → Prop}
theorem qret0 (hq : ∀ ρ Γ, LeavesS P w0 sh0 fn ρ [] Γ R → Q' .ret ρ [] Γ) (hr : fn.results = #[]) (h : R (.tuple #[]) Γ) : Run P w0 n sh Q' (.code .ret :: k) ρ [] Γ :=
 zeg (hq _ _ (zek (ends_none hr h)))
theorem qret1 {t : Tmp} (hq : ∀ ρ Γ, LeavesS P w0 sh0 fn ρ [] Γ R → Q' .ret ρ [] Γ) (hr : fn.results = #[.tmp t]) (h : R (ρ t) Γ) : Run P w0 n sh Q' (.code .ret :: k) ρ [] Γ :=
 zeg (hq _ _ (zek (zem hr rfl h)))
def loud : List (Fl × Nat × Oper) → Bool
 | [] => true
 | (.loud, _, _) :: l => loud l
 | _ => false
theorem Stars.exchAt {A B : Asn} (hAB : ∀ g, A g → B g) : ∀ {j : Nat} {Γ Γ' : List Asn} {h : Heap}, getAt j Γ = some A → putAt j B Γ = some Γ' → Stars Γ h → Stars Γ' h
 | _, [], _, _, hj, _, _ => by simp [getAt] at hj
 | 0, C :: Γ, Γ', h, hj, hp, hs => by
   simp only [getAt, Option.some.injEq] at hj; subst hj
   simp only [putAt, Option.some.injEq] at hp; subst hp
   obtain ⟨g1, g2, hd, e, h1, h2⟩ := hs
   exact ⟨g1, g2, hd, e, hAB _ h1, h2⟩
 | j + 1, C :: Γ, Γ', h, hj, hp, hs => by
   simp only [getAt] at hj
   simp only [putAt] at hp
   cases hq : putAt j B Γ with
   | none => rw [hq] at hp; cases hp
   | some Γ2 =>
     rw [hq] at hp; cases hp
     obtain ⟨g1, g2, hd, e, h1, h2⟩ := hs
     exact ⟨g1, g2, hd, e, h1, Stars.exchAt hAB hj hq h2⟩
theorem zef (j : Nat) {A : Asn} (B : Asn) {Γ' : List Asn} (hj : getAt j Γ = some A) (hAB : ∀ g, A g → B g) (hput : putAt j B Γ = some Γ') (h : Run P w0 n sh Q k ρ df Γ') : Run P w0 n sh Q k ρ df Γ :=
 ⟨fun hF hsh a w ha hn hd ⟨g, hs, hd2, hsat⟩ => h.go hF hsh a w ha hn hd ⟨g, Stars.exchAt hAB hj hput hs, hd2, hsat⟩⟩
end
end Go.Vc
namespace Go.Vc
section
variable {P : Program} {w0 : World} {n : Nat} {sh : Shared} {Q : Exit → Env → List Deferred → List Asn → Prop} {k : List Item} {ρ : Env} {df : List Deferred} {Γ : List Asn} {hF : Heap}
def quietOp : Op → Bool
 | .call c => match c with | ⟨.builtin .len, _, _⟩ | ⟨.builtin .max, _, _⟩ | ⟨.builtin .min, _, _⟩ => true | _ => false
 | .store _ _ _ | .mapUpdate _ _ _ _ | .alloc _ | .box _ _ | .lookup _ _ _ _ | .buildSlice _ _ _ | .makeMap _ _ | .makeSlice _ _ _ | .range _ _ | .next _ _ | .entry _ => false
 | _ => true
def autoFl : List Oper → List Fl
 | [] => []
 | o :: l => cond (quietOp o.op) .quiet .loud :: autoFl l
theorem zcq {id : Nat} {l : List Oper} (hm : P.follows .mixedOrders = true) (hdst : dstOk n l.toArray = true) (hok : okDraw l.toArray (mkl (autoFl l) 0 l) = true)
   (h : Reg P w0 n sh Q l.toArray (mkl (autoFl l) 0 l) k ρ df Γ) : Run P w0 n sh Q (.code (.region id l.toArray true) :: k) ρ df Γ := run_draw (autoFl l) hm hdst hok h
def autoFlR : List Oper → List Fl
 | [] => []
 | o :: l => (match o.op with | .load _ _ => .read | op => cond (quietOp op) .quiet .loud) :: autoFlR l
theorem zeh {id : Nat} {l : List Oper} (hm : P.follows .mixedOrders = true) (hdst : dstOk n l.toArray = true) (hok : okDraw l.toArray (mkl (autoFlR l) 0 l) = true)
   (h : Reg P w0 n sh Q l.toArray (mkl (autoFlR l) 0 l) k ρ df Γ) : Run P w0 n sh Q (.code (.region id l.toArray true) :: k) ρ df Γ := run_draw (autoFlR l) hm hdst hok h
theorem run_bind_eq {c : Code} {l' : List (Nat × Value)} {Γ' : List Asn}
   (h : Run P w0 n sh (cutE P w0 n sh Q k fun ρ' df' Γ2 => df' = df ∧ AllAt ρ' l' ∧ Γ2 = Γ') [.code c] ρ df Γ)
   (hk : ∀ junk, Run P w0 n sh Q k (mkE l' junk) df Γ') : Run P w0 n sh Q (.code c :: k) ρ df Γ :=
 run_cut _ h fun ρ' df' Γ2 ⟨h1, h2, h3⟩ => by
   subst h1; subst h3
   have := hk ρ'
   rwa [mkE_self h2] at this
end
end Go.Vc
namespace Go.Vc
section
variable {P : Program} {w0 : World} {n : Nat} {sh : Shared} {Q : Exit → Env → List Deferred → List Asn → Prop} {k : List Item} {ρ : Env} {df : List Deferred} {Γ : List Asn} {hF : Heap}
variable {ops : Array Oper} {l : List (Fl × Nat × Oper)}
end
end Go.Vc
namespace Go.Vc
section
variable {P : Program} {w0 : World} {n : Nat} {sh : Shared} {Q : Exit → Env → List Deferred → List Asn → Prop} {k : List Item} {ρ : Env} {df : List Deferred} {Γ : List Asn} {hF : Heap}
variable {fn : Func} {R : Value → List Asn → Prop}
theorem zeo (j : Nat) {x : Tmp} {t T : TypeId} {agg : Bool} {m bb off : Nat} {cs : List Value} {fr : Nat × Nat} {v : Value} [hT : TShape P t agg m] (hx : ρ x = .pointer (some ⟨bb, off, none⟩))
   (hj : getAt j Γ = some (pt bb (.cells (List.toArray cs) T fr))) (hr : rd agg m cs off = some v) : ResOk P w0 sh ρ Γ (.cell x t) v :=
 ⟨⟨bb, off, none⟩, hx, fun hF w _ hst => by
   obtain ⟨r, hp⟩ := getAt_perm hj
   exact run_loadVar (hst.perm hp).get.2 hr⟩
theorem zel (is : List Nat) {Γp Γr : List Asn} (hp : pick is Γ = some (Γp, Γr)) (h : Ends P w0 sh fn ρ Γ fun v Γ' => Γ' = Γ ∧ R v Γp) : Ends P w0 sh fn ρ Γ R := fun hF a w hsh ha hst => by
 obtain ⟨v, Γ', h1, ⟨h2, h3⟩, h4⟩ := h hF a w hsh ha hst
 exact ⟨v, Γp, h1, h3, (hst.perm (pick_perm hp)).left⟩
end
end Go.Vc
namespace Go.Vc
section
variable {P : Program} {w0 : World} {n : Nat} {sh : Shared} {Q : Exit → Env → List Deferred → List Asn → Prop} {k : List Item} {ρ : Env} {df : List Deferred} {Γ : List Asn} {hF : Heap}
theorem run_share_keep (is : List Nat) {b : Nat} {o : Obj} {Γr : List Asn} (hp : pick is Γ = some ([pt b o], Γr))
   (h : Run P w0 n ((b, o) :: sh) (fun e ρ df Γ' => Q e ρ df (Γ' ++ [pt b o])) k ρ df Γr) : Run P w0 n sh Q k ρ df Γ := by
 refine ⟨?_⟩
 intro hF hsh a w ha hn hd hst
 have h1 : St w0 hF (Γr ++ [pt b o]) w := (hst.perm (pick_perm hp)).perm List.perm_append_comm
 obtain ⟨g, hg, hdj, hst2⟩ := h1.split
 have hg1 : pt b o g := Stars.one.1 hg
 have hg0 := hg
 simp only [pt] at hg1
 subst hg1
 have hsub : ∀ c oc, hF c = some oc → ((Heap.one b o).or hF) c = some oc := fun c oc hc => by
   rcases hdj c with e | e
   · simp [Heap.or, e, hc]
   · rw [e] at hc; cases hc
 refine (h.go _ (fun p hp => ?_) a w ha hn hd hst2).mono ?_
 · rcases List.mem_cons.1 hp with rfl | hp
   · simp [Heap.or, Heap.one]
   · exact hsub _ _ (hsh p hp)
 · rintro e a' w' ⟨h3, Γ', h4, h5⟩
   exact ⟨h3, _, h4, h5.join hg0 hdj⟩
variable {ops : Array Oper} {l : List (Fl × Nat × Oper)} {b : Fl} {i d : Nat} {ty : TypeId} {pos : String} {aft : Array Edge}
theorem zal {op : Op} {dst : Option Tmp} {j : Nat} {want : Bool} (hy : yieldedE ops ρ j = none)
   (h : Reg P w0 n sh Q ops l k (ρ.setO dst undef) df Γ) : Reg P w0 n sh Q ops ((b, i, ⟨dst, op, ty, pos, aft, some (j, want)⟩) :: l) k ρ df Γ := by
 refine ⟨?_⟩
 have hw2 : ¬ (wantedE ops ρ ⟨dst, op, ty, pos, aft, some (j, want)⟩ = true) := by simp [wantedE, Region.wanted, hy]
 simp only [WR, if_neg hw2]
 exact h.go
end
end Go.Vc
namespace Go.Vc
section
variable {P : Program} {w0 : World} {n : Nat} {sh : Shared} {Q : Exit → Env → List Deferred → List Asn → Prop} {k : List Item} {ρ : Env} {df : List Deferred} {Γ : List Asn} {hF : Heap}
variable {fn : Func} {R : Value → List Asn → Prop}
end
end Go.Vc
namespace Go.Vc
section
variable {P : Program} {w0 : World} {n : Nat} {sh : Shared} {Q : Exit → Env → List Deferred → List Asn → Prop} {k : List Item} {ρ : Env} {df : List Deferred} {Γ : List Asn} {hF : Heap}
variable {ops : Array Oper} {l : List (Fl × Nat × Oper)} {b : Fl} {i d : Nat} {ty : TypeId} {pos : String} {aft : Array Edge}
theorem reg_makeSlice {t e : TypeId} {agg : Bool} {bytes : Nat} {lo ca : Operand} {m : Int} {z zv : Value} [hT : TUnd P t (.slice e)] [hS : TShape P e agg 1] [hZ : TZeroV P e zv] [hI : TInfo P e bytes]
   (hl : ev ρ lo = .int .i64 m) (hc : ev ρ ca = .int .i64 m) (hz : zv.cells = #[z]) (hb : 0 ≤ m ∧ m ≤ 1099511627776) (hbytes : bytes ≤ 16)
   (h : ∀ nb, Reg P w0 n sh Q ops l k (ρ.set d (.slice (some ⟨nb, 0, none⟩) m.toNat m.toNat)) df (Γ ++ [pt nb (.cells (List.toArray (List.replicate m.toNat z)) e (0, 0))])) :
   Reg P w0 n sh Q ops ((Fl.loud, i, ⟨some d, .makeSlice t lo ca, ty, pos, aft, none⟩) :: l) k ρ df Γ :=
 reg_new (val := fun nb => .slice (some ⟨nb, 0, none⟩) m.toNat m.toNat) rfl (fun w => by
   obtain ⟨ti, hti, hbt⟩ := hI.info_run w
   have hw : IntKind.i64.wrap m = m := wrap64_id (by omega) (by omega)
   have h1 : ¬ ((bytes : Int) * m > 2 ^ 48) := by
     have : (bytes : Int) * m ≤ 16 * 1099511627776 := Int.mul_le_mul (by omega) hb.2 hb.1 (by omega)
     omega
   have h2 : (decide (m < 0) || decide ((bytes : Int) * m > 2 ^ 48)) = false := by simp; omega
   have h3 : ¬ (m < 0) := by omega
   have h5 : decide ((2 : Int) ^ 48 < (bytes : Int) * m) = false := decide_eq_false (by omega)
   simp only [execOp, Instr.makeSlice, hl, hc, Sem.run_bind, run_underlying hT.und, Result.andThen_ok, asInt, asIntOf, Sem.run_pure, hti, hbt, hw, h3, h5, Int.lt_irrefl, gt_iff_lt, decide_false, Bool.or_false, Bool.or_self, Bool.false_eq_true, if_false, run_askRoom, hS.size_run, Nat.mul_one]
   by_cases h0 : m.toNat = 0
   · simp [h0, newRow]
     rw [show Array.range 0 = #[] from rfl, Array.map_empty]
   · simp only [h0, if_false, Sem.run_bind, hZ.zero_run, Result.andThen_ok, Sem.run_pure, hz, newRow, run_newObj]
     have : (Array.map (fun x => #[z][x % #[z].size]!) (Array.range m.toNat)) = (List.replicate m.toNat z).toArray := by
       apply Array.ext
       · simp
       · intro i hi1 hi2
         simp [Nat.mod_one]
     rw [this]) h
end
end Go.Vc
namespace Go.Vc
section
variable {P : Program} {w0 : World} {n : Nat} {sh : Shared} {f : FuncId} {args : List Value} {Γ : List Asn} {R R' : Value → List Asn → Prop}
theorem Fn.pre {A : Asn} {ι : Type} (B : ι → Asn) (φ : ι → Prop) (hen : Enters P f) (hA : ∀ h, A h → ∃ i, φ i ∧ B i h) (h : ∀ i, φ i → Fn P w0 sh f args [B i] R) : Fn P w0 sh f args [A] R := by
 refine ⟨hen, fun hF w hsh hst => ?_⟩
 obtain ⟨g, hs, hd, hsat⟩ := hst
 obtain ⟨i, hi, hB⟩ := hA g (Stars.one.1 hs)
 exact (h i hi).calls hF w hsh ⟨g, Stars.one.2 hB, hd, hsat⟩
theorem Fn.post (h : Fn P w0 sh f args Γ R) (hR : ∀ v Γ', R v Γ' → ∃ Γ'', R' v Γ'' ∧ ∀ h, Stars Γ' h → Stars Γ'' h) : Fn P w0 sh f args Γ R' := by
 refine ⟨h.enters, fun hF w hsh hst => (h.calls hF w hsh hst).mono ?_⟩
 rintro e w' ⟨v, Γ', he, hr, hst'⟩
 obtain ⟨Γ'', h1, h2⟩ := hR v Γ' hr
 obtain ⟨g, hs, hd, hsat⟩ := hst'
 exact ⟨v, Γ'', he, h1, g, h2 g hs, hd, hsat⟩
end
section
variable {P : Program} {w0 : World} {n : Nat} {sh : Shared} {Q : Exit → Env → List Deferred → List Asn → Prop} {k : List Item} {ρ : Env} {df : List Deferred} {Γ : List Asn}
variable {ops : Array Oper} {l : List (Fl × Nat × Oper)} {b : Fl} {i d : Nat} {ty : TypeId} {pos : String} {aft : Array Edge}
variable {x y : Operand} {t yt : TypeId} {kd : IntKind} {m m' : Int}
theorem zbc (hx : ev ρ x = .int kd m) (hy : ev ρ y = .int kd m') (hc : m = m') (h : Reg P w0 n sh Q ops l k (ρ.set d (.bool true)) df Γ) :
   Reg P w0 n sh Q ops ((b, i, ⟨some d, .binOp .eql t x y yt, ty, pos, aft, none⟩) :: l) k ρ df Γ := zbo hx hy (by rw [decide_eq_true hc]; exact h)
theorem zbd (hx : ev ρ x = .int kd m) (hy : ev ρ y = .int kd m') (hc : m ≠ m') (h : Reg P w0 n sh Q ops l k (ρ.set d (.bool false)) df Γ) :
   Reg P w0 n sh Q ops ((b, i, ⟨some d, .binOp .eql t x y yt, ty, pos, aft, none⟩) :: l) k ρ df Γ := zbo hx hy (by rw [decide_eq_false hc]; exact h)
theorem zbe (hx : ev ρ x = .int kd m) (hy : ev ρ y = .int kd m') (hc : m ≠ m') (h : Reg P w0 n sh Q ops l k (ρ.set d (.bool true)) df Γ) :
   Reg P w0 n sh Q ops ((b, i, ⟨some d, .binOp .neq t x y yt, ty, pos, aft, none⟩) :: l) k ρ df Γ := zbp hx hy (by rw [decide_eq_true hc]; exact h)
theorem zbf (hx : ev ρ x = .int kd m) (hy : ev ρ y = .int kd m') (hc : m = m') (h : Reg P w0 n sh Q ops l k (ρ.set d (.bool false)) df Γ) :
   Reg P w0 n sh Q ops ((b, i, ⟨some d, .binOp .neq t x y yt, ty, pos, aft, none⟩) :: l) k ρ df Γ := zbp hx hy (by rw [decide_eq_false (fun e => e hc)]; exact h)
theorem zbg (hx : ev ρ x = .int kd m) (hy : ev ρ y = .int kd m') (hc : m < m') (h : Reg P w0 n sh Q ops l k (ρ.set d (.bool true)) df Γ) :
   Reg P w0 n sh Q ops ((b, i, ⟨some d, .binOp .lss t x y yt, ty, pos, aft, none⟩) :: l) k ρ df Γ := zbq hx hy (by rw [decide_eq_true hc]; exact h)
theorem zbh (hx : ev ρ x = .int kd m) (hy : ev ρ y = .int kd m') (hc : m' ≤ m) (h : Reg P w0 n sh Q ops l k (ρ.set d (.bool false)) df Γ) :
   Reg P w0 n sh Q ops ((b, i, ⟨some d, .binOp .lss t x y yt, ty, pos, aft, none⟩) :: l) k ρ df Γ := zbq hx hy (by rw [decide_eq_false (by omega)]; exact h)
theorem zbi (hx : ev ρ x = .int kd m) (hy : ev ρ y = .int kd m') (hc : m ≤ m') (h : Reg P w0 n sh Q ops l k (ρ.set d (.bool true)) df Γ) :
   Reg P w0 n sh Q ops ((b, i, ⟨some d, .binOp .leq t x y yt, ty, pos, aft, none⟩) :: l) k ρ df Γ := zbr hx hy (by rw [decide_eq_true hc]; exact h)
theorem zbj (hx : ev ρ x = .int kd m) (hy : ev ρ y = .int kd m') (hc : m' < m) (h : Reg P w0 n sh Q ops l k (ρ.set d (.bool false)) df Γ) :
   Reg P w0 n sh Q ops ((b, i, ⟨some d, .binOp .leq t x y yt, ty, pos, aft, none⟩) :: l) k ρ df Γ := zbr hx hy (by rw [decide_eq_false (by omega)]; exact h)
theorem zbk (hx : ev ρ x = .int kd m) (hy : ev ρ y = .int kd m') (hc : m' < m) (h : Reg P w0 n sh Q ops l k (ρ.set d (.bool true)) df Γ) :
   Reg P w0 n sh Q ops ((b, i, ⟨some d, .binOp .gtr t x y yt, ty, pos, aft, none⟩) :: l) k ρ df Γ := zbs hx hy (by rw [decide_eq_true hc]; exact h)
theorem zbl (hx : ev ρ x = .int kd m) (hy : ev ρ y = .int kd m') (hc : m ≤ m') (h : Reg P w0 n sh Q ops l k (ρ.set d (.bool false)) df Γ) :
   Reg P w0 n sh Q ops ((b, i, ⟨some d, .binOp .gtr t x y yt, ty, pos, aft, none⟩) :: l) k ρ df Γ := zbs hx hy (by rw [decide_eq_false (by omega)]; exact h)
theorem zbm (hx : ev ρ x = .int kd m) (hy : ev ρ y = .int kd m') (hc : m' ≤ m) (h : Reg P w0 n sh Q ops l k (ρ.set d (.bool true)) df Γ) :
   Reg P w0 n sh Q ops ((b, i, ⟨some d, .binOp .geq t x y yt, ty, pos, aft, none⟩) :: l) k ρ df Γ := zbt hx hy (by rw [decide_eq_true hc]; exact h)
theorem zbn (hx : ev ρ x = .int kd m) (hy : ev ρ y = .int kd m') (hc : m < m') (h : Reg P w0 n sh Q ops l k (ρ.set d (.bool false)) df Γ) :
   Reg P w0 n sh Q ops ((b, i, ⟨some d, .binOp .geq t x y yt, ty, pos, aft, none⟩) :: l) k ρ df Γ := zbt hx hy (by rw [decide_eq_false (by omega)]; exact h)
end
end Go.Vc
namespace Go.Vc
open Go.ChangeShapes Go.WideShapes Go.RowKit
theorem below_of_good {w w' : World} (h : Good w w') : Below w.heap.size w w' := ⟨h.2.1, h.1, h.2.2.1, h.2.2.2.1, h.2.2.2.2⟩
theorem st_start (w : World) : St w Heap.emp [] w := ⟨Heap.emp, rfl, Disj.emp_left _, Good.refl w, fun b o h => by simp [Heap.or, Heap.emp] at h⟩
section
variable {H : Type} {enc : TypeId × Value → H} {P : Program} {W W' : World}
theorem trodAll_stays (hl : laidOutB P = true) (hb : Below W.heap.size W W') {sp : Nat → Bool} : ∀ {ts : List TypeId} {vs : List Value} {ds : List (DataW H)} {p : List MemPlace}, (∀ t ∈ ts, P.readableRec t = true ∧ t < P.types.size) →
   DataW.TrodAll enc P W 0 (fun _ => true) true ts vs ds p → (∀ x ∈ p, x.block < W.heap.size) → (∀ x ∈ p, sp x.block = true) → DataW.TrodAll enc P W' 0 sp true ts vs ds p
 | [], _, _, _, _, h, _, _ => by
   obtain ⟨rfl, rfl, rfl⟩ := trodAll_nil h
   exact rfl
 | t :: ts, _, _, _, hts, h, hlt, hsp => by
   obtain ⟨v, vs1, d, ds1, a, b, rfl, rfl, rfl, h1, h2⟩ := trodAll_cons h
   have ht := hts t (by simp)
   exact ⟨a, b, WideElems.Trod_stays hl ht.1 ht.2 h1 (fun x hx => hb.same (hlt x (by simp [hx]))) (fun x hx => hsp x (by simp [hx])),
     trodAll_stays hl hb (fun u hu => hts u (by simp [hu])) h2 (fun x hx => hlt x (by simp [hx])) (fun x hx => hsp x (by simp [hx])), rfl⟩
theorem law_post {f : Func} {s : ChangeSpec} {apart : Bool} {args : Array Value} {ds gs : List (DataW H)} {before : List MemPlace} {tb : TypeId} (hl : laidOutB P = true)
   (hts : ∀ t ∈ f.params.toList, P.readableRec t = true ∧ t < P.types.size) (hv : s.vars = []) (hrt : f.resultTypes = #[tb]) (htb : P.underlying tb = some .bool)
   (hs : (s.fn H (ds ++ gs)).results = [.lit (.bool true)] ∧ (s.fn H (ds ++ gs)).args = ds ∧ (s.fn H (ds ++ gs)).vars = [])
   (hW : DataW.Whole enc P f.params.toList s.vars apart W args.toList ds gs before) (hb : Below W.heap.size W W') : s.post enc P f apart true false false W args (.bool true) W' := by
 have hlt := hW.lt
 have hW0 := hW
 obtain ⟨p, q, hA, hV, rfl, hz, hn⟩ := hW
 rw [hv] at hV
 obtain ⟨rfl, rfl⟩ := trodVars_none hV
 obtain ⟨hs1, hs2, hs3⟩ := hs
 have hA' : ∀ sp : Nat → Bool, (∀ x ∈ p ++ [], sp x.block = true) → DataW.TrodAll enc P W' 0 sp true f.params.toList args.toList (s.fn H (ds ++ [])).args p := fun sp hsp => by
   rw [hs2]
   exact trodAll_stays hl hb hts hA (fun x hx => hlt x (by simp [hx])) (fun x hx => hsp x (by simp [hx]))
 have hR : ∀ (b : Nat) (sp : Nat → Bool) (hd : Bool), DataW.TrodAll enc P W' b sp hd f.resultTypes.toList ((Value.bool true).resultList f.resultTypes.size) (s.fn H (ds ++ [])).results [] := fun b sp hd => by
   rw [hs1, hrt]
   exact trodAll_mk1 (shut_bool htb true)
 have hVV : ∀ sp : Nat → Bool, DataW.TrodVars enc P W' sp s.vars (s.fn H (ds ++ [])).vars [] := fun sp => by rw [hv, hs3]; rfl
 have hold : ∀ x ∈ p ++ [], (fun b => decide (b < W.heap.size)) x.block = true := fun x hx => by simpa using hlt x hx
 refine ⟨ds, [], p ++ [], [], p, [], hW0, hR _ _ _, hA' _ hold, hVV _, hb.frame _, fun _ => ?_⟩
 refine ⟨ok_one hrt rfl (okWide_bool_mk htb true), _, _, ([] ++ p) ++ [], ⟨[] ++ p, [], trodAll_append (hA' _ (fun _ _ => rfl)) (hR _ _ _), hVV _, rfl, ?_, ?_⟩, ?_⟩
 · intro b off hp
   have hp' : MemPlace.cell b off ∈ p ++ [] := by simpa using hp
   have := hlt _ hp'
   rw [hb.frozen (p := ⟨b, off, none⟩) (by simpa [MemPlace.block] using this)]
   exact hz b off hp'
 · intro ha
   have := hn ha
   simpa using this
 · intro x hx _
   simpa using hx
end
theorem cell_inv {w : World} {a : Addr} {v : Value} (h : w.cell? a = some v) : ∃ c T fr, a = ⟨a.block, a.off, none⟩ ∧ w.heap[a.block]? = some (.cells c T fr) ∧ c[a.off]? = some v := by
 obtain ⟨b, o, sp⟩ := a
 simp only [World.cell?] at h
 split at h
 · rename_i c T fr hc
   split at h
   · cases h
   · rename_i hs
     cases sp with
     | none => exact ⟨c, T, fr, rfl, hc, h⟩
     | some x => simp at hs
 · cases h
theorem mapM_idx {α β : Type} {f : α → Option β} : ∀ {l : List α} {r : List β}, l.mapM f = some r → r.length = l.length ∧ ∀ (i : Nat) (a : α), l[i]? = some a → f a = r[i]?
 | [], r, h => by simp at h; subst h; simp
 | a :: l, r, h => by
   rw [List.mapM_cons] at h
   cases hf : f a with
   | none => rw [hf] at h; cases h
   | some b =>
     cases hm : l.mapM f with
     | none => rw [hf, hm] at h; cases h
     | some r2 =>
       rw [hf, hm] at h
       have : r = b :: r2 := (Option.some.inj h).symm
       subst this
       obtain ⟨h1, h2⟩ := mapM_idx hm
       refine ⟨by simp [h1], fun i x hx => ?_⟩
       cases i with
       | zero => simp at hx; subst hx; simpa using hf
       | succ i => simp at hx ⊢; exact h2 i x hx
theorem cells_inv {w : World} {base n : Nat} {a : Addr} {cs : List Value} (h : w.cells? base a n = some cs) : cs.length = n ∧ ∀ k, k < n → w.cell? (a.add k) = cs[k]? := by
 simp only [World.cells?] at h
 split at h
 · obtain ⟨h1, h2⟩ := mapM_idx h
   exact ⟨by simpa using h1, fun k hk => h2 k k (by simp [hk])⟩
 · cases h
def InSl {α : Type} (w : World) (encE : α → List Value) (m : Nat) (v : Value) (l : List α) : Prop :=
 ∃ a cap, v = .slice a l.length cap ∧ (l.length ≤ cap ∧ l.length ≤ maxLen) ∧ (l = [] ∨ ∃ b off c T fr, a = some ⟨b, off, none⟩ ∧ w.heap[b]? = some (.cells c T fr) ∧
   ∀ (i : Nat) (x : α), l[i]? = some x → (encE x).length = m ∧ ∀ k u, (encE x)[k]? = some u → c[off + (i * m + k)]? = some u)
theorem choose_list {α : Type} {φ : Nat → α → Prop} : ∀ (n : Nat), (∀ i, i < n → ∃ x, φ i x) → ∃ l : List α, l.length = n ∧ ∀ i x, l[i]? = some x → φ i x
 | 0, _ => ⟨[], rfl, by simp⟩
 | n + 1, h => by
   obtain ⟨l, h1, h2⟩ := choose_list n (fun i hi => h i (by omega))
   obtain ⟨x, hx⟩ := h n (by omega)
   refine ⟨l ++ [x], by simp [h1], fun i y hy => ?_⟩
   by_cases hi : i < l.length
   · rw [List.getElem?_append_left hi] at hy; exact h2 i y hy
   · rw [List.getElem?_append_right (by omega)] at hy
     have hlt := (List.getElem?_eq_some_iff.1 hy).1
     simp at hlt
     have : i = l.length := by omega
     subst this
     simp at hy; subst hy; rw [h1]; exact hx
section
variable {H : Type} {enc : TypeId × Value → H} {P : Program} {w : World} {base : Nat} {spare : Nat → Bool} {held : Bool} {t e : TypeId} {v : Value} {d : DataW H} {ps : List MemPlace}
theorem in_slice {α : Type} (encE : α → List Value) (φ : α → Prop) {m : Nat} (ht : P.underlying t = some (.slice e)) (hm : P.cellsOf e = m) (hm0 : 0 < m) {r : Reach} {b0 : Nat} (hval : Value.okWide P w r b0 t v)
   (hE : ∀ (n : Nat) (cs : List Value) (y : DataW H × List MemPlace), DataW.trod enc P w base spare held n e cs = some y → ∃ x, φ x ∧ cs = encE x) (h : DataW.Trod enc P w base spare held t v d ps) :
   ∃ l, InSl w encE m v l ∧ ∀ x ∈ l, φ x := by
 obtain ⟨fuel, hf⟩ := h
 have hv : ∀ u, v.cells.toList = [u] → v = u := fun u hu => by
   simp only [Value.okWide, ht] at hval
   cases v with
   | agg cs => simp [Cell.okWide, Cell.ok, ht] at hval
   | _ => simpa [Value.cells] using hu
 rcases DataW.trod_slice ht hf with ⟨hcs, _⟩ | ⟨a, len, cap, elems, rest, n, _, hcs, _, _, hle, hcap, hlen, hel, _, _⟩
 · have := hv _ hcs
   subst this
   exact ⟨[], ⟨none, 0, rfl, by simp, .inl rfl⟩, by simp⟩
 · have := hv _ hcs
   subst this
   have key : ∀ i, i < len → ∃ x, φ x ∧ (encE x).length = m ∧ ∀ k, k < m → w.cell? ((a.add (i * m)).add k) = (encE x)[k]? := fun i hi => by
     have h1 := hel i hi
     have h2 : (elems[i]?).isSome := by simp; omega
     rw [← h1, hm] at h2
     cases hc : w.cells? base (a.add (i * m)) m with
     | none => rw [hc] at h2; simp at h2
     | some cs =>
       rw [hc] at h2
       simp only [Option.bind_some] at h2
       obtain ⟨y, hy⟩ := Option.isSome_iff_exists.1 h2
       obtain ⟨x, hx1, hx2⟩ := hE n cs y hy
       subst hx2
       obtain ⟨h3, h4⟩ := cells_inv hc
       exact ⟨x, hx1, h3, h4⟩
   obtain ⟨l, hl1, hl2⟩ := choose_list len key
   refine ⟨l, ⟨some a, cap, by rw [hl1], ⟨by omega, by omega⟩, ?_⟩, fun x hx => ?_⟩
   · cases l with
     | nil => exact .inl rfl
     | cons x0 l0 =>
       right
       obtain ⟨_, hx1, hx2⟩ := hl2 0 x0 rfl
       have h0 := hx2 0 hm0
       rw [List.getElem?_eq_getElem (by omega)] at h0
       have ha : (a.add (0 * m)).add 0 = a := by simp [Addr.add]
       rw [ha] at h0
       obtain ⟨c, T, fr, ea, hh, _⟩ := cell_inv h0
       refine ⟨a.block, a.off, c, T, fr, congrArg some ea, hh, fun i x hx => ?_⟩
       obtain ⟨_, h5, h6⟩ := hl2 i x hx
       refine ⟨h5, fun k u hu => ?_⟩
       have hk := (List.getElem?_eq_some_iff.1 hu).1
       have h7 := h6 k (by omega)
       rw [hu] at h7
       have e2 : (a.add (i * m)).add k = ⟨a.block, a.off + (i * m + k), none⟩ := by
         rw [ea]
         simp only [Addr.add]
         split <;> split <;> simp <;> omega
       rw [e2] at h7
       obtain ⟨c2, T2, fr2, _, hh2, hc2⟩ := cell_inv h7
       simp only at hh2 hc2
       rw [hh] at hh2
       cases hh2
       exact hc2
   · obtain ⟨i, hi⟩ := List.mem_iff_getElem?.1 hx
     exact (hl2 i x hi).1
def i64P (x : Int) : Prop := -9223372036854775808 ≤ x ∧ x ≤ 9223372036854775807
theorem wf_i64 {x : Int} (h : (Lit.int .i64 x).wf = true) : i64P x := by
 simp only [Lit.wf, Bool.and_eq_true, decide_eq_true_eq] at h
 exact ⟨h.1, h.2⟩
theorem in_i64 (ht : P.underlying t = some (.int .i64)) {r : Reach} {b0 : Nat} (hval : Value.okWide P w r b0 t v) (h : DataW.Trod enc P w base spare held t v d ps) : ∃ x, v = .int .i64 x ∧ i64P x := by
 obtain ⟨n, h1, _, _, h2⟩ := open_int ht hval h
 exact ⟨n, h1, wf_i64 h2⟩
end
end Go.Vc
namespace Go.Vc
section
variable {P : Program} {w0 : World} {n : Nat} {sh : Shared} {Q : Exit → Env → List Deferred → List Asn → Prop} {k : List Item} {ρ : Env} {df : List Deferred} {Γ : List Asn} {hF : Heap}
variable {α : Type} {encE : α → List Value} {m : Nat} {v : Value} {l : List α}
def RdSl (w0 : World) (sh : Shared) (encE : α → List Value) (m : Nat) (v : Value) (l : List α) : Prop :=
 ∃ a cap, v = .slice a l.length cap ∧ l.length ≤ cap ∧ (l = [] ∨ ∃ b off c T fr, a = some ⟨b, off, none⟩ ∧ (∀ hF Γ w, Sh sh hF → St w0 hF Γ w → w.heap[b]? = some (.cells c T fr)) ∧
   ∀ (i : Nat) (x : α), l[i]? = some x → (encE x).length = m ∧ ∀ k u, (encE x)[k]? = some u → c[off + (i * m + k)]? = some u)
theorem InSl.rd (h : InSl w0 encE m v l) : RdSl w0 sh encE m v l := by
 obtain ⟨a, cap, h1, h2, h3⟩ := h
 refine ⟨a, cap, h1, h2.1, h3.imp id fun ⟨b, off, c, T, fr, e, hh, hc⟩ => ⟨b, off, c, T, fr, e, fun hF Γ w _ hst => ?_, hc⟩⟩
 rw [hst.base (Array.getElem?_eq_some_iff.1 hh).1]; exact hh
theorem RdSl.mono {sh' : Shared} (h : RdSl w0 sh encE m v l) (hs : ∀ p ∈ sh, p ∈ sh') : RdSl w0 sh' encE m v l := by
 obtain ⟨a, cap, h1, h0, h3⟩ := h
 exact ⟨a, cap, h1, h0, h3.imp id fun ⟨b, off, c, T, fr, e, hh, hc⟩ => ⟨b, off, c, T, fr, e, fun hF Γ w hsh hst => hh hF Γ w (fun p hp => hsh p (hs p hp)) hst, hc⟩⟩
theorem RdSl.nil {a : Option Addr} {cap : Nat} : RdSl w0 sh encE m (.slice a 0 cap) ([] : List α) := ⟨a, cap, rfl, Nat.zero_le _, .inl rfl⟩
abbrev encI : Int → List Value := fun x => [.int .i64 x]
def intsV (l : List Int) : List Value := l.map (Value.int .i64)
theorem RdSl.ints {b cap : Nat} {l : List Int} {spare : List Value} {T : TypeId} {fr : Nat × Nat} (hm : (b, Obj.cells (List.toArray (intsV l ++ spare)) T fr) ∈ sh) (hcap : l.length ≤ cap) : RdSl w0 sh encI 1 (.slice (some ⟨b, 0, none⟩) l.length cap) l := by
 refine ⟨_, _, rfl, hcap, .inr ⟨b, 0, _, T, fr, rfl, fun hF Γ w hsh hst => (hst.frame (hsh _ hm)).2, fun i x hx => ⟨rfl, fun k u hu => ?_⟩⟩⟩
 have hk : k = 0 := by have := (List.getElem?_eq_some_iff.1 hu).1; simp at this; omega
 subst hk
 simp at hu; subst hu
 have hil := (List.getElem?_eq_some_iff.1 hx).1
 simp only [Nat.mul_one, Nat.add_zero, Nat.zero_add, List.getElem?_toArray]
 rw [List.getElem?_append_left (by simp [intsV]; exact hil), intsV, List.getElem?_map, hx]; rfl
theorem rd_one {c : Array Value} {o : Nat} {u : Value} (h : c[o]? = some u) (o' : Nat) (ho : o' = o) : rd false 1 c.toList o' = some u := by
 subst ho
 show nth c.toList _ = _
 rw [nth_eq]; simpa using h
theorem RdSl.at {l : List Int} {a : Option Addr} {cap len : Nat} (h : RdSl w0 sh encI 1 (.slice a len cap) l) {i : Nat} {x : Int} (hx : l[i]? = some x) :
   ∃ b off c T fr, a = some ⟨b, off, none⟩ ∧ (∀ hF Γ w, Sh sh hF → St w0 hF Γ w → w.heap[b]? = some (.cells c T fr)) ∧ ∀ o, o = off + i * 1 → rd false 1 c.toList o = some (.int .i64 x) := by
 obtain ⟨a', cap', h1, _, h2⟩ := h
 cases h1
 have hne : l ≠ [] := by intro e; subst e; simp at hx
 obtain ⟨b, off, c, T, fr, e, hh, hc⟩ := h2.resolve_left hne
 exact ⟨b, off, c, T, fr, e, hh, fun o ho => rd_one ((hc i x hx).2 0 _ rfl) o (by omega)⟩
theorem RdSl.len {a : Option Addr} {cap len : Nat} (h : RdSl w0 sh encE m (.slice a len cap) l) : len = l.length := by
 obtain ⟨a', cap', h1, _, h2⟩ := h; cases h1; rfl
theorem RdSl.cap {a : Option Addr} {cap len : Nat} (h : RdSl w0 sh encE m (.slice a len cap) l) : len ≤ cap := by
 obtain ⟨a', cap', h1, h0, h2⟩ := h; cases h1; exact h0
theorem RdSl.take {l : List Int} {b off cap len : Nat} (h : RdSl w0 sh encI 1 (.slice (some ⟨b, off, none⟩) len cap) l) (hne : l ≠ []) :
   ∃ c T fr, (∀ hF Γ w, Sh sh hF → St w0 hF Γ w → w.heap[b]? = some (.cells (List.toArray c) T fr)) ∧ (c.drop off).take l.length = intsV l ∧ off + l.length ≤ c.length := by
 obtain ⟨a', cap', h1, _, h2⟩ := h
 obtain ⟨b', off', c, T, fr, e, hh, hc⟩ := h2.resolve_left hne
 cases h1
 cases e
 have key : ∀ i x, l[i]? = some x → c.toList[off + i]? = some (.int .i64 x) := fun i x hx => by
   have := (hc i x hx).2 0 _ rfl
   simpa using this
 have hle : off + l.length ≤ c.toList.length := by
   cases hl : l.length with
   | zero => exact absurd (List.length_eq_zero_iff.1 hl) hne
   | succ q =>
     have hx : l[q]? = some l[q] := List.getElem?_eq_getElem (by omega)
     have := (List.getElem?_eq_some_iff.1 (key q _ hx)).1
     omega
 refine ⟨c.toList, T, fr, fun hF Γ w h1 h2 => by simpa using hh hF Γ w h1 h2, ?_, hle⟩
 apply List.ext_getElem?
 intro i
 by_cases hi : i < l.length
 · have hx : l[i]? = some l[i] := List.getElem?_eq_getElem hi
   rw [List.getElem?_take, if_pos hi, List.getElem?_drop, key i _ hx, intsV, List.getElem?_map, hx]; rfl
 · rw [List.getElem?_eq_none (by simp; omega), List.getElem?_eq_none (by simp [intsV]; omega)]
variable {ops : Array Oper} {rest : List (Fl × Nat × Oper)} {b : Fl} {i d : Nat} {ty : TypeId} {pos : String} {aft : Array Edge} {x y : Operand}
theorem zad {t T : TypeId} {agg : Bool} {q bb off : Nat} {c : Array Value} {fr : Nat × Nat} {u : Value} [hT : TShape P t agg q] (hx : ev ρ x = .pointer (some ⟨bb, off, none⟩))
   (hm : ∀ hF Γ w, Sh sh hF → St w0 hF Γ w → w.heap[bb]? = some (.cells c T fr)) (hr : rd agg q c.toList off = some u)
   (h : Reg P w0 n sh Q ops rest k (ρ.set d u) df Γ) : Reg P w0 n sh Q ops ((b, i, ⟨some d, .load t x, ty, pos, aft, none⟩) :: rest) k ρ df Γ :=
 reg_quiet rfl (fun hF hsh w Γ hst => ⟨w, load_of hT hx (hm hF Γ w hsh hst) hr, hst⟩) h
theorem opW_append0 {dst : Option Tmp} {a a2 : Option Addr} {len cap cap2 sz : Nat} {agg : Bool} {t e t2 e2 : TypeId} {j : Nat} {cs : List Value}
   [hT : TUnd P t (.slice e)] [hS : TShape P e agg sz] [hT2 : TUnd P t2 (.slice e2)]
   (hx : ev ρ x = .slice a len cap) (hy : ev ρ y = .slice a2 0 cap2) (hj : getAt j Γ = some (SlA e sz a len cap cs)) (hbig : len ≤ 9223372036854775807) :
   OpW P w0 hF ⟨dst, .call ⟨.builtin .append, #[x, y], #[t, t2]⟩, ty, pos, aft, none⟩ ρ df Γ fun v df' Γ' => ∃ a' cap', v = .slice a' (len + 0) cap' ∧ df' = df ∧ putAt j (SlA e sz a' (len + 0) cap' (cs ++ [])) Γ = some Γ' := by
 intro w hst
 obtain ⟨r, hst1, hback⟩ := hst.at hj
 obtain ⟨g, hA, hB⟩ := hst1.head
 have hlc := (SlA_len hA).2
 have hfirst : ∀ w, (Builtin.firstCells sz 0 (.slice a2 0 cap2)).run P w = .ok #[] w := fun w => by
   cases a2 <;> simp [Builtin.firstCells, loadCells, loadCellsFrom]
 have hmax : ¬ ((len + 0 : Nat) : Int) > IntKind.i64.max := by rw [IntKind.max_i64]; omega
 simp only [execOp, resolve, invoke, builtin, Builtin.append_, Builtin.lenOf]
 simp only [List.map_toArray, List.map_cons, List.map_nil, hx, hy, Sem.run_bind, Sem.run_pure, Result.andThen_ok]
 simp only [List.getElem?_toArray, List.getElem?_cons_zero, List.getElem?_cons_succ, Sem.run_bind, Sem.run_pure, Result.andThen_ok, run_underlying hT.und, run_underlying hT2.und, hS.size_run, Bool.false_eq_true, if_false, Bool.not_false, if_true]
 have hfit : len + 0 ≤ cap := by omega
 simp only [hfit, if_true, Sem.run_bind, hfirst w, Result.andThen_ok]
 have hst2 := hback (SlA e sz a (len + 0) cap (cs ++ [])) w (hB _ (by rw [List.append_nil]; exact hA))
 obtain ⟨Γ', h5, h6⟩ := hst2
 cases a with
 | none =>
   simp only [Sem.run_pure, Result.andThen_ok]
   exact ⟨Γ', ⟨none, cap, rfl, rfl, h5⟩, h6⟩
 | some ad =>
   simp only [storeCells, Sem.run_bind, Sem.run_pure, Result.andThen_ok]
   exact ⟨Γ', ⟨some ad, cap, rfl, rfl, by simpa using h5⟩, h6⟩
theorem reg_own (j : Nat) {nb len cap sz : Nat} {cs : List Value} {T : TypeId} {Γ' : List Asn} {op : Op} {dst : Option Tmp} (hj : getAt j Γ = some (pt nb (.cells (List.toArray cs) T (0, 0)))) (hna : allocOp op = false)
   (hl : cs.length = len * sz ∧ len ≤ cap ∧ cap * sz ≤ cs.length) (hp : putAt j (SlA T sz (some ⟨nb, 0, none⟩) len cap cs) Γ = some Γ')
   (h : Reg P w0 n sh Q ops ((Fl.loud, i, ⟨dst, op, ty, pos, aft, none⟩) :: rest) k ρ df Γ') : Reg P w0 n sh Q ops ((Fl.loud, i, ⟨dst, op, ty, pos, aft, none⟩) :: rest) k ρ df Γ := by
 refine ⟨?_⟩
 have h1 := h.go
 have hw : wantedE ops ρ ⟨dst, op, ty, pos, aft, none⟩ = true := rfl
 simp only [WR, hw, if_true, hna, Bool.false_eq_true, reduceCtorEq, if_false] at h1 ⊢
 obtain ⟨R, h2, h3⟩ := h1
 refine ⟨R, fun hF hsh w hst => h2 hF hsh w ?_, h3⟩
 obtain ⟨g, hs, hd, hsat⟩ := hst
 exact ⟨g, Stars.exchAt (fun g hg => SlA.some_iff.2 ⟨nb, [], rfl, hl.1, hl.2.1, by simpa using hl.2.2, by rw [List.append_nil]; exact hg⟩) hj hp hs, hd, hsat⟩
theorem SlA_cutc {T : TypeId} {sz len cap q : Nat} {a : Option Addr} {cs : List Value} {h : Heap} (hA : SlA T sz a len cap cs h) (hq : q ≤ len) : SlA T sz a q cap (cs.take (q * sz)) h := by
 cases a with
 | none =>
   obtain ⟨e1, e2, e3, e4⟩ := SlA.none_iff.1 hA
   subst e1; subst e2; subst e3
   exact SlA.none_iff.2 ⟨by omega, rfl, by simp, e4⟩
 | some ad =>
   obtain ⟨b', spare, e1, e2, e3, e4, e5⟩ := SlA.some_iff.1 hA
   have hq2 : q * sz ≤ len * sz := Nat.mul_le_mul_right _ hq
   refine SlA.some_iff.2 ⟨b', cs.drop (q * sz) ++ spare, e1, by simp; omega, by omega, by simp; omega, ?_⟩
   rw [← List.append_assoc, List.take_append_drop]; exact e5
def LstA (T : TypeId) (v : Value) (l : List Int) : Asn := fun h => ∃ a cap, v = .slice a l.length cap ∧ SlA T 1 a l.length cap (intsV l) h
theorem LstA.cut {T : TypeId} {a : Option Addr} {len cap q : Nat} {l : List Int} {h : Heap} (hA : LstA T (.slice a len cap) l h) (hq : q ≤ l.length) (n : Nat) (hn : n = q) : LstA T (.slice a n cap) (l.take q) h := by
 subst hn
 obtain ⟨a', cap', e, hS⟩ := hA
 cases e
 refine ⟨a, cap, by rw [List.length_take, Nat.min_eq_left hq], ?_⟩
 have := SlA_cutc hS hq
 rw [Nat.mul_one] at this
 rw [List.length_take, Nat.min_eq_left hq, show intsV (l.take n) = (intsV l).take n by simp [intsV, List.map_take]]
 exact this
theorem rd_cells {c : Array Value} {o q : Nat} {vs : List Value} (hq : vs.length = q) (h : ∀ (k : Nat) (u : Value), vs[k]? = some u → c[o + k]? = some u) (o' : Nat) (ho : o' = o) : rd true q c.toList o' = some (.agg (List.toArray vs)) := by
 subst ho
 have key : ∀ (vs : List Value) (cs : List Value), (∀ (k : Nat) (u : Value), vs[k]? = some u → cs[k]? = some u) → takeL vs.length cs = some vs := by
   intro vs
   induction vs with
   | nil => intro cs _; cases cs <;> rfl
   | cons x vs ih =>
     intro cs h
     cases cs with
     | nil => have := h 0 x rfl; simp at this
     | cons y cs =>
       have h0 := h 0 x rfl
       simp at h0; subst h0
       have := ih cs (fun k u hu => by simpa using h (k + 1) u (by simpa using hu))
       simp only [List.length_cons, takeL, this]
 have h2 := key vs (dropL o' c.toList) (fun k u hu => by
   rw [dropL_eq, List.getElem?_drop]
   simpa using h k u hu)
 rw [hq] at h2
 simp only [rd, h2]
end
end Go.Vc
namespace Go.Vc
section
variable {P : Program} {w0 : World} {n : Nat} {sh : Shared} {Q : Exit → Env → List Deferred → List Asn → Prop} {k : List Item} {ρ : Env} {df : List Deferred} {Γ : List Asn} {hF : Heap}
variable {ops : Array Oper} {l : List (Fl × Nat × Oper)} {b : Fl} {i d : Nat} {ty : TypeId} {pos : String} {aft : Array Edge}
variable {x y : Operand} {t e : TypeId} {N cap bb : Nat} {D : Array Int} {z v : Int}
def Dat (e : TypeId) (bb N cap : Nat) (D : Array Int) : Asn := SlA e 1 (some ⟨bb, 0, none⟩) N cap (intsV D.toList)
theorem Dat.size {h : Heap} (hA : Dat e bb N cap D h) : D.size = N := by
 have := (SlA_len hA).1
 simpa [intsV] using this
theorem intsV_get {o : Nat} (h : o < D.size) : (intsV D.toList)[o]? = some (.int .i64 D[o]!) := by
 simp [intsV, h]
theorem wr_one_at : ∀ (cs : List Value) (o : Nat) (u : Value), o < cs.length → wr [u] o cs = some (cs.set o u)
 | [], o, u, h => by simp at h
 | c :: cs, 0, u, _ => by simp [wr, over]
 | c :: cs, o + 1, u, h => by
   simp only [wr, wr_one_at cs o u (by simpa using h), List.set_cons_succ]
theorem reg_load_d (j : Nat) [hT : TShape P t false 1] (hx : ev ρ x = .pointer (some ⟨bb, 0 + z.toNat * 1, none⟩)) (hj : getAt j Γ = some (Dat e bb N cap D)) (hz : 0 ≤ z ∧ z < N)
   (h : Reg P w0 n sh Q ops l k (ρ.set d (.int .i64 D[z.toNat]!)) df Γ) (hb : notQuiet b = true := by rfl) : Reg P w0 n sh Q ops ((b, i, ⟨some d, .load t x, ty, pos, aft, none⟩) :: l) k ρ df Γ := by
 refine reg_read rfl hb (fun hF _ w hst => ?_) h
 obtain ⟨r, hp⟩ := getAt_perm hj
 obtain ⟨g, hA, hB⟩ := (hst.perm hp).head
 have hs := hA.size
 obtain ⟨b', spare, h1, h2, h3, h4, h5⟩ := SlA.some_iff.1 hA
 have hb : bb = b' := by injection h1
 subst hb
 refine ⟨w, load_of hT hx (hB _ h5).get.2 ?_, hst⟩
 have hr : rd false 1 (intsV D.toList) (0 + z.toNat * 1) = some (.int .i64 D[z.toNat]!) := by
   show nth _ _ = _
   rw [nth_eq, Nat.zero_add, Nat.mul_one]; exact intsV_get (by omega)
 simpa using rd_append (sp := spare) hr (fun h => by cases h)
theorem reg_store_d (j : Nat) {Γ' : List Asn} {dst : Option Tmp} [hT : TShape P t false 1] (hx : ev ρ x = .pointer (some ⟨bb, 0 + z.toNat * 1, none⟩)) (hv : ev ρ y = .int .i64 v) (hj : getAt j Γ = some (Dat e bb N cap D)) (hz : 0 ≤ z ∧ z < N)
   (hput : putAt j (Dat e bb N cap (D.setIfInBounds z.toNat v)) Γ = some Γ')
   (h : Reg P w0 n sh Q ops l k (ρ.setO dst undef) df Γ') : Reg P w0 n sh Q ops ((Fl.loud, i, ⟨dst, .store t x y, ty, pos, aft, none⟩) :: l) k ρ df Γ := by
 refine reg_loud rfl (fun v' df' Γ'' => v' = undef ∧ df' = df ∧ Γ'' = Γ') (fun hF _ w hst => ?_) (fun v' df' Γ'' ⟨h1, h2, h3⟩ => by subst h1; subst h2; subst h3; exact h)
 obtain ⟨r, hst1, hback⟩ := hst.at hj
 obtain ⟨g, hA, hB⟩ := hst1.head
 have hs := hA.size
 obtain ⟨b', spare, h1, h2, h3, h4, h5⟩ := SlA.some_iff.1 hA
 have hb : bb = b' := by injection h1
 subst hb
 have hst2 := hB _ h5
 have hw : wr [.int .i64 v] (0 + z.toNat * 1) (intsV D.toList) = some (intsV (D.setIfInBounds z.toNat v).toList) := by
   rw [wr_one_at _ _ _ (by simp [intsV]; omega), Nat.zero_add, Nat.mul_one]
   simp [intsV, List.map_set]
 obtain ⟨w', g1, g2, g3, g4, g5, g6, g7⟩ := run_storeVar (P := P) (off := 0 + z.toNat * 1) (v := ev ρ y) (t := t) (vs := [.int .i64 v]) (n := 1) hst2.get.2 (by rw [hv]; rfl) rfl rfl (by have := wr_append (sp := spare) hw; simpa using this)
 simp only [execOp, hx, Instr.storeAt, Instr.sureAddr, Sem.run_bind, Sem.run_pure, Result.andThen_ok, g1]
 have hl' : (intsV (D.setIfInBounds z.toNat v).toList).length = (intsV D.toList).length := by simp [intsV]
 obtain ⟨Γ'', h7, h8⟩ := hback (Dat e bb N cap (D.setIfInBounds z.toNat v)) w' ((hst2.upd g5 g6 g7 g3 g2 g4).exch fun g hg => SlA.some_iff.2 ⟨bb, spare, rfl, by rw [hl']; exact h2, h3, by rw [hl']; exact h4, by rw [Array.toList_setIfInBounds]; exact hg⟩)
 rw [hput] at h7
 cases h7
 exact ⟨Γ', ⟨rfl, rfl, rfl⟩, h8⟩
end
end Go.Vc
namespace Go.Vc
section
variable {P : Program} {w0 : World} {n : Nat} {sh : Shared} {Q : Exit → Env → List Deferred → List Asn → Prop} {k : List Item} {ρ : Env} {df : List Deferred} {Γ : List Asn} {hF : Heap}
variable {ops : Array Oper} {l : List (Fl × Nat × Oper)} {b : Fl} {i d : Nat} {ty : TypeId} {pos : String} {aft : Array Edge}
variable {x y : Operand} {t yt : TypeId} {ky kd : IntKind} {X Y : Nat} {z : Int}
theorem reg_shl_u64 (s c : Nat) (hx : ev ρ x = .int .u64 (X : Int)) (hy : ev ρ y = .int ky z) (hz : z = s) (hs : s ≤ 64) (hc : 2 ^ s = c)
   (h : Reg P w0 n sh Q ops l k (ρ.set d (.int .u64 ((X * c % 18446744073709551616 : Nat) : Int))) df Γ) :
   Reg P w0 n sh Q ops ((b, i, ⟨some d, .binOp .shl t x y yt, ty, pos, aft, none⟩) :: l) k ρ df Γ :=
 reg_quiet rfl (fun hF _ => quiet_of_run fun w => by
   subst hz
   have h1 : ¬ ((s : Int) < 0) := by omega
   have h2 : min (s : Int).toNat IntKind.u64.bits = s := by
     have : IntKind.u64.bits = 64 := rfl
     rw [this]; omega
   have h3 : IntKind.u64.wrap ((X : Int) * 2 ^ s) = ((X * c % 18446744073709551616 : Nat) : Int) := by
     rw [IntKind.wrap_u64, ← hc, Int.natCast_emod, Int.natCast_mul, Int.natCast_pow]; rfl
   have e : binOp .shl t (.int .u64 (X : Int)) (.int ky (s : Int)) = pure (.int .u64 ((X * c % 18446744073709551616 : Nat) : Int)) := by
     show Op.shift .shl .u64 (X : Int) ky (s : Int) = _
     simp only [Op.shift, if_neg h1, h2, h3]
   simp [execOp, hx, hy, e, eqGuard]) h
theorem reg_shr_u64 (s c : Nat) (hx : ev ρ x = .int kd (X : Int)) (hy : ev ρ y = .int ky z) (hz : z = s) (hs : s ≤ kd.bits) (hc : 2 ^ s = c)
   (h : Reg P w0 n sh Q ops l k (ρ.set d (.int kd ((X / c : Nat) : Int))) df Γ) :
   Reg P w0 n sh Q ops ((b, i, ⟨some d, .binOp .shr t x y yt, ty, pos, aft, none⟩) :: l) k ρ df Γ :=
 reg_quiet rfl (fun hF _ => quiet_of_run fun w => by
   subst hz
   have h1 : ¬ ((s : Int) < 0) := by omega
   have h2 : min (s : Int).toNat kd.bits = s := by omega
   have h3 : (X : Int).fdiv (2 ^ s) = ((X / c : Nat) : Int) := by
     have hp : (0 : Int) < 2 ^ s := Int.pow_pos (by decide)
     rw [← hc, Int.fdiv_eq_ediv_of_nonneg _ (Int.le_of_lt hp)]; push_cast; rfl
   have e : binOp .shr t (.int kd (X : Int)) (.int ky (s : Int)) = pure (.int kd ((X / c : Nat) : Int)) := by
     show Op.shift .shr kd (X : Int) ky (s : Int) = _
     simp only [Op.shift, if_neg h1, h2, h3]
   simp [execOp, hx, hy, e, eqGuard]) h
theorem reg_xor_u64 (hx : ev ρ x = .int .u64 (X : Int)) (hy : ev ρ y = .int .u64 (Y : Int)) (hX : X < 18446744073709551616) (hY : Y < 18446744073709551616)
   (h : Reg P w0 n sh Q ops l k (ρ.set d (.int .u64 ((X ^^^ Y : Nat) : Int))) df Γ) :
   Reg P w0 n sh Q ops ((b, i, ⟨some d, .binOp .xor t x y yt, ty, pos, aft, none⟩) :: l) k ρ df Γ :=
 reg_quiet rfl (fun hF _ => quiet_of_run fun w => by
   have e : binOp .xor t (.int .u64 (X : Int)) (.int .u64 (Y : Int)) = pure (.int .u64 ((X ^^^ Y : Nat) : Int)) := by
     show (pure (Value.int .u64 (bits .xor .u64 (X : Int) (Y : Int))) : Sem Value) = _
     rw [bits_xor_u64_nat X Y hX hY]
   simp [execOp, hx, hy, e, eqGuard]) h
theorem reg_and_u64 (hx : ev ρ x = .int .u64 (X : Int)) (hy : ev ρ y = .int .u64 (Y : Int)) (hX : X < 18446744073709551616) (hY : Y < 18446744073709551616)
   (h : Reg P w0 n sh Q ops l k (ρ.set d (.int .u64 ((X &&& Y : Nat) : Int))) df Γ) :
   Reg P w0 n sh Q ops ((b, i, ⟨some d, .binOp .and t x y yt, ty, pos, aft, none⟩) :: l) k ρ df Γ :=
 reg_quiet rfl (fun hF _ => quiet_of_run fun w => by
   have e : binOp .and t (.int .u64 (X : Int)) (.int .u64 (Y : Int)) = pure (.int .u64 ((X &&& Y : Nat) : Int)) := by
     show (pure (Value.int .u64 (bits .and .u64 (X : Int) (Y : Int))) : Sem Value) = _
     rw [bits_and_u64_nat X Y hX hY]
   simp [execOp, hx, hy, e, eqGuard]) h
theorem reg_convN {src dst : TypeId} {sd : TypeDesc} {kd' : IntKind} (m : Int) [hs : TUnd P src sd] [hd : TUnd P dst (.int kd')] (hx : ev ρ x = .int kd z) (hm : kd'.wrap z = m)
   (h : Reg P w0 n sh Q ops l k (ρ.set d (.int kd' m)) df Γ) : Reg P w0 n sh Q ops ((b, i, ⟨some d, .convert src dst x, ty, pos, aft, none⟩) :: l) k ρ df Γ :=
 zca hx (by rw [hm]; exact h)
theorem reg_index_str {s : ByteArray} {c : UInt8} [hT : TUnd P t .string] (hx : ev ρ x = .string s) (hy : ev ρ y = .int kd z) (hz : 0 ≤ z) (hc : s[z.toNat]? = some c)
   (h : Reg P w0 n sh Q ops l k (ρ.set d (.int .u8 (c.toNat : Int))) df Γ) : Reg P w0 n sh Q ops ((b, i, ⟨some d, .index t x y, ty, pos, aft, none⟩) :: l) k ρ df Γ :=
 reg_quiet rfl (fun hF _ => quiet_of_run fun w => by
   simp [execOp, hx, hy, Instr.index, run_underlying hT.und, if_pos hz, hc, asIntOf]) h
end
end Go.Vc
namespace Go.Vc
def bldA (sz : Nat) : List Value → List (Nat × Value) → Option (List Value)
 | cs, [] => some cs
 | cs, (i, v) :: rest => if (cellsL v).length = sz then (match wr (cellsL v) (i * sz) cs with | some cs' => bldA sz cs' rest | none => none) else none
theorem bldA_fill {sz : Nat} : ∀ (parts : List (Nat × Value)) (cs : List Value) (cs' : List Value), bldA sz cs parts = some cs' → Instr.fill (fun i => some (i * sz, sz)) cs.toArray parts = some cs'.toArray
 | [], cs, cs', h => by simp [bldA] at h; subst h; rfl
 | (i, v) :: rest, cs, cs', h => by
   simp only [bldA] at h
   simp only [Instr.fill]
   split at h
   · rename_i hsz
     split at h
     · rename_i cs2 hw
       obtain ⟨h1, h2⟩ := wr_eq _ _ _ _ hw
       have e1 : v.cells.size = sz := by rw [cellsL_eq]; simpa using hsz
       have e2 : ¬ (i * sz + v.cells.size > cs.toArray.size) := by rw [cellsL_eq]; simp; omega
       simp only [e1, ne_eq, not_true_eq_false, decide_false, Bool.false_or]
       rw [if_neg (by rw [← e1]; simpa [e1] using e2)]
       have e3 : (v.cells.zipIdx.foldl (fun cs (c, j) => cs.setIfInBounds (i * sz + j) c) cs.toArray) = cs2.toArray := by
         apply Array.ext'
         rw [cellsL_eq, h1]
         have := foldl_set (cellsL v) (i * sz) cs.toArray (by simpa using h2)
         simpa [← Array.foldl_toList] using this
       rw [e3]
       exact bldA_fill rest cs2 cs' h
     · cases h
   · cases h
section
variable {P : Program} {w0 : World} {n : Nat} {sh : Shared} {Q : Exit → Env → List Deferred → List Asn → Prop} {k : List Item} {ρ : Env} {df : List Deferred} {Γ : List Asn} {hF : Heap}
variable {ops : Array Oper} {l : List (Fl × Nat × Oper)} {b : Fl} {i d : Nat} {ty : TypeId} {pos : String} {aft : Array Edge}
variable {x y : Operand} {t e T : TypeId} {agg : Bool} {sz len cap bb : Nat} {cs z : List Value} {v : Value} {kd : IntKind} {ix : Int} {a : Option Addr}
theorem zex {ps : Array (Nat × Operand)} [hT : TUnd P t (.array len e)] [hS : TShape P e agg sz] [hZ : TZero P t z] (hb : bldA sz z (ps.toList.map fun p => (p.1, ev ρ p.2)) = some cs)
   (h : Reg P w0 n sh Q ops l k (ρ.set d (.agg (List.toArray cs))) df Γ) : Reg P w0 n sh Q ops ((b, i, ⟨some d, .build t ps, ty, pos, aft, none⟩) :: l) k ρ df Γ :=
 reg_quiet rfl (fun hF _ => quiet_of_run fun w => by
   obtain ⟨z', h1, h2⟩ := hZ.zero_run w
   have e1 : (ps.map fun (i, x) => (i, ev ρ x)).toList = ps.toList.map fun p => (p.1, ev ρ p.2) := by simp
   have e2 := bldA_fill _ _ _ hb
   simp only [execOp, Instr.build, Sem.run_bind, h1, h2, Result.andThen_ok, run_underlying hT.und, hS.size_run, Sem.run_pure, e1]
   rw [e2]
   rfl) h
theorem zea [hT : TUnd P t (.array len e)] [hS : TShape P e agg sz] (hx : ev ρ x = .agg (List.toArray cs)) (hy : ev ρ y = .int kd ix) (hb : 0 ≤ ix ∧ ix < (len : Int)) (hr : rd agg sz cs (ix.toNat * sz) = some v)
   (h : Reg P w0 n sh Q ops l k (ρ.set d v) df Γ) : Reg P w0 n sh Q ops ((b, i, ⟨some d, .index t x y, ty, pos, aft, none⟩) :: l) k ρ df Γ :=
 reg_quiet rfl (fun hF _ => quiet_of_run fun w => by
   simp only [execOp, hx, hy, Instr.index, asIntOf, Sem.run_bind, Sem.run_pure, Result.andThen_ok, run_underlying hT.und]
   rw [if_pos hb]
   simp only [Sem.run_bind, hS.size_run, Result.andThen_ok, part, hS.agg_run]
   cases agg with
   | true =>
     simp only [rd] at hr
     split at hr
     · rename_i l hl
       obtain ⟨h1, h2⟩ := takeL_eq _ _ _ hl
       rw [dropL_eq] at h1 h2
       simp only [Option.some.injEq] at hr
       subst hr
       simp only [if_true, Sem.run_bind, hS.size_run, Result.andThen_ok, Sem.run_pure]
       subst h1
       refine congrArg (fun z => Result.ok (Next.value (Value.agg z)) w) ?_
       apply Array.ext'
       simp [List.take_drop]
     · cases hr
   | false =>
     simp only [rd, nth_eq] at hr
     have : (cs.toArray)[ix.toNat * sz]? = some v := by simpa using hr
     simp [this]) h
end
theorem run_bind_eq2 {P : Program} {w0 : World} {n : Nat} {sh : Shared} {Q : Exit → Env → List Deferred → List Asn → Prop} {k : List Item} {ρ : Env} {df : List Deferred} {Γ : List Asn} {σ : Type} {c : Code} {l' : σ → List (Nat × Value)} {Γ' : σ → List Asn}
   (h : Run P w0 n sh (cutE P w0 n sh Q k fun ρ' df' Γ2 => df' = df ∧ ∃ st, AllAt ρ' (l' st) ∧ Γ2 = Γ' st) [.code c] ρ df Γ)
   (hk : ∀ st junk, Run P w0 n sh Q k (mkE (l' st) junk) df (Γ' st)) : Run P w0 n sh Q (.code c :: k) ρ df Γ :=
 run_cut _ h fun ρ' df' Γ2 ⟨h1, st, h2, h3⟩ => by
   subst h1; subst h3
   have := hk st ρ'
   rwa [mkE_self h2] at this
end Go.Vc
namespace Go.Vc
section
variable {P : Program} {w0 : World} {n : Nat} {sh : Shared} {Q : Exit → Env → List Deferred → List Asn → Prop} {k : List Item} {ρ : Env} {df : List Deferred} {Γ : List Asn} {hF : Heap}
variable {ops : Array Oper} {l : List (Fl × Nat × Oper)} {b : Fl} {i d : Nat} {ty : TypeId} {pos : String} {aft : Array Edge}
variable {x y : Operand} {t e T : TypeId} {agg : Bool} {len cap bb : Nat} {cs : List Value}
end
end Go.Vc
namespace Go.Vc
section
variable {P : Program} {w0 : World} {n : Nat} {sh : Shared} {Q : Exit → Env → List Deferred → List Asn → Prop} {k : List Item} {ρ : Env} {df : List Deferred} {Γ : List Asn} {hF : Heap}
variable {ops : Array Oper} {l : List (Fl × Nat × Oper)} {b : Fl} {i d : Nat} {ty : TypeId} {pos : String} {aft : Array Edge}
variable {x y : Operand} {t kt et : TypeId} {r : Nat} {ml : List (Int × Value)}
end
end Go.Vc
namespace Go.Vc
section
variable {P : Program} {w0 : World} {n : Nat} {sh : Shared} {Q : Exit → Env → List Deferred → List Asn → Prop} {k : List Item} {ρ : Env} {df : List Deferred} {Γ : List Asn} {hF : Heap}
variable {fn : Func} {R : Value → List Asn → Prop}
theorem LstA.ofSl {T : TypeId} {a : Option Addr} {cap : Nat} {l : List Int} : ∀ g, SlA T 1 a l.length cap (intsV l) g → LstA T (.slice a l.length cap) l g := fun _ h => ⟨a, cap, rfl, h⟩
end
end Go.Vc
namespace Go.Vc
section
variable {P : Program} {w0 : World} {n : Nat} {sh : Shared} {Q : Exit → Env → List Deferred → List Asn → Prop} {k : List Item} {ρ : Env} {df : List Deferred} {Γ : List Asn}
end
end Go.Vc
namespace Go.Vc
section
variable {P : Program} {w0 : World} {n : Nat} {sh : Shared} {Q : Exit → Env → List Deferred → List Asn → Prop} {k : List Item} {ρ : Env} {df : List Deferred} {Γ : List Asn} {hF : Heap}
variable {ops : Array Oper} {l : List (Fl × Nat × Oper)} {b : Fl} {i d : Nat} {ty : TypeId} {pos : String} {aft : Array Edge}
variable {x y : Operand} {t T e : TypeId} {agg : Bool} {m sz len cap : Nat} {cs : List Value} {a : Option Addr} {v : Value}
variable {f : FuncId} {args : List Value} {Γp Γr : List Asn} {R : Value → List Asn → Prop} {shf : Shared} {cargs : Array Operand} {ats : Array TypeId} {fo : Operand}
class TMeth (P : Program) (t : TypeId) (v : Value) (name : String) (f : outParam FuncId) : Prop where
 meth : ∀ w, (method (P.types.size + Made.depth) t v name).run P w = .ok (f, v) w
theorem opW_invoke {dst : Option Tmp} {name : String} [hm : TMeth P t v name f] (hfo : ev ρ fo = .iface t v) (spec : Fn P w0 shf f args Γp R) (hargs : v :: cargs.toList.map (ev ρ) = args)
   {is : List Nat} (hp : pick is Γ = some (Γp, Γr)) (hsh : Vc.Sh shf hF) :
   OpW P w0 hF ⟨dst, .call ⟨.invoke fo name, cargs, ats⟩, ty, pos, aft, none⟩ ρ df Γ fun v df' Γ' => ∃ Γ'', R v Γ'' ∧ df' = df ∧ Γ' = Γ'' ++ Γr := by
 intro w hst
 have e1 : #[v] ++ cargs.map (ev ρ) = args.toArray := by
   rw [← hargs]; apply Array.ext'; simp
 have he : (callFunc f args.toArray).run P w = .ok (.enter f args.toArray) w := spec.enters _ _
 have e2 : (#[Value.iface t v] ++ cargs.map (ev ρ)).extract 1 (#[Value.iface t v] ++ cargs.map (ev ρ)).size = cargs.map (ev ρ) := by
   apply Array.ext'; simp [List.take_of_length_le]
 have e3 : (#[Value.iface t v] ++ cargs.map (ev ρ))[0]? = some (Value.iface t v) := by rw [Array.getElem?_append_left (by simp)]; rfl
 have hprog : ∀ w, (program).run P w = .ok P w := fun w => rfl
 simp only [execOp, resolve, hfo, Sem.run_bind, Sem.run_pure, Result.andThen_ok, invoke, e2, e3, callMethod, hprog, hm.meth, e1, he]
 obtain ⟨g, hg, hd, hst1⟩ := (hst.perm (pick_perm hp)).split
 have hsh1 : Vc.Sh shf (g.or hF) := fun p hp => by
   have := hsh p hp
   rcases hd p.1 with e | e
   · simp [Heap.or, e, this]
   · rw [e] at this; cases this
 exact (spec.calls _ w hsh1 hst1).mono fun e w' ⟨v, Γ', he, hR, hst'⟩ => ⟨v, Γ' ++ Γr, he, ⟨Γ', hR, rfl, rfl⟩, hst'.join hg hd⟩
theorem reg_invoke (is : List Nat) {dst : Option Tmp} {name : String} [hm : TMeth P t v name f] (spec : Fn P w0 shf f args Γp R) (hfo : ev ρ fo = .iface t v) (hargs : v :: cargs.toList.map (ev ρ) = args)
   (hp : pick is Γ = some (Γp, Γr)) (hsh : ∀ p ∈ shf, p ∈ sh) (h : ∀ v Γ', R v Γ' → Reg P w0 n sh Q ops l k (ρ.setO dst v) df (Γ' ++ Γr)) :
   Reg P w0 n sh Q ops ((Fl.loud, i, ⟨dst, .call ⟨.invoke fo name, cargs, ats⟩, ty, pos, aft, none⟩) :: l) k ρ df Γ :=
 reg_loud rfl _ (fun hF hs => opW_invoke hfo spec hargs hp (fun p hp => hs p (hsh p hp))) (fun v df' Γ' ⟨Γ'', hR, h2, h3⟩ => by subst h2; subst h3; exact h v Γ'' hR)
theorem zey (is : List Nat) {dst : Option Tmp} {name : String} {u : Value} {Γ' Γ2 : List Asn} [hm : TMeth P t v name f] (spec : FnE P w0 shf f args Γp u Γ') (hfo : ev ρ fo = .iface t v) (hargs : v :: cargs.toList.map (ev ρ) = args)
   (hp : pick is Γ = some (Γp, Γr)) (hsh : ∀ p ∈ shf, p ∈ sh) (happ : Γ' ++ Γr = Γ2) (h : Reg P w0 n sh Q ops l k (ρ.setO dst u) df Γ2) :
   Reg P w0 n sh Q ops ((Fl.loud, i, ⟨dst, .call ⟨.invoke fo name, cargs, ats⟩, ty, pos, aft, none⟩) :: l) k ρ df Γ :=
 reg_invoke is spec hfo hargs hp hsh (fun v' Γ'' ⟨h1, h2⟩ => by subst h1; subst h2; rw [happ]; exact h)
theorem reg_shr {kd kd' : IntKind} {u : Int} {q : Nat} {t2 : TypeId} (hx : ev ρ x = .int kd u) (hy : ev ρ y = .int kd' (q : Int)) (hq : q ≤ kd.bits) (h : Reg P w0 n sh Q ops l k (ρ.set d (.int kd (u / 2 ^ q))) df Γ) :
   Reg P w0 n sh Q ops ((b, i, ⟨some d, .binOp .shr t x y t2, ty, pos, aft, none⟩) :: l) k ρ df Γ :=
 reg_quiet rfl (fun hF _ => quiet_of_run fun w => by
   have e : u.fdiv (2 ^ q) = u / 2 ^ q := Int.fdiv_eq_ediv_of_nonneg _ (Int.le_of_lt (Int.pow_pos (by decide)))
   have e2 : min ((q : Int)).toNat kd.bits = q := by rw [Int.toNat_natCast]; exact Nat.min_eq_left hq
   have e3 : ¬ ((q : Int) < 0) := by omega
   simp only [execOp, hx, hy, eqGuard, binOp, Op.shift, Sem.run_bind, Sem.run_pure, Result.andThen_ok, e2, if_neg e3, e, Bool.not_false, if_true]) h
theorem reg_nilI {u : Value} (hx : ev ρ x = .iface t u) (h : Reg P w0 n sh Q ops l k (ρ.set d (.iface t u)) df Γ) :
   Reg P w0 n sh Q ops ((b, i, ⟨some d, .nilCheck x, ty, pos, aft, none⟩) :: l) k ρ df Γ :=
 reg_quiet rfl (fun hF _ => quiet_of_run fun w => by simp only [execOp, hx]; rfl) h
end
end Go.Vc
namespace Go.Vc
section
variable {P : Program} {w0 : World} {n : Nat} {sh : Shared} {Q : Exit → Env → List Deferred → List Asn → Prop} {k : List Item} {ρ : Env} {df : List Deferred} {Γ : List Asn} {hF : Heap}
variable {ops : Array Oper} {l : List (Fl × Nat × Oper)} {b : Fl} {i d : Nat} {ty : TypeId} {pos : String} {aft : Array Edge}
variable {x y : Operand} {t e : TypeId} {N cap bb : Nat} {D : Array (Int × Int)} {z : Int} {v : Int × Int}
def prsV (l : List (Int × Int)) : List Value := l.flatMap fun q => [.int .i64 q.1, .int .i64 q.2]
theorem prsV_cons (q : Int × Int) (l : List (Int × Int)) : prsV (q :: l) = .int .i64 q.1 :: .int .i64 q.2 :: prsV l := by simp [prsV]
theorem prsV_len : ∀ (l : List (Int × Int)), (prsV l).length = l.length * 2
 | [] => rfl
 | q :: l => by rw [prsV_cons, List.length_cons, List.length_cons, prsV_len l, List.length_cons]; omega
def Dat2 (e : TypeId) (bb N cap : Nat) (D : Array (Int × Int)) : Asn := SlA e 2 (some ⟨bb, 0, none⟩) N cap (prsV D.toList)
theorem Dat2.size {h : Heap} (hA : Dat2 e bb N cap D h) : D.size = N := by
 have := (SlA_len hA).1
 rw [prsV_len] at this
 simp only [Array.length_toList] at this
 omega
end
end Go.Vc
