import Derived.Laws.Bits64
import Derived.Laws.Bits64b
import Derived.Laws.Strings
import Derived.Laws.Strings2
import Derived.Laws.Cover1
import Derived.Laws.Concat
import Derived.Laws.Slices
import Derived.Laws.StructEq
import Derived.Sort.AssemblyPlain
import Derived.Lib.ConvBytes
import Derived.Lib.UnsafeStr
import Derived.Sort.Grow
import Derived.Deep.Draws
import Derived.Laws.IdiomStrings
import Derived.RangeFuncIn
import Derived.RangeFuncRecord
import Derived.Test.YtgdhcgnmffgkiaaGreatDoorKitA
/- Own work: lemmas of this claim. -/
namespace Go.Vc
section
variable {P : Program} {w0 : World} {n : Nat} {sh : Shared} {Q : Exit → Env → List Deferred → List Asn → Prop} {k : List Item} {ρ : Env} {df : List Deferred} {Γ : List Asn} {hF : Heap}
variable {α : Type} {encE : α → List Value} {m : Nat} {v : Value} {l : List α}
def RdSl (w0 : World) (sh : Shared) (encE : α → List Value) (m : Nat) (v : Value) (l : List α) : Prop :=
 ∃ a cap, v = .slice a l.length cap ∧ l.length ≤ cap ∧ (l = [] ∨ ∃ b off c T fr, a = some ⟨b, off, none⟩ ∧ (∀ hF Γ w, Sh sh hF → St w0 hF Γ w → w.heap[b]? = some (.cells c T fr)) ∧
   ∀ (i : Nat) (x : α), l[i]? = some x → (encE x).length = m ∧ ∀ k u, (encE x)[k]? = some u → c[off + (i * m + k)]? = some u)
theorem InSl.rd (h : InSl w0 encE m v l) : RdSl w0 sh encE m v l := by
 obtain ⟨a, cap, h1, h2, h3⟩ := h
 refine ⟨a, cap, h1, h2.1, h3.imp id fun ⟨b, off, c, T, fr, e, hh, hc⟩ => ⟨b, off, c, T, fr, e, fun hF Γ w _ hst => ?_, hc⟩⟩
 rw [hst.base (Array.getElem?_eq_some_iff.1 hh).1]; exact hh
theorem RdSl.mono {sh' : Shared} (h : RdSl w0 sh encE m v l) (hs : ∀ p ∈ sh, p ∈ sh') : RdSl w0 sh' encE m v l := by
 obtain ⟨a, cap, h1, h0, h3⟩ := h
 exact ⟨a, cap, h1, h0, h3.imp id fun ⟨b, off, c, T, fr, e, hh, hc⟩ => ⟨b, off, c, T, fr, e, fun hF Γ w hsh hst => hh hF Γ w (fun p hp => hsh p (hs p hp)) hst, hc⟩⟩
theorem RdSl.nil {a : Option Addr} {cap : Nat} : RdSl w0 sh encE m (.slice a 0 cap) ([] : List α) := ⟨a, cap, rfl, Nat.zero_le _, .inl rfl⟩
abbrev encI : Int → List Value := fun x => [.int .i64 x]
def intsV (l : List Int) : List Value := l.map (Value.int .i64)
theorem RdSl.ints {b cap : Nat} {l : List Int} {spare : List Value} {T : TypeId} {fr : Nat × Nat} (hm : (b, Obj.cells (List.toArray (intsV l ++ spare)) T fr) ∈ sh) (hcap : l.length ≤ cap) : RdSl w0 sh encI 1 (.slice (some ⟨b, 0, none⟩) l.length cap) l := by
 refine ⟨_, _, rfl, hcap, .inr ⟨b, 0, _, T, fr, rfl, fun hF Γ w hsh hst => (hst.frame (hsh _ hm)).2, fun i x hx => ⟨rfl, fun k u hu => ?_⟩⟩⟩
 have hk : k = 0 := by have := (List.getElem?_eq_some_iff.1 hu).1; simp at this; omega
 subst hk
 simp at hu; subst hu
 have hil := (List.getElem?_eq_some_iff.1 hx).1
 simp only [Nat.mul_one, Nat.add_zero, Nat.zero_add, List.getElem?_toArray]
 rw [List.getElem?_append_left (by simp [intsV]; exact hil), intsV, List.getElem?_map, hx]; rfl
theorem rd_one {c : Array Value} {o : Nat} {u : Value} (h : c[o]? = some u) (o' : Nat) (ho : o' = o) : rd false 1 c.toList o' = some u := by
 subst ho
 show nth c.toList _ = _
 rw [nth_eq]; simpa using h
theorem RdSl.at {l : List Int} {a : Option Addr} {cap len : Nat} (h : RdSl w0 sh encI 1 (.slice a len cap) l) {i : Nat} {x : Int} (hx : l[i]? = some x) :
   ∃ b off c T fr, a = some ⟨b, off, none⟩ ∧ (∀ hF Γ w, Sh sh hF → St w0 hF Γ w → w.heap[b]? = some (.cells c T fr)) ∧ ∀ o, o = off + i * 1 → rd false 1 c.toList o = some (.int .i64 x) := by
 obtain ⟨a', cap', h1, _, h2⟩ := h
 cases h1
 have hne : l ≠ [] := by intro e; subst e; simp at hx
 obtain ⟨b, off, c, T, fr, e, hh, hc⟩ := h2.resolve_left hne
 exact ⟨b, off, c, T, fr, e, hh, fun o ho => rd_one ((hc i x hx).2 0 _ rfl) o (by omega)⟩
theorem RdSl.len {a : Option Addr} {cap len : Nat} (h : RdSl w0 sh encE m (.slice a len cap) l) : len = l.length := by
 obtain ⟨a', cap', h1, _, h2⟩ := h; cases h1; rfl
theorem RdSl.cap {a : Option Addr} {cap len : Nat} (h : RdSl w0 sh encE m (.slice a len cap) l) : len ≤ cap := by
 obtain ⟨a', cap', h1, h0, h2⟩ := h; cases h1; exact h0
theorem RdSl.take {l : List Int} {b off cap len : Nat} (h : RdSl w0 sh encI 1 (.slice (some ⟨b, off, none⟩) len cap) l) (hne : l ≠ []) :
   ∃ c T fr, (∀ hF Γ w, Sh sh hF → St w0 hF Γ w → w.heap[b]? = some (.cells (List.toArray c) T fr)) ∧ (c.drop off).take l.length = intsV l ∧ off + l.length ≤ c.length := by
 obtain ⟨a', cap', h1, _, h2⟩ := h
 obtain ⟨b', off', c, T, fr, e, hh, hc⟩ := h2.resolve_left hne
 cases h1
 cases e
 have key : ∀ i x, l[i]? = some x → c.toList[off + i]? = some (.int .i64 x) := fun i x hx => by
   have := (hc i x hx).2 0 _ rfl
   simpa using this
 have hle : off + l.length ≤ c.toList.length := by
   cases hl : l.length with
   | zero => exact absurd (List.length_eq_zero_iff.1 hl) hne
   | succ q =>
     have hx : l[q]? = some l[q] := List.getElem?_eq_getElem (by omega)
     have := (List.getElem?_eq_some_iff.1 (key q _ hx)).1
     omega
 refine ⟨c.toList, T, fr, fun hF Γ w h1 h2 => by simpa using hh hF Γ w h1 h2, ?_, hle⟩
 apply List.ext_getElem?
 intro i
 by_cases hi : i < l.length
 · have hx : l[i]? = some l[i] := List.getElem?_eq_getElem hi
   rw [List.getElem?_take, if_pos hi, List.getElem?_drop, key i _ hx, intsV, List.getElem?_map, hx]; rfl
 · rw [List.getElem?_eq_none (by simp; omega), List.getElem?_eq_none (by simp [intsV]; omega)]
variable {ops : Array Oper} {rest : List (Fl × Nat × Oper)} {b : Fl} {i d : Nat} {ty : TypeId} {pos : String} {aft : Array Edge} {x y : Operand}
theorem zad {t T : TypeId} {agg : Bool} {q bb off : Nat} {c : Array Value} {fr : Nat × Nat} {u : Value} [hT : TShape P t agg q] (hx : ev ρ x = .pointer (some ⟨bb, off, none⟩))
   (hm : ∀ hF Γ w, Sh sh hF → St w0 hF Γ w → w.heap[bb]? = some (.cells c T fr)) (hr : rd agg q c.toList off = some u)
   (h : Reg P w0 n sh Q ops rest k (ρ.set d u) df Γ) : Reg P w0 n sh Q ops ((b, i, ⟨some d, .load t x, ty, pos, aft, none⟩) :: rest) k ρ df Γ :=
 reg_quiet rfl (fun hF hsh w Γ hst => ⟨w, load_of hT hx (hm hF Γ w hsh hst) hr, hst⟩) h
theorem reg_slice2 {t e : TypeId} {agg : Bool} {sz : Nat} {a : Option Addr} {len cap : Nat} {hi : Operand} {h' : Int} [hT : TUnd P t (.slice e)] [hS : TShape P e agg sz] (hx : ev ρ x = .slice a len cap) (hh : ev ρ hi = .int .i64 h') (hb : 0 ≤ h' ∧ h' ≤ cap)
   (h : Reg P w0 n sh Q ops rest k (ρ.set d (.slice a h'.toNat cap)) df Γ) : Reg P w0 n sh Q ops ((b, i, ⟨some d, .slice t x none (some hi) none, ty, pos, aft, none⟩) :: rest) k ρ df Γ :=
 reg_quiet rfl (fun hF _ => quiet_of_run fun w => by
   obtain ⟨h0, h1⟩ := hb
   simp only [execOp, hx, Option.map_some, Option.map_none, hh, Instr.sliceAt, Instr.slice, Sem.run_bind, run_underlying hT.und, Result.andThen_ok, Instr.sliceBounds, Instr.sliceBound, asIntOf, Sem.run_pure]
   simp only [h0, h1, and_self, if_true, Sem.run_pure, Result.andThen_ok, hS.size_run]
   by_cases hz : cap = 0
   · simp [hz]
   · simp [hz]
     cases a with
     | none => rfl
     | some ad => simp [Addr.add_zero']) h
theorem SlA_cutc {T : TypeId} {sz len cap q : Nat} {a : Option Addr} {cs : List Value} {h : Heap} (hA : SlA T sz a len cap cs h) (hq : q ≤ len) : SlA T sz a q cap (cs.take (q * sz)) h := by
 cases a with
 | none =>
   obtain ⟨e1, e2, e3, e4⟩ := SlA.none_iff.1 hA
   subst e1; subst e2; subst e3
   exact SlA.none_iff.2 ⟨by omega, rfl, by simp, e4⟩
 | some ad =>
   obtain ⟨b', spare, e1, e2, e3, e4, e5⟩ := SlA.some_iff.1 hA
   have hq2 : q * sz ≤ len * sz := Nat.mul_le_mul_right _ hq
   refine SlA.some_iff.2 ⟨b', cs.drop (q * sz) ++ spare, e1, by simp; omega, by omega, by simp; omega, ?_⟩
   rw [← List.append_assoc, List.take_append_drop]; exact e5
def LstA (T : TypeId) (v : Value) (l : List Int) : Asn := fun h => ∃ a cap, v = .slice a l.length cap ∧ SlA T 1 a l.length cap (intsV l) h
theorem ends_takeconv (is : List Nat) {fn : Func} {R : Value → List Asn → Prop} {Γp Γr Γ' : List Asn} (hp : pick is Γ = some (Γp, Γr)) (hΓ : ∀ h, Stars Γp h → Stars Γ' h) (h : Ends P w0 sh fn ρ Γ fun v Γ'' => Γ'' = Γ ∧ R v Γ') : Ends P w0 sh fn ρ Γ R :=
 fun hF a w hsh ha hst => by
   obtain ⟨v, Γ'', h1, ⟨h2, h3⟩, h4⟩ := h hF a w hsh ha hst
   subst h2
   obtain ⟨g, hs, hd, hsat⟩ := (h4.perm (pick_perm hp)).left
   exact ⟨v, Γ', h1, h3, g, hΓ g hs, hd, hsat⟩
theorem LstA.cut {T : TypeId} {a : Option Addr} {len cap q : Nat} {l : List Int} {h : Heap} (hA : LstA T (.slice a len cap) l h) (hq : q ≤ l.length) (n : Nat) (hn : n = q) : LstA T (.slice a n cap) (l.take q) h := by
 subst hn
 obtain ⟨a', cap', e, hS⟩ := hA
 cases e
 refine ⟨a, cap, by rw [List.length_take, Nat.min_eq_left hq], ?_⟩
 have := SlA_cutc hS hq
 rw [Nat.mul_one] at this
 rw [List.length_take, Nat.min_eq_left hq, show intsV (l.take n) = (intsV l).take n by simp [intsV, List.map_take]]
 exact this
theorem rd_cells {c : Array Value} {o q : Nat} {vs : List Value} (hq : vs.length = q) (h : ∀ (k : Nat) (u : Value), vs[k]? = some u → c[o + k]? = some u) (o' : Nat) (ho : o' = o) : rd true q c.toList o' = some (.agg (List.toArray vs)) := by
 subst ho
 have key : ∀ (vs : List Value) (cs : List Value), (∀ (k : Nat) (u : Value), vs[k]? = some u → cs[k]? = some u) → takeL vs.length cs = some vs := by
   intro vs
   induction vs with
   | nil => intro cs _; cases cs <;> rfl
   | cons x vs ih =>
     intro cs h
     cases cs with
     | nil => have := h 0 x rfl; simp at this
     | cons y cs =>
       have h0 := h 0 x rfl
       simp at h0; subst h0
       have := ih cs (fun k u hu => by simpa using h (k + 1) u (by simpa using hu))
       simp only [List.length_cons, takeL, this]
 have h2 := key vs (dropL o' c.toList) (fun k u hu => by
   rw [dropL_eq, List.getElem?_drop]
   simpa using h k u hu)
 rw [hq] at h2
 simp only [rd, h2]
end
end Go.Vc
namespace Go.Vc
section
variable {P : Program} {w0 : World} {n : Nat} {sh : Shared} {Q : Exit → Env → List Deferred → List Asn → Prop} {k : List Item} {ρ : Env} {df : List Deferred} {Γ : List Asn} {hF : Heap}
variable {ops : Array Oper} {l : List (Fl × Nat × Oper)} {b : Fl} {i d : Nat} {ty : TypeId} {pos : String} {aft : Array Edge}
variable {x y : Operand} {t e : TypeId} {N cap bb : Nat} {D : Array Int} {z v : Int}
def Dat (e : TypeId) (bb N cap : Nat) (D : Array Int) : Asn := SlA e 1 (some ⟨bb, 0, none⟩) N cap (intsV D.toList)
theorem Dat.size {h : Heap} (hA : Dat e bb N cap D h) : D.size = N := by
 have := (SlA_len hA).1
 simpa [intsV] using this
end
end Go.Vc
namespace Go.Vc
section
variable {P : Program} {w0 : World} {n : Nat} {sh : Shared} {Q : Exit → Env → List Deferred → List Asn → Prop} {k : List Item} {ρ : Env} {df : List Deferred} {Γ : List Asn} {hF : Heap}
variable {ops : Array Oper} {l : List (Fl × Nat × Oper)} {b : Fl} {i d : Nat} {ty : TypeId} {pos : String} {aft : Array Edge}
variable {x y : Operand} {t yt : TypeId} {ky kd : IntKind} {X Y : Nat} {z : Int}
end
end Go.Vc
namespace Go.Vc
def bldA (sz : Nat) : List Value → List (Nat × Value) → Option (List Value)
 | cs, [] => some cs
 | cs, (i, v) :: rest => if (cellsL v).length = sz then (match wr (cellsL v) (i * sz) cs with | some cs' => bldA sz cs' rest | none => none) else none
theorem bldA_fill {sz : Nat} : ∀ (parts : List (Nat × Value)) (cs : List Value) (cs' : List Value), bldA sz cs parts = some cs' → Instr.fill (fun i => some (i * sz, sz)) cs.toArray parts = some cs'.toArray
 | [], cs, cs', h => by simp [bldA] at h; subst h; rfl
 | (i, v) :: rest, cs, cs', h => by
   simp only [bldA] at h
   simp only [Instr.fill]
   split at h
   · rename_i hsz
     split at h
     · rename_i cs2 hw
       obtain ⟨h1, h2⟩ := wr_eq _ _ _ _ hw
       have e1 : v.cells.size = sz := by rw [cellsL_eq]; simpa using hsz
       have e2 : ¬ (i * sz + v.cells.size > cs.toArray.size) := by rw [cellsL_eq]; simp; omega
       simp only [e1, ne_eq, not_true_eq_false, decide_false, Bool.false_or]
       rw [if_neg (by rw [← e1]; simpa [e1] using e2)]
       have e3 : (v.cells.zipIdx.foldl (fun cs (c, j) => cs.setIfInBounds (i * sz + j) c) cs.toArray) = cs2.toArray := by
         apply Array.ext'
         rw [cellsL_eq, h1]
         have := foldl_set (cellsL v) (i * sz) cs.toArray (by simpa using h2)
         simpa [← Array.foldl_toList] using this
       rw [e3]
       exact bldA_fill rest cs2 cs' h
     · cases h
   · cases h
section
variable {P : Program} {w0 : World} {n : Nat} {sh : Shared} {Q : Exit → Env → List Deferred → List Asn → Prop} {k : List Item} {ρ : Env} {df : List Deferred} {Γ : List Asn} {hF : Heap}
variable {ops : Array Oper} {l : List (Fl × Nat × Oper)} {b : Fl} {i d : Nat} {ty : TypeId} {pos : String} {aft : Array Edge}
variable {x y : Operand} {t e T : TypeId} {agg : Bool} {sz len cap bb : Nat} {cs z : List Value} {v : Value} {kd : IntKind} {ix : Int} {a : Option Addr}
theorem zex {ps : Array (Nat × Operand)} [hT : TUnd P t (.array len e)] [hS : TShape P e agg sz] [hZ : TZero P t z] (hb : bldA sz z (ps.toList.map fun p => (p.1, ev ρ p.2)) = some cs)
   (h : Reg P w0 n sh Q ops l k (ρ.set d (.agg (List.toArray cs))) df Γ) : Reg P w0 n sh Q ops ((b, i, ⟨some d, .build t ps, ty, pos, aft, none⟩) :: l) k ρ df Γ :=
 reg_quiet rfl (fun hF _ => quiet_of_run fun w => by
   obtain ⟨z', h1, h2⟩ := hZ.zero_run w
   have e1 : (ps.map fun (i, x) => (i, ev ρ x)).toList = ps.toList.map fun p => (p.1, ev ρ p.2) := by simp
   have e2 := bldA_fill _ _ _ hb
   simp only [execOp, Instr.build, Sem.run_bind, h1, h2, Result.andThen_ok, run_underlying hT.und, hS.size_run, Sem.run_pure, e1]
   rw [e2]
   rfl) h
theorem zea [hT : TUnd P t (.array len e)] [hS : TShape P e agg sz] (hx : ev ρ x = .agg (List.toArray cs)) (hy : ev ρ y = .int kd ix) (hb : 0 ≤ ix ∧ ix < (len : Int)) (hr : rd agg sz cs (ix.toNat * sz) = some v)
   (h : Reg P w0 n sh Q ops l k (ρ.set d v) df Γ) : Reg P w0 n sh Q ops ((b, i, ⟨some d, .index t x y, ty, pos, aft, none⟩) :: l) k ρ df Γ :=
 reg_quiet rfl (fun hF _ => quiet_of_run fun w => by
   simp only [execOp, hx, hy, Instr.index, asIntOf, Sem.run_bind, Sem.run_pure, Result.andThen_ok, run_underlying hT.und]
   rw [if_pos hb]
   simp only [Sem.run_bind, hS.size_run, Result.andThen_ok, part, hS.agg_run]
   cases agg with
   | true =>
     simp only [rd] at hr
     split at hr
     · rename_i l hl
       obtain ⟨h1, h2⟩ := takeL_eq _ _ _ hl
       rw [dropL_eq] at h1 h2
       simp only [Option.some.injEq] at hr
       subst hr
       simp only [if_true, Sem.run_bind, hS.size_run, Result.andThen_ok, Sem.run_pure]
       subst h1
       refine congrArg (fun z => Result.ok (Next.value (Value.agg z)) w) ?_
       apply Array.ext'
       simp [List.take_drop]
     · cases hr
   | false =>
     simp only [rd, nth_eq] at hr
     have : (cs.toArray)[ix.toNat * sz]? = some v := by simpa using hr
     simp [this]) h
theorem reg_store_same (j : Nat) {dst : Option Tmp} {off m : Nat} {vs : List Value} [hT : TShape P t agg m] (hx : ev ρ x = .pointer (some ⟨bb, off, none⟩)) (hj : getAt j sh = some (bb, .cells (List.toArray cs) T (0, 0)))
   (hv : cellsL (ev ρ y) = vs) (hlen : vs.length = m) (hone : allOne vs = true) (hw : wr vs off cs = some cs)
   (h : Reg P w0 n sh Q ops l k (ρ.setO dst undef) df Γ) : Reg P w0 n sh Q ops ((Fl.loud, i, ⟨dst, .store t x y, ty, pos, aft, none⟩) :: l) k ρ df Γ := by
 refine reg_loud rfl (fun v' df' Γ'' => v' = undef ∧ df' = df ∧ Γ'' = Γ) (fun hF hsh w hst => ?_) (fun v' df' Γ'' ⟨h1, h2, h3⟩ => by subst h1; subst h2; subst h3; exact h)
 have hb := (hst.frame (hsh _ (getAt_mem hj))).2
 obtain ⟨w', g1, g2, g3, g4, g5, g6, g7⟩ := run_storeVar (P := P) (off := off) (v := ev ρ y) (t := t) hb hv hlen hone (by simpa using hw)
 simp only [execOp, hx, Instr.storeAt, Instr.sureAddr, Sem.run_bind, Sem.run_pure, Result.andThen_ok, g1]
 refine ⟨Γ, ⟨rfl, rfl, rfl⟩, hst.same g5 g6 g7 ?_⟩
 apply Array.ext_getElem?
 intro q
 by_cases hq : q = bb
 · subst hq; rw [g2, hb]
 · exact g4 q hq
theorem zdw {yt : TypeId} {m : Int} (hx : ev ρ x = .int .i64 m) (hy : ev ρ y = .int .i64 0) (hm : -9223372036854775808 ≤ m ∧ m ≤ 9223372036854775807) (h : Reg P w0 n sh Q ops l k (ρ.set d (.int .i64 m)) df Γ) :
   Reg P w0 n sh Q ops ((b, i, ⟨some d, .binOp .add t x y yt, ty, pos, aft, none⟩) :: l) k ρ df Γ :=
 zau hx hy (by omega) (by rw [Int.add_zero]; exact h)
end
theorem run_bind_eq2 {P : Program} {w0 : World} {n : Nat} {sh : Shared} {Q : Exit → Env → List Deferred → List Asn → Prop} {k : List Item} {ρ : Env} {df : List Deferred} {Γ : List Asn} {σ : Type} {c : Code} {l' : σ → List (Nat × Value)} {Γ' : σ → List Asn}
   (h : Run P w0 n sh (cutE P w0 n sh Q k fun ρ' df' Γ2 => df' = df ∧ ∃ st, AllAt ρ' (l' st) ∧ Γ2 = Γ' st) [.code c] ρ df Γ)
   (hk : ∀ st junk, Run P w0 n sh Q k (mkE (l' st) junk) df (Γ' st)) : Run P w0 n sh Q (.code c :: k) ρ df Γ :=
 run_cut _ h fun ρ' df' Γ2 ⟨h1, st, h2, h3⟩ => by
   subst h1; subst h3
   have := hk st ρ'
   rwa [mkE_self h2] at this
end Go.Vc
namespace Go.Vc
section
variable {P : Program} {w0 : World} {n : Nat} {sh : Shared} {Q : Exit → Env → List Deferred → List Asn → Prop} {k : List Item} {ρ : Env} {df : List Deferred} {Γ : List Asn} {hF : Heap}
variable {ops : Array Oper} {l : List (Fl × Nat × Oper)} {b : Fl} {i d : Nat} {ty : TypeId} {pos : String} {aft : Array Edge}
variable {x y : Operand} {t e T : TypeId} {agg : Bool} {len cap bb : Nat} {cs : List Value}
end
end Go.Vc
namespace Go.Vc
section
variable {P : Program} {w0 : World} {n : Nat} {sh : Shared} {Q : Exit → Env → List Deferred → List Asn → Prop} {k : List Item} {ρ : Env} {df : List Deferred} {Γ : List Asn} {hF : Heap}
variable {ops : Array Oper} {l : List (Fl × Nat × Oper)} {b : Fl} {i d : Nat} {ty : TypeId} {pos : String} {aft : Array Edge}
variable {x y : Operand} {t kt et : TypeId} {r : Nat} {ml : List (Int × Value)}
end
end Go.Vc
namespace Go.Vc
section
variable {P : Program} {w0 : World} {n : Nat} {sh : Shared} {Q : Exit → Env → List Deferred → List Asn → Prop} {k : List Item} {ρ : Env} {df : List Deferred} {Γ : List Asn} {hF : Heap}
variable {fn : Func} {R : Value → List Asn → Prop}
theorem LstA.ofSl {T : TypeId} {a : Option Addr} {cap : Nat} {l : List Int} : ∀ g, SlA T 1 a l.length cap (intsV l) g → LstA T (.slice a l.length cap) l g := fun _ h => ⟨a, cap, rfl, h⟩
end
theorem Fn.share {P : Program} {w0 : World} {sh sh' : Shared} {f : FuncId} {args : List Value} {Γ : List Asn} {R : Value → List Asn → Prop} (h : Fn P w0 sh f args Γ R) (hs : ∀ p ∈ sh, p ∈ sh') : Fn P w0 sh' f args Γ R :=
 ⟨h.enters, fun hF w hsh hst => h.calls hF w (fun p hp => hsh p (hs p hp)) hst⟩
end Go.Vc
namespace Go.Vc
section
variable {P : Program} {w0 : World} {n : Nat} {sh : Shared} {Q : Exit → Env → List Deferred → List Asn → Prop} {k : List Item} {ρ : Env} {df : List Deferred} {Γ : List Asn}
end
end Go.Vc
namespace Go.Vc
section
variable {P : Program} {w0 : World} {n : Nat} {sh : Shared} {Q : Exit → Env → List Deferred → List Asn → Prop} {k : List Item} {ρ : Env} {df : List Deferred} {Γ : List Asn} {hF : Heap}
variable {ops : Array Oper} {l : List (Fl × Nat × Oper)} {b : Fl} {i d : Nat} {ty : TypeId} {pos : String} {aft : Array Edge}
variable {x y : Operand} {t T e : TypeId} {agg : Bool} {m sz len cap : Nat} {cs : List Value} {a : Option Addr} {v : Value}
variable {f : FuncId} {args : List Value} {Γp Γr : List Asn} {R : Value → List Asn → Prop} {shf : Shared} {cargs : Array Operand} {ats : Array TypeId} {fo : Operand}
class TMeth (P : Program) (t : TypeId) (v : Value) (name : String) (f : outParam FuncId) : Prop where
 meth : ∀ w, (method (P.types.size + Made.depth) t v name).run P w = .ok (f, v) w
theorem opW_invoke {dst : Option Tmp} {name : String} [hm : TMeth P t v name f] (hfo : ev ρ fo = .iface t v) (spec : Fn P w0 shf f args Γp R) (hargs : v :: cargs.toList.map (ev ρ) = args)
   {is : List Nat} (hp : pick is Γ = some (Γp, Γr)) (hsh : Vc.Sh shf hF) :
   OpW P w0 hF ⟨dst, .call ⟨.invoke fo name, cargs, ats⟩, ty, pos, aft, none⟩ ρ df Γ fun v df' Γ' => ∃ Γ'', R v Γ'' ∧ df' = df ∧ Γ' = Γ'' ++ Γr := by
 intro w hst
 have e1 : #[v] ++ cargs.map (ev ρ) = args.toArray := by
   rw [← hargs]; apply Array.ext'; simp
 have he : (callFunc f args.toArray).run P w = .ok (.enter f args.toArray) w := spec.enters _ _
 have e2 : (#[Value.iface t v] ++ cargs.map (ev ρ)).extract 1 (#[Value.iface t v] ++ cargs.map (ev ρ)).size = cargs.map (ev ρ) := by
   apply Array.ext'; simp [List.take_of_length_le]
 have e3 : (#[Value.iface t v] ++ cargs.map (ev ρ))[0]? = some (Value.iface t v) := by rw [Array.getElem?_append_left (by simp)]; rfl
 have hprog : ∀ w, (program).run P w = .ok P w := fun w => rfl
 simp only [execOp, resolve, hfo, Sem.run_bind, Sem.run_pure, Result.andThen_ok, invoke, e2, e3, callMethod, hprog, hm.meth, e1, he]
 obtain ⟨g, hg, hd, hst1⟩ := (hst.perm (pick_perm hp)).split
 have hsh1 : Vc.Sh shf (g.or hF) := fun p hp => by
   have := hsh p hp
   rcases hd p.1 with e | e
   · simp [Heap.or, e, this]
   · rw [e] at this; cases this
 exact (spec.calls _ w hsh1 hst1).mono fun e w' ⟨v, Γ', he, hR, hst'⟩ => ⟨v, Γ' ++ Γr, he, ⟨Γ', hR, rfl, rfl⟩, hst'.join hg hd⟩
theorem reg_invoke (is : List Nat) {dst : Option Tmp} {name : String} [hm : TMeth P t v name f] (spec : Fn P w0 shf f args Γp R) (hfo : ev ρ fo = .iface t v) (hargs : v :: cargs.toList.map (ev ρ) = args)
   (hp : pick is Γ = some (Γp, Γr)) (hsh : ∀ p ∈ shf, p ∈ sh) (h : ∀ v Γ', R v Γ' → Reg P w0 n sh Q ops l k (ρ.setO dst v) df (Γ' ++ Γr)) :
   Reg P w0 n sh Q ops ((Fl.loud, i, ⟨dst, .call ⟨.invoke fo name, cargs, ats⟩, ty, pos, aft, none⟩) :: l) k ρ df Γ :=
 reg_loud rfl _ (fun hF hs => opW_invoke hfo spec hargs hp (fun p hp => hs p (hsh p hp))) (fun v df' Γ' ⟨Γ'', hR, h2, h3⟩ => by subst h2; subst h3; exact h v Γ'' hR)
theorem zey (is : List Nat) {dst : Option Tmp} {name : String} {u : Value} {Γ' Γ2 : List Asn} [hm : TMeth P t v name f] (spec : FnE P w0 shf f args Γp u Γ') (hfo : ev ρ fo = .iface t v) (hargs : v :: cargs.toList.map (ev ρ) = args)
   (hp : pick is Γ = some (Γp, Γr)) (hsh : ∀ p ∈ shf, p ∈ sh) (happ : Γ' ++ Γr = Γ2) (h : Reg P w0 n sh Q ops l k (ρ.setO dst u) df Γ2) :
   Reg P w0 n sh Q ops ((Fl.loud, i, ⟨dst, .call ⟨.invoke fo name, cargs, ats⟩, ty, pos, aft, none⟩) :: l) k ρ df Γ :=
 reg_invoke is spec hfo hargs hp hsh (fun v' Γ'' ⟨h1, h2⟩ => by subst h1; subst h2; rw [happ]; exact h)
theorem reg_shr {kd kd' : IntKind} {u : Int} {q : Nat} {t2 : TypeId} (hx : ev ρ x = .int kd u) (hy : ev ρ y = .int kd' (q : Int)) (hq : q ≤ kd.bits) (h : Reg P w0 n sh Q ops l k (ρ.set d (.int kd (u / 2 ^ q))) df Γ) :
   Reg P w0 n sh Q ops ((b, i, ⟨some d, .binOp .shr t x y t2, ty, pos, aft, none⟩) :: l) k ρ df Γ :=
 reg_quiet rfl (fun hF _ => quiet_of_run fun w => by
   have e : u.fdiv (2 ^ q) = u / 2 ^ q := Int.fdiv_eq_ediv_of_nonneg _ (Int.le_of_lt (Int.pow_pos (by decide)))
   have e2 : min ((q : Int)).toNat kd.bits = q := by rw [Int.toNat_natCast]; exact Nat.min_eq_left hq
   have e3 : ¬ ((q : Int) < 0) := by omega
   simp only [execOp, hx, hy, eqGuard, binOp, Op.shift, Sem.run_bind, Sem.run_pure, Result.andThen_ok, e2, if_neg e3, e, Bool.not_false, if_true]) h
theorem reg_nilI {u : Value} (hx : ev ρ x = .iface t u) (h : Reg P w0 n sh Q ops l k (ρ.set d (.iface t u)) df Γ) :
   Reg P w0 n sh Q ops ((b, i, ⟨some d, .nilCheck x, ty, pos, aft, none⟩) :: l) k ρ df Γ :=
 reg_quiet rfl (fun hF _ => quiet_of_run fun w => by simp only [execOp, hx]; rfl) h
theorem reg_xor {kd : IntKind} {u v' : Int} {t2 : TypeId} (hx : ev ρ x = .int kd u) (hy : ev ρ y = .int kd v') (h : Reg P w0 n sh Q ops l k (ρ.set d (.int kd (kd.wrap ((BitVec.ofInt kd.bits u ^^^ BitVec.ofInt kd.bits v').toNat : Nat)))) df Γ) :
   Reg P w0 n sh Q ops ((b, i, ⟨some d, .binOp .xor t x y t2, ty, pos, aft, none⟩) :: l) k ρ df Γ :=
 reg_quiet rfl (fun hF _ => quiet_of_run fun w => by
   simp only [execOp, hx, hy, eqGuard, binOp, Op.intBits, Sem.run_bind, Sem.run_pure, Result.andThen_ok, Bool.not_false, if_true, ne_eq, not_true_eq_false, if_false]) h
end
end Go.Vc
namespace Go.Vc
section
variable {P : Program} {w0 : World} {n : Nat} {sh : Shared} {Q : Exit → Env → List Deferred → List Asn → Prop} {k : List Item} {ρ : Env} {df : List Deferred} {Γ : List Asn} {hF : Heap}
variable {ops : Array Oper} {l : List (Fl × Nat × Oper)} {b : Fl} {i d : Nat} {ty : TypeId} {pos : String} {aft : Array Edge}
variable {x y : Operand} {t e : TypeId} {N cap bb : Nat} {D : Array (Int × Int)} {z : Int} {v : Int × Int}
def prsV (l : List (Int × Int)) : List Value := l.flatMap fun q => [.int .i64 q.1, .int .i64 q.2]
theorem prsV_cons (q : Int × Int) (l : List (Int × Int)) : prsV (q :: l) = .int .i64 q.1 :: .int .i64 q.2 :: prsV l := by simp [prsV]
theorem prsV_len : ∀ (l : List (Int × Int)), (prsV l).length = l.length * 2
 | [] => rfl
 | q :: l => by rw [prsV_cons, List.length_cons, List.length_cons, prsV_len l, List.length_cons]; omega
def Dat2 (e : TypeId) (bb N cap : Nat) (D : Array (Int × Int)) : Asn := SlA e 2 (some ⟨bb, 0, none⟩) N cap (prsV D.toList)
theorem Dat2.size {h : Heap} (hA : Dat2 e bb N cap D h) : D.size = N := by
 have := (SlA_len hA).1
 rw [prsV_len] at this
 simp only [Array.length_toList] at this
 omega
end
end Go.Vc
namespace Go.Vc
theorem RdSl.cells {α : Type} {encE : α → List Value} {q : Nat} {w0 : World} {sh : Shared} {l : List α} {a : Option Addr} {cap len : Nat} (h : RdSl w0 sh encE q (.slice a len cap) l) {i : Nat} {x : α} (hx : l[i]? = some x) :
   ∃ b off c T fr, a = some ⟨b, off, none⟩ ∧ (∀ hF Γ w, Sh sh hF → St w0 hF Γ w → w.heap[b]? = some (.cells c T fr)) ∧ (∀ o, o = off + i * q → rd true q c.toList o = some (.agg (List.toArray (encE x)))) ∧ ∀ k u, (encE x)[k]? = some u → ∀ o, o = off + i * q + k → rd false 1 c.toList o = some u := by
 obtain ⟨a', cap', h1, _, h2⟩ := h
 cases h1
 have hne : l ≠ [] := by intro e; subst e; simp at hx
 obtain ⟨b, off, c, T, fr, e, hh, hc⟩ := h2.resolve_left hne
 exact ⟨b, off, c, T, fr, e, hh, rd_cells (hc i x hx).1 (fun k u hu => by rw [Nat.add_assoc]; exact (hc i x hx).2 k u hu), fun k u hu o ho => rd_one ((hc i x hx).2 k u hu) o (by omega)⟩
theorem flat_at {α : Type} {encE : α → List Value} {q : Nat} : ∀ (l : List α), (∀ x ∈ l, (encE x).length = q) → ∀ (i : Nat) (x : α), l[i]? = some x → ∀ k u, (encE x)[k]? = some u → (l.flatMap encE)[i * q + k]? = some u
 | [], _, i, x, hx, _, _, _ => by simp at hx
 | y :: l, hq, i, x, hx, k, u, hu => by
   have hy := hq y (by simp)
   have hk := (List.getElem?_eq_some_iff.1 hu).1
   rw [List.flatMap_cons]
   cases i with
   | zero =>
     simp only [List.getElem?_cons_zero, Option.some.injEq] at hx
     subst hx
     rw [List.getElem?_append_left (by omega), show 0 * q + k = k by omega]
     exact hu
   | succ i =>
     rw [List.getElem?_cons_succ] at hx
     have e : (i + 1) * q + k = q + (i * q + k) := by rw [Nat.succ_mul]; omega
     rw [List.getElem?_append_right (by omega), e, hy, Nat.add_sub_cancel_left]
     exact flat_at l (fun z hz => hq z (by simp [hz])) i x hx k u hu
theorem RdSl.flatS {α : Type} {encE : α → List Value} {q b cap : Nat} {w0 : World} {sh : Shared} {l : List α} {spare : List Value} {T : TypeId} {fr : Nat × Nat} (hq : ∀ x ∈ l, (encE x).length = q) (hm : (b, Obj.cells (List.toArray (l.flatMap encE ++ spare)) T fr) ∈ sh) (hcap : l.length ≤ cap) :
   RdSl w0 sh encE q (.slice (some ⟨b, 0, none⟩) l.length cap) l := by
 refine ⟨_, _, rfl, hcap, .inr ⟨b, 0, _, T, fr, rfl, fun hF Γ w hsh hst => (hst.frame (hsh _ hm)).2, fun i x hx => ⟨hq x (List.mem_of_getElem? hx), fun k u hu => ?_⟩⟩⟩
 have h1 := flat_at l hq i x hx k u hu
 rw [List.getElem?_toArray, Nat.zero_add, List.getElem?_append_left (List.getElem?_eq_some_iff.1 h1).1]
 exact h1
theorem RdSl.flat {α : Type} {encE : α → List Value} {q b : Nat} {w0 : World} {sh : Shared} {l : List α} {T : TypeId} {fr : Nat × Nat} (hq : ∀ x ∈ l, (encE x).length = q) (hm : (b, Obj.cells (List.toArray (l.flatMap encE)) T fr) ∈ sh) :
   RdSl w0 sh encE q (.slice (some ⟨b, 0, none⟩) l.length l.length) l := RdSl.flatS (spare := []) hq (by rw [List.append_nil]; exact hm) (Nat.le_refl _)
theorem Fn.owned {P : Program} {w0 : World} {sh : Shared} {f : FuncId} {args : List Value} {Γ : List Asn} {R : Value → List Asn → Prop} {b : Nat} {o : Obj} (h : Fn P w0 ((b, o) :: sh) f args Γ R) :
   Fn P w0 sh f args (pt b o :: Γ) fun r Γ' => ∃ Γ'', R r Γ'' ∧ Γ' = Γ'' ++ [pt b o] := by
 refine ⟨h.enters, fun hF w hsh hst => ?_⟩
 have h1 : St w0 hF (Γ ++ [pt b o]) w := hst.perm (List.perm_append_comm (l₁ := [_]))
 obtain ⟨g, hg, hdj, hst2⟩ := h1.split
 have hg1 : pt b o g := Stars.one.1 hg
 simp only [pt] at hg1
 subst hg1
 have hsub : ∀ c oc, hF c = some oc → ((Heap.one b o).or hF) c = some oc := fun c oc hc => by
   rcases hdj c with e | e
   · simp [Heap.or, e, hc]
   · rw [e] at hc; cases hc
 refine (h.calls _ w (fun p hp => ?_) hst2).mono ?_
 · rcases List.mem_cons.1 hp with rfl | hp
   · simp [Heap.or, Heap.one]
   · exact hsub _ _ (hsh p hp)
 · rintro e w' ⟨r, Γ', he, h4, h5⟩
   exact ⟨r, _, he, ⟨Γ', h4, rfl⟩, h5.join hg hdj⟩
section
variable {P : Program} {w0 : World} {n : Nat} {sh : Shared} {Q : Exit → Env → List Deferred → List Asn → Prop} {k : List Item} {ρ : Env} {df : List Deferred} {Γ : List Asn} {hF : Heap}
variable {α : Type} {encE : α → List Value} {m : Nat} {v : Value} {l : List α}
variable {ops : Array Oper} {rest : List (Fl × Nat × Oper)} {b : Fl} {i d : Nat} {ty : TypeId} {pos : String} {aft : Array Edge} {x y : Operand}
theorem RdSl.pre {a : Option Addr} {cap q : Nat} (h : RdSl w0 sh encE m (.slice a l.length cap) l) (hq : q ≤ l.length) : RdSl w0 sh encE m (.slice a q cap) (l.take q) := by
 obtain ⟨a', cap', h1, h0, h2⟩ := h
 cases h1
 refine ⟨a, cap, by rw [List.length_take, Nat.min_eq_left hq], by rw [List.length_take]; omega, ?_⟩
 rcases h2 with rfl | ⟨b, off, c, T, fr, e, hh, hc⟩
 · exact .inl (by simp)
 · refine .inr ⟨b, off, c, T, fr, e, hh, fun i x hx => hc i x ?_⟩
   rw [List.getElem?_take] at hx
   split at hx
   · exact hx
   · cases hx
def tailV (a : Option Addr) (len cap sz q : Nat) : Value := .slice (if cap = q then a else a.map (·.add (q * sz))) (len - q) (cap - q)
theorem RdSl.tail {a : Option Addr} {cap q : Nat} (h : RdSl w0 sh encE m (.slice a l.length cap) l) (hq : q ≤ l.length) : RdSl w0 sh encE m (tailV a l.length cap m q) (l.drop q) := by
 obtain ⟨a', cap', h1, h0, h2⟩ := h
 cases h1
 unfold tailV
 refine ⟨_, _, by rw [List.length_drop], by rw [List.length_drop]; omega, ?_⟩
 by_cases hz : q = l.length
 · exact .inl (by rw [hz]; simp)
 rcases h2 with rfl | ⟨b, off, c, T, fr, e, hh, hc⟩
 · exact .inl (by simp)
 · refine .inr ⟨b, off + q * m, c, T, fr, ?_, hh, fun i x hx => ?_⟩
   · rw [if_neg (by omega), e]; simp [Addr.add_lit]
   · rw [List.getElem?_drop] at hx
     obtain ⟨g1, g2⟩ := hc _ x hx
     exact ⟨g1, fun k u hu => by rw [← g2 k u hu]; congr 1; rw [Nat.add_mul]; omega⟩
def LstE (encE : α → List Value) (q : Nat) (T : TypeId) (v : Value) (l : List α) : Asn := fun h => (∀ x ∈ l, (encE x).length = q) ∧ ∃ a cap, v = .slice a l.length cap ∧ SlA T q a l.length cap (l.flatMap encE) h
theorem LstE.ofSl {q : Nat} {T : TypeId} {a : Option Addr} {len cap : Nat} (hq : ∀ x ∈ l, (encE x).length = q) (hl : l.length = len) (g : Heap) (hg : SlA T q a len cap (l.flatMap encE) g) : LstE encE q T (.slice a len cap) l g := by
 subst hl; exact ⟨hq, a, cap, rfl, hg⟩
theorem LstE.nil {q : Nat} {T : TypeId} : LstE encE q T (.slice none 0 0) ([] : List α) Heap.emp := ⟨fun x hx => by simp at hx, none, 0, rfl, SlA_nil⟩
theorem run_lendE (is : List Nat) {q : Nat} {T : TypeId} {Γr : List Asn} (hp : pick is Γ = some ([LstE encE q T v l], Γr))
   (h : ∀ sh', (∀ p ∈ sh, p ∈ sh') → RdSl w0 sh' encE q v l → Run P w0 n sh' (fun e ρ df Γ' => Q e ρ df (Γ' ++ [LstE encE q T v l])) k ρ df Γr) : Run P w0 n sh Q k ρ df Γ := by
 refine ⟨?_⟩
 intro hF hsh a w ha hn hd hst
 have h1 : St w0 hF (Γr ++ [LstE encE q T v l]) w := (hst.perm (pick_perm hp)).perm List.perm_append_comm
 obtain ⟨g, hg, hdj, hst2⟩ := h1.split
 obtain ⟨hq, a', cap, hv, hS⟩ := Stars.one.1 hg
 cases a' with
 | none =>
   obtain ⟨e1, e2, e3, e4⟩ := SlA.none_iff.1 hS
   subst e4
   have hl : l = [] := List.length_eq_zero_iff.1 e1
   subst hl
   refine ((h sh (fun _ h => h) (hv ▸ RdSl.nil)).go hF hsh a w ha hn hd ?_).mono ?_
   · simpa [Heap.emp_or] using hst2
   · rintro e a' w' ⟨h3, Γ', h4, h5⟩
     exact ⟨h3, _, h4, (St.emp_head (A := LstE encE q T v []) ⟨fun x hx => by simp at hx, none, cap, hv, hS⟩ h5).perm (List.perm_append_comm (l₁ := [_]))⟩
 | some ad =>
   obtain ⟨b', spare, e1, e2, e3, e4, e5⟩ := SlA.some_iff.1 hS
   have hg1 := e5
   simp only [pt] at hg1
   subst hg1
   have hsub : ∀ c oc, hF c = some oc → ((Heap.one b' (.cells (List.toArray (l.flatMap encE ++ spare)) T (0, 0))).or hF) c = some oc := fun c oc hc => by
     rcases hdj c with e | e
     · simp [Heap.or, e, hc]
     · rw [e] at hc; cases hc
   refine ((h ((b', .cells (List.toArray (l.flatMap encE ++ spare)) T (0, 0)) :: sh) (fun p hp => List.mem_cons_of_mem _ hp) (by rw [hv, e1]; exact RdSl.flatS hq (List.mem_cons_self ..) e3)).go _ (fun p hp => ?_) a w ha hn hd hst2).mono ?_
   · rcases List.mem_cons.1 hp with rfl | hp
     · simp [Heap.or, Heap.one]
     · exact hsub _ _ (hsh p hp)
   · rintro e a' w' ⟨h3, Γ', h4, h5⟩
     exact ⟨h3, _, h4, h5.join hg hdj⟩
end
end Go.Vc
namespace Go.Vc
section
variable {P : Program} {w0 : World} {n : Nat} {sh : Shared} {Q : Exit → Env → List Deferred → List Asn → Prop} {k : List Item} {ρ : Env} {df : List Deferred} {Γ : List Asn}
variable {ops : Array Oper} {l : List (Fl × Nat × Oper)} {i : Nat} {ty yt : TypeId} {pos : String} {aft : Array Edge}
variable {b : Fl} {x y : Operand} {d : Tmp}
theorem reg_mkI {t : TypeId} {v : Value} (hs : ∀ w, (Instr.makeInterface t v).run P w = .ok (.iface t v) w) (hx : ev ρ x = v) (h : Reg P w0 n sh Q ops l k (ρ.set d (.iface t v)) df Γ) :
   Reg P w0 n sh Q ops ((b, i, ⟨some d, .makeInterface t x, ty, pos, aft, none⟩) :: l) k ρ df Γ :=
 reg_quiet rfl (fun hF _ => quiet_of_run fun w => by
   simp only [execOp, hx, Sem.run_bind, hs, Result.andThen_ok]; rfl) h
theorem wrap_u64 {x : Int} (h : 0 ≤ x ∧ x ≤ 18446744073709551615) : IntKind.u64.wrap x = x := by rw [IntKind.wrap_u64]; omega
variable {kt et : TypeId} {kd : IntKind} {zv : Value} {r : Nat} {ml : List (Int × Value)} {a : Int}
end
end Go.Vc
namespace Go.Vc
theorem str_eq (a b : ByteArray) : (a.toList == b.toList) = decide (a = b) := by
 by_cases h : a = b
 · subst h; simp
 · rw [decide_eq_false h, beq_eq_false_iff_ne]
   intro e
   refine h ?_
   rw [ByteArray.toList_eq, ByteArray.toList_eq] at e
   exact WideShapes.bytes_inj e
section
variable {P : Program} {w0 : World} {n : Nat} {sh : Shared} {Q : Exit → Env → List Deferred → List Asn → Prop} {k : List Item} {ρ : Env} {df : List Deferred} {Γ : List Asn}
variable {ops : Array Oper} {l : List (Fl × Nat × Oper)} {i : Nat} {ty yt t : TypeId} {pos : String} {aft : Array Edge}
variable {f : Fl} {x y : Operand} {d : Tmp} {a b : ByteArray}
theorem reg_eqS (hx : ev ρ x = .string a) (hy : ev ρ y = .string b) (h : Reg P w0 n sh Q ops l k (ρ.set d (.bool (decide (a = b)))) df Γ) :
   Reg P w0 n sh Q ops ((f, i, ⟨some d, .binOp .eql t x y yt, ty, pos, aft, none⟩) :: l) k ρ df Γ :=
 reg_quiet rfl (fun hF _ => quiet_of_run fun w => by simp [execOp, hx, hy, go_sem, str_eq]) h
theorem reg_addS (hx : ev ρ x = .string a) (hy : ev ρ y = .string b) (hb : a.size + b.size ≤ 9223372036854775807) (h : Reg P w0 n sh Q ops l k (ρ.set d (.string (a ++ b))) df Γ) :
   Reg P w0 n sh Q ops ((f, i, ⟨some d, .binOp .add t x y yt, ty, pos, aft, none⟩) :: l) k ρ df Γ :=
 reg_quiet rfl (fun hF _ => quiet_of_run fun w => by simp [execOp, hx, hy, go_sem, run_string_add_sum w a b hb]) h
theorem zdy [hT : TUnd P t .string] (hx : ev ρ x = .string a) (h : Reg P w0 n sh Q ops l k (ρ.set d (.int .i64 a.size)) df Γ) :
   Reg P w0 n sh Q ops ((f, i, ⟨some d, .call ⟨.builtin .len, #[x], #[t]⟩, ty, pos, aft, none⟩) :: l) k ρ df Γ :=
 reg_quiet rfl (fun hF _ => quiet_of_run fun w => by
   simp [execOp, resolve, invoke, builtin, Builtin.len_, hx, run_underlying hT.und, goInt]) h
theorem zew {kd : IntKind} {q : Int} {u : UInt8} [hT : TUnd P t .string] (hx : ev ρ x = .string a) (hy : ev ρ y = .int kd q) (h0 : 0 ≤ q) (hu : a[q.toNat]? = some u) (h : Reg P w0 n sh Q ops l k (ρ.set d (.int .u8 (u.toNat : Int))) df Γ) :
   Reg P w0 n sh Q ops ((f, i, ⟨some d, .index t x y, ty, pos, aft, none⟩) :: l) k ρ df Γ :=
 reg_quiet rfl (fun hF _ => quiet_of_run fun w => by
   simp [execOp, Instr.index, asIntOf, hx, hy, run_underlying hT.und, h0, hu]) h
end
end Go.Vc
namespace Go.Vc
abbrev SM : Type := List (ByteArray × Value)
def EsOk (es : List MapEntry) (l : SM) : Prop := es.map (fun e => (e.key, e.val)) = l.map fun p => (.string p.1, p.2)
theorem EsOk.cons {es : List MapEntry} {p : ByteArray × Value} {l : SM} (h : EsOk es (p :: l)) : ∃ e es', es = e :: es' ∧ e.key = .string p.1 ∧ e.val = p.2 ∧ EsOk es' l := by
 cases es with
 | nil => cases h
 | cons e es' =>
   unfold EsOk at h
   rw [List.map_cons, List.map_cons] at h
   injection h with h1 h2
   injection h1 with h3 h4
   exact ⟨e, es', rfl, h3, h4, h2⟩
theorem EsOk.nil {es : List MapEntry} (h : EsOk es []) : es = [] := by cases es with | nil => rfl | cons => cases h
theorem EsOk.len {es : List MapEntry} {l : SM} (h : EsOk es l) : es.length = l.length := by have := congrArg List.length h; simpa using this
theorem EsOk.push {es : List MapEntry} {l : SM} (h : EsOk es l) (x : ByteArray) (u : Value) (q : Nat) : EsOk (es ++ [{ key := .string x, val := u, born := q }]) (l ++ [(x, u)]) := by
 unfold EsOk at h ⊢
 rw [List.map_append, List.map_append, h]; rfl
section
variable {P : Program} {w0 : World} {n : Nat} {sh : Shared} {Q : Exit → Env → List Deferred → List Asn → Prop} {k : List Item} {ρ : Env} {df : List Deferred} {Γ : List Asn} {hF : Heap}
variable {ops : Array Oper} {l : List (Fl × Nat × Oper)} {b : Fl} {i d : Nat} {ty : TypeId} {pos : String} {aft : Array Edge}
variable {x y z : Operand} {t kt et : TypeId} {r : Nat} {a : ByteArray} {ml : SM} {zv : Value}
end
end Go.Vc
namespace Go.Vc
section
variable {P : Program} {w0 : World} {n : Nat} {sh : Shared} {Q : Exit → Env → List Deferred → List Asn → Prop} {k : List Item} {ρ : Env} {df : List Deferred} {Γ : List Asn} {hF : Heap}
variable {ops : Array Oper} {l : List (Fl × Nat × Oper)} {b : Fl} {i d : Nat} {ty : TypeId} {pos : String} {aft : Array Edge}
variable {x y z : Operand} {t kt et : TypeId} {r : Nat} {a : ByteArray} {ml : SM} {zv : Value}
def RdM (w0 : World) (sh : Shared) (r : Nat) (ml : SM) : Prop := ∃ es clock, (∀ hF Γ w, Sh sh hF → St w0 hF Γ w → w.heap[r]? = some (.map es.toArray clock)) ∧ EsOk es ml
theorem RdM.mono {sh' : Shared} (h : RdM w0 sh r ml) (hs : ∀ p ∈ sh, p ∈ sh') : RdM w0 sh' r ml := by
 obtain ⟨es, clock, h1, h2⟩ := h
 exact ⟨es, clock, fun hF Γ w hsh hst => h1 hF Γ w (fun p hp => hsh p (hs p hp)) hst, h2⟩
end
end Go.Vc
namespace Sim
inductive PE where
 | mk (kind num : Int) (name meth : ByteArray) (args or : List PE)
inductive PS where
 | mk (kind : Int) (name : ByteArray) (num : Int) (expr : PE) (body els : List PS)
namespace PE
def kind : PE → Int | mk k _ _ _ _ _ => k
def num : PE → Int | mk _ k _ _ _ _ => k
def name : PE → ByteArray | mk _ _ k _ _ _ => k
def meth : PE → ByteArray | mk _ _ _ k _ _ => k
def args : PE → List PE | mk _ _ _ _ k _ => k
def or : PE → List PE | mk _ _ _ _ _ k => k
mutual
def size : PE → Nat
 | mk _ _ _ _ a o => 1 + sizeL a + sizeL o
def sizeL : List PE → Nat
 | [] => 0
 | e :: l => size e + sizeL l
end
end PE
namespace PS
def kind : PS → Int | mk k _ _ _ _ _ => k
def name : PS → ByteArray | mk _ k _ _ _ _ => k
def num : PS → Int | mk _ _ k _ _ _ => k
def expr : PS → PE | mk _ _ _ k _ _ => k
def body : PS → List PS | mk _ _ _ _ k _ => k
def els : PS → List PS | mk _ _ _ _ _ k => k
mutual
def size : PS → Nat
 | mk _ _ _ e a o => 1 + e.size + sizeL a + sizeL o
def sizeL : List PS → Nat
 | [] => 0
 | e :: l => size e + sizeL l
end
end PS
end Sim
namespace Go.Vc
open Sim
abbrev RdC (w0 : World) (sh : Shared) (m : Nat) (v : Value) (cl : List (List Value)) : Prop := RdSl w0 sh (fun c => c) m v cl
abbrev peC (kind num : Int) (name meth : ByteArray) (va vo : Value) : List Value := [.int .i64 kind, .int .i64 num, .string name, .string meth, va, vo]
mutual
def RdE (w0 : World) (sh : Shared) : PE → List Value → Prop
 | .mk kind num name meth args or, cs => ∃ va vo cl cl', cs = peC kind num name meth va vo ∧ RdC w0 sh 6 va cl ∧ RdEs w0 sh args cl ∧ RdC w0 sh 6 vo cl' ∧ RdEs w0 sh or cl'
def RdEs (w0 : World) (sh : Shared) : List PE → List (List Value) → Prop
 | [], cl => cl = []
 | e :: l, cl => ∃ c cl', cl = c :: cl' ∧ RdE w0 sh e c ∧ RdEs w0 sh l cl'
end
def RdEl (w0 : World) (sh : Shared) (v : Value) (l : List PE) : Prop := ∃ cl, RdC w0 sh 6 v cl ∧ RdEs w0 sh l cl
mutual
def RdS (w0 : World) (sh : Shared) : PS → List Value → Prop
 | .mk kind name num expr body els, cs => ∃ ce vb ve cl cl', cs = [.int .i64 kind, .string name, .int .i64 num] ++ ce ++ [vb, ve] ∧ RdE w0 sh expr ce ∧ RdC w0 sh 11 vb cl ∧ RdSs w0 sh body cl ∧ RdC w0 sh 11 ve cl' ∧ RdSs w0 sh els cl'
def RdSs (w0 : World) (sh : Shared) : List PS → List (List Value) → Prop
 | [], cl => cl = []
 | e :: l, cl => ∃ c cl', cl = c :: cl' ∧ RdS w0 sh e c ∧ RdSs w0 sh l cl'
end
def RdSt (w0 : World) (sh : Shared) (v : Value) (l : List PS) : Prop := ∃ cl, RdC w0 sh 11 v cl ∧ RdSs w0 sh l cl
section
variable {w0 : World} {sh sh' : Shared}
mutual
theorem RdE.mono (hs : ∀ p ∈ sh, p ∈ sh') : ∀ {e : PE} {cs : List Value}, RdE w0 sh e cs → RdE w0 sh' e cs
 | .mk _ _ _ _ _ _, _, h => by
   unfold RdE at h ⊢
   obtain ⟨va, vo, cl, cl', h1, h2, h3, h4, h5⟩ := h
   exact ⟨va, vo, cl, cl', h1, h2.mono hs, RdEs.mono hs h3, h4.mono hs, RdEs.mono hs h5⟩
theorem RdEs.mono (hs : ∀ p ∈ sh, p ∈ sh') : ∀ {l : List PE} {cl : List (List Value)}, RdEs w0 sh l cl → RdEs w0 sh' l cl
 | [], _, h => by unfold RdEs at h ⊢; exact h
 | _ :: _, _, h => by
   unfold RdEs at h ⊢
   obtain ⟨c, cl', h1, h2, h3⟩ := h
   exact ⟨c, cl', h1, RdE.mono hs h2, RdEs.mono hs h3⟩
end
theorem RdEl.mono {v : Value} {l : List PE} (h : RdEl w0 sh v l) (hs : ∀ p ∈ sh, p ∈ sh') : RdEl w0 sh' v l := let ⟨cl, h1, h2⟩ := h; ⟨cl, h1.mono hs, h2.mono hs⟩
mutual
theorem RdS.mono (hs : ∀ p ∈ sh, p ∈ sh') : ∀ {e : PS} {cs : List Value}, RdS w0 sh e cs → RdS w0 sh' e cs
 | .mk _ _ _ _ _ _, _, h => by
   unfold RdS at h ⊢
   obtain ⟨ce, vb, ve, cl, cl', h1, h0, h2, h3, h4, h5⟩ := h
   exact ⟨ce, vb, ve, cl, cl', h1, h0.mono hs, h2.mono hs, RdSs.mono hs h3, h4.mono hs, RdSs.mono hs h5⟩
theorem RdSs.mono (hs : ∀ p ∈ sh, p ∈ sh') : ∀ {l : List PS} {cl : List (List Value)}, RdSs w0 sh l cl → RdSs w0 sh' l cl
 | [], _, h => by unfold RdSs at h ⊢; exact h
 | _ :: _, _, h => by
   unfold RdSs at h ⊢
   obtain ⟨c, cl', h1, h2, h3⟩ := h
   exact ⟨c, cl', h1, RdS.mono hs h2, RdSs.mono hs h3⟩
end
theorem RdSt.mono {v : Value} {l : List PS} (h : RdSt w0 sh v l) (hs : ∀ p ∈ sh, p ∈ sh') : RdSt w0 sh' v l := let ⟨cl, h1, h2⟩ := h; ⟨cl, h1.mono hs, h2.mono hs⟩
theorem RdE.cs {e : PE} {cs : List Value} (h : RdE w0 sh e cs) : ∃ va vo, cs = peC e.kind e.num e.name e.meth va vo ∧ RdEl w0 sh va e.args ∧ RdEl w0 sh vo e.or := by
 cases e
 unfold RdE at h
 obtain ⟨va, vo, cl, cl', h1, h2, h3, h4, h5⟩ := h
 exact ⟨va, vo, h1, ⟨cl, h2, h3⟩, ⟨cl', h4, h5⟩⟩
theorem RdE.of {e : PE} {va vo : Value} (h1 : RdEl w0 sh va e.args) (h2 : RdEl w0 sh vo e.or) : RdE w0 sh e (peC e.kind e.num e.name e.meth va vo) := by
 cases e
 obtain ⟨cl, h3, h4⟩ := h1
 obtain ⟨cl', h5, h6⟩ := h2
 unfold RdE
 exact ⟨va, vo, cl, cl', rfl, h3, h4, h5, h6⟩
theorem RdS.cs {e : PS} {cs : List Value} (h : RdS w0 sh e cs) : ∃ va vo vb ve, cs = [.int .i64 e.kind, .string e.name, .int .i64 e.num, .int .i64 e.expr.kind, .int .i64 e.expr.num, .string e.expr.name, .string e.expr.meth, va, vo, vb, ve] ∧ RdE w0 sh e.expr (peC e.expr.kind e.expr.num e.expr.name e.expr.meth va vo) ∧ RdSt w0 sh vb e.body ∧ RdSt w0 sh ve e.els := by
 cases e
 unfold RdS at h
 obtain ⟨ce, vb, ve, cl, cl', h1, h0, h2, h3, h4, h5⟩ := h
 obtain ⟨va, vo, h6, h7, h8⟩ := h0.cs
 subst h6
 exact ⟨va, vo, vb, ve, h1, h0, ⟨cl, h2, h3⟩, ⟨cl', h4, h5⟩⟩
theorem RdEs.len : ∀ {l : List PE} {cl : List (List Value)}, RdEs w0 sh l cl → cl.length = l.length
 | [], _, h => by unfold RdEs at h; rw [h]; rfl
 | _ :: l, _, h => by
   unfold RdEs at h
   obtain ⟨c, cl', h1, h2, h3⟩ := h
   rw [h1, List.length_cons, List.length_cons, RdEs.len h3]
theorem RdEs.at : ∀ {l : List PE} {cl : List (List Value)}, RdEs w0 sh l cl → ∀ {i : Nat} {e : PE}, l[i]? = some e → ∃ c, cl[i]? = some c ∧ RdE w0 sh e c
 | [], _, _, i, e, he => by simp at he
 | _ :: l, _, h, i, e, he => by
   unfold RdEs at h
   obtain ⟨c, cl', h1, h2, h3⟩ := h
   subst h1
   cases i with
   | zero => simp at he; subst he; exact ⟨c, rfl, h2⟩
   | succ i => rw [List.getElem?_cons_succ] at he ⊢; exact RdEs.at h3 he
theorem RdEs.snoc : ∀ {l : List PE} {cl : List (List Value)} {e : PE} {c : List Value}, RdEs w0 sh l cl → RdE w0 sh e c → RdEs w0 sh (l ++ [e]) (cl ++ [c])
 | [], _, e, c, h, he => by unfold RdEs at h; subst h; unfold RdEs; exact ⟨c, [], rfl, he, by unfold RdEs; rfl⟩
 | _ :: l, _, e, c, h, he => by
   unfold RdEs at h
   obtain ⟨c1, cl', h1, h2, h3⟩ := h
   subst h1
   rw [List.cons_append, List.cons_append]
   unfold RdEs
   exact ⟨c1, _, rfl, h2, RdEs.snoc h3 he⟩
theorem RdSs.len : ∀ {l : List PS} {cl : List (List Value)}, RdSs w0 sh l cl → cl.length = l.length
 | [], _, h => by unfold RdSs at h; rw [h]; rfl
 | _ :: l, _, h => by
   unfold RdSs at h
   obtain ⟨c, cl', h1, h2, h3⟩ := h
   rw [h1, List.length_cons, List.length_cons, RdSs.len h3]
theorem RdSs.at : ∀ {l : List PS} {cl : List (List Value)}, RdSs w0 sh l cl → ∀ {i : Nat} {e : PS}, l[i]? = some e → ∃ c, cl[i]? = some c ∧ RdS w0 sh e c
 | [], _, _, i, e, he => by simp at he
 | _ :: l, _, h, i, e, he => by
   unfold RdSs at h
   obtain ⟨c, cl', h1, h2, h3⟩ := h
   subst h1
   cases i with
   | zero => simp at he; subst he; exact ⟨c, rfl, h2⟩
   | succ i => rw [List.getElem?_cons_succ] at he ⊢; exact RdSs.at h3 he
theorem RdEl.len {v : Value} {l : List PE} (h : RdEl w0 sh v l) : ∃ a cap, v = .slice a l.length cap ∧ l.length ≤ cap := by
 obtain ⟨cl, h1, h2⟩ := h
 obtain ⟨a, cap, e, hc, _⟩ := id h1
 rw [h2.len] at e hc
 exact ⟨a, cap, e, hc⟩
theorem RdSt.len {v : Value} {l : List PS} (h : RdSt w0 sh v l) : ∃ a cap, v = .slice a l.length cap ∧ l.length ≤ cap := by
 obtain ⟨cl, h1, h2⟩ := h
 obtain ⟨a, cap, e, hc, _⟩ := id h1
 rw [h2.len] at e hc
 exact ⟨a, cap, e, hc⟩
theorem RdEl.at {a : Option Addr} {len cap : Nat} {l : List PE} (h : RdEl w0 sh (.slice a len cap) l) {i : Nat} {e : PE} (he : l[i]? = some e) :
   ∃ b off c T fr cs, a = some ⟨b, off, none⟩ ∧ (∀ hF Γ w, Sh sh hF → St w0 hF Γ w → w.heap[b]? = some (.cells c T fr)) ∧ (∀ o, o = off + i * 6 → rd true 6 c.toList o = some (.agg (List.toArray cs))) ∧ RdE w0 sh e cs ∧ (∀ k u, cs[k]? = some u → ∀ o, o = off + i * 6 + k → rd false 1 c.toList o = some u) := by
 obtain ⟨cl, h1, h2⟩ := h
 obtain ⟨c0, h3, h4⟩ := h2.at he
 obtain ⟨b, off, c, T, fr, e1, e2, e3, e4⟩ := h1.cells h3
 exact ⟨b, off, c, T, fr, c0, e1, e2, e3, h4, e4⟩
theorem RdSt.at {a : Option Addr} {len cap : Nat} {l : List PS} (h : RdSt w0 sh (.slice a len cap) l) {i : Nat} {e : PS} (he : l[i]? = some e) :
   ∃ b off c T fr cs, a = some ⟨b, off, none⟩ ∧ (∀ hF Γ w, Sh sh hF → St w0 hF Γ w → w.heap[b]? = some (.cells c T fr)) ∧ (∀ o, o = off + i * 11 → rd true 11 c.toList o = some (.agg (List.toArray cs))) ∧ RdS w0 sh e cs ∧ (∀ k u, cs[k]? = some u → ∀ o, o = off + i * 11 + k → rd false 1 c.toList o = some u) := by
 obtain ⟨cl, h1, h2⟩ := h
 obtain ⟨c0, h3, h4⟩ := h2.at he
 obtain ⟨b, off, c, T, fr, e1, e2, e3, e4⟩ := h1.cells h3
 exact ⟨b, off, c, T, fr, c0, e1, e2, e3, h4, e4⟩
end
end Go.Vc
namespace Go.Vc
def Rds (φ : Shared → Prop) : Asn := fun g => ∃ bl : Shared, (∀ p ∈ bl, g p.1 = some p.2) ∧ φ bl
theorem Rds.mono {φ ψ : Shared → Prop} (h : ∀ bl, φ bl → ψ bl) (g : Heap) (hg : Rds φ g) : Rds ψ g := let ⟨bl, h1, h2⟩ := hg; ⟨bl, h1, h bl h2⟩
theorem or_left {g1 g2 : Heap} {p : Nat × Obj} (h : g1 p.1 = some p.2) : (g1.or g2) p.1 = some p.2 := by unfold Heap.or; rw [h]
theorem or_right {g1 g2 : Heap} (hd : Disj g1 g2) {p : Nat × Obj} (h : g2 p.1 = some p.2) : (g1.or g2) p.1 = some p.2 := by
 unfold Heap.or
 rcases hd p.1 with e | e
 · rw [e]; exact h
 · rw [e] at h; cases h
theorem Rds.join {φ ψ χ : Shared → Prop} (h : ∀ b1 b2, φ b1 → ψ b2 → χ (b1 ++ b2)) (g : Heap) (hg : Stars [Rds φ, Rds ψ] g) : Rds χ g := by
 obtain ⟨g1, g2, hd, rfl, ⟨b1, h1, h2⟩, hs⟩ := hg
 obtain ⟨b2, h3, h4⟩ := Stars.one.1 hs
 refine ⟨b1 ++ b2, fun p hp => ?_, h b1 b2 h2 h4⟩
 rcases List.mem_append.1 hp with hp | hp
 · exact or_left (h1 p hp)
 · exact or_right hd (h3 p hp)
theorem Rds.of_pt {b : Nat} {o : Obj} (g : Heap) (hg : pt b o g) : Rds (fun bl => (b, o) ∈ bl) g := ⟨[(b, o)], fun p hp => by rw [List.mem_singleton.1 hp]; simp only [pt] at hg; subst hg; simp [Heap.one], .head _⟩
theorem Rds.emp {φ : Shared → Prop} (h : φ []) : Rds φ Heap.emp := ⟨[], fun _ hp => absurd hp List.not_mem_nil, h⟩
section
variable {P : Program} {w0 : World} {n : Nat} {sh : Shared} {Q : Exit → Env → List Deferred → List Asn → Prop} {k : List Item} {ρ : Env} {df : List Deferred} {Γ : List Asn} {φ : Shared → Prop}
theorem zeu (is : List Nat) {Γr : List Asn} (hp : pick is Γ = some ([Rds φ], Γr))
   (h : ∀ sh' bl, (∀ p ∈ sh, p ∈ sh') → (∀ p ∈ bl, p ∈ sh') → φ bl → Run P w0 n sh' Q k ρ df Γr) : Run P w0 n sh Q k ρ df Γ := by
 refine ⟨?_⟩
 intro hF hsh a w ha hn hd hst
 have h1 : St w0 hF (Γr ++ [Rds φ]) w := (hst.perm (pick_perm hp)).perm List.perm_append_comm
 obtain ⟨g, hg, hdj, hst2⟩ := h1.split
 obtain ⟨bl, hb1, hb2⟩ := Stars.one.1 hg
 have hsub : ∀ c oc, hF c = some oc → (g.or hF) c = some oc := fun c oc hc => by
   rcases hdj c with e | e
   · simp [Heap.or, e, hc]
   · rw [e] at hc; cases hc
 refine RunAt.mono ((h (bl ++ sh) bl (fun p hp => List.mem_append_right _ hp) (fun p hp => List.mem_append_left _ hp) hb2).go _ (fun p hp => ?_)) hsub (fun _ _ _ _ h => h) ha hn hd hst2
 rcases List.mem_append.1 hp with hp | hp
 · exact or_left (hb1 p hp)
 · exact hsub _ _ (hsh p hp)
end
theorem Rds.ofSl {α : Type} {w0 : World} {encE : α → List Value} {q : Nat} {T : TypeId} {a : Option Addr} {len cap : Nat} {l : List α} (hq : ∀ x ∈ l, (encE x).length = q) (hl : l.length = len) (g : Heap) (hg : SlA T q a len cap (l.flatMap encE) g) :
   Rds (fun bl => RdSl w0 bl encE q (.slice a len cap) l) g := by
 subst hl
 cases a with
 | none =>
   obtain ⟨e1, e2, e3, e4⟩ := SlA.none_iff.1 hg
   subst e4
   have hl : l = [] := List.length_eq_zero_iff.1 e1
   subst hl
   exact Rds.emp RdSl.nil
 | some ad =>
   obtain ⟨b', spare, e1, e2, e3, e4, e5⟩ := SlA.some_iff.1 hg
   refine Rds.mono (fun bl hb => ?_) g (Rds.of_pt g e5)
   rw [e1]
   exact RdSl.flatS hq hb e3
end Go.Vc
namespace Go.Vc
def ofB (l : List UInt8) : ByteArray := ⟨l.toArray⟩
def strsV (l : List (List UInt8)) : List Value := l.map fun x => .string (ofB x)
section
variable {P : Program} {w0 : World} {n : Nat} {sh : Shared} {Q : Exit → Env → List Deferred → List Asn → Prop} {k : List Item} {ρ : Env} {df : List Deferred} {Γ : List Asn} {hF : Heap}
variable {ops : Array Oper} {l : List (Fl × Nat × Oper)} {b : Fl} {i d : Nat} {ty : TypeId} {pos : String} {aft : Array Edge}
variable {x y : Operand} {t e : TypeId} {N cap bb : Nat} {D : Array (List UInt8)} {z : Int} {v : List UInt8}
def DatS (e : TypeId) (bb N cap : Nat) (D : Array (List UInt8)) : Asn := SlA e 1 (some ⟨bb, 0, none⟩) N cap (strsV D.toList)
theorem DatS.size {h : Heap} (hA : DatS e bb N cap D h) : D.size = N := by
 have := (SlA_len hA).1
 simpa [strsV] using this
end
end Go.Vc
namespace Go.Vc
section
variable {P : Program} {w0 : World} {n : Nat} {sh : Shared} {Q : Exit → Env → List Deferred → List Asn → Prop} {k : List Item} {ρ : Env} {df : List Deferred} {Γ : List Asn} {hF : Heap}
variable {ops : Array Oper} {l : List (Fl × Nat × Oper)} {b : Fl} {i d : Nat} {ty : TypeId} {pos : String} {aft : Array Edge}
variable {x y : Operand} {t T e t2 : TypeId} {agg : Bool} {sz bytes : Nat}
end
end Go.Vc
namespace Go.Vc
abbrev encY (b : ByteArray) : List Value := [.string b]
theorem RdSl.conv {α β : Type} {encE : α → List Value} {encF : β → List Value} {m : Nat} {w0 : World} {sh : Shared} {v : Value} {l : List α} (f : α → β) (hf : ∀ x, encF (f x) = encE x) (h : RdSl w0 sh encE m v l) : RdSl w0 sh encF m v (l.map f) := by
 obtain ⟨a, cap, h1, h2, h3⟩ := h
 refine ⟨a, cap, by rw [List.length_map]; exact h1, by rw [List.length_map]; exact h2, ?_⟩
 rcases h3 with h3 | ⟨b, off, c, T, fr, e, hh, hc⟩
 · exact .inl (by rw [h3]; rfl)
 · refine .inr ⟨b, off, c, T, fr, e, hh, fun i x hx => ?_⟩
   rw [List.getElem?_map] at hx
   cases hy : l[i]? with
   | none => rw [hy] at hx; cases hx
   | some y =>
     rw [hy] at hx
     cases hx
     rw [hf]
     exact hc i y hy
section
variable {P : Program} {w0 : World} {n : Nat} {sh : Shared} {Q : Exit → Env → List Deferred → List Asn → Prop} {k : List Item} {ρ : Env} {df : List Deferred} {Γ : List Asn} {φ : Shared → Prop}
theorem run_emptyR (φ : Shared → Prop) (hφ : φ []) (h : Run P w0 n sh Q k ρ df (Rds φ :: Γ)) : Run P w0 n sh Q k ρ df Γ := by
 refine ⟨?_⟩
 intro hF hsh a w ha hn hd hst
 exact h.go hF hsh a w ha hn hd (St.emp_head (Rds.emp hφ) hst)
theorem run_slR {α : Type} (encE : α → List Value) (i : Nat) {q : Nat} {T : TypeId} {a : Option Addr} {len cap : Nat} {l : List α} {cs : List Value} {Γ' : List Asn} (hi : getAt i Γ = some (SlA T q a len cap cs)) (hcs : cs = l.flatMap encE) (hq : ∀ x ∈ l, (encE x).length = q) (hl : l.length = len)
   (hput : putAt i (Rds fun bl => RdSl w0 bl encE q (.slice a len cap) l) Γ = some Γ') (h : Run P w0 n sh Q k ρ df Γ') : Run P w0 n sh Q k ρ df Γ := by
 subst hcs
 exact zef i _ hi (fun g hg => Rds.ofSl hq hl g hg) hput h
section
variable {ops : Array Oper} {l : List (Fl × Nat × Oper)} {b : Fl} {i d : Nat} {ty yt t : TypeId} {pos : String} {aft : Array Edge} {x y : Operand}
end
end
end Go.Vc
namespace Go.Vc
section
variable {P : Program} {w0 : World} {n : Nat} {sh : Shared} {Q : Exit → Env → List Deferred → List Asn → Prop} {k : List Item} {ρ : Env} {df : List Deferred} {Γ : List Asn}
variable {ops : Array Oper} {l : List (Fl × Nat × Oper)} {b : Fl} {i d : Nat} {ty : TypeId} {pos : String} {aft : Array Edge}
variable {x y : Operand} {src dst t e : TypeId} {s : ByteArray}
end
end Go.Vc
namespace Go.Vc
section
variable {P : Program} {w0 : World} {n : Nat} {sh : Shared} {Q : Exit → Env → List Deferred → List Asn → Prop} {k : List Item} {ρ : Env} {df : List Deferred} {Γ : List Asn}
variable {ops : Array Oper} {l : List (Fl × Nat × Oper)} {b : Fl} {i d : Nat} {ty : TypeId} {pos : String} {aft : Array Edge}
variable {x y : Operand} {t yt : TypeId} {u v : ByteArray}
theorem zds (hx : ev ρ x = .string u) (hy : ev ρ y = .string v) (he : u = v) (h : Reg P w0 n sh Q ops l k (ρ.set d (.bool true)) df Γ) :
   Reg P w0 n sh Q ops ((b, i, ⟨some d, .binOp .eql t x y yt, ty, pos, aft, none⟩) :: l) k ρ df Γ := reg_eqS hx hy (by rw [decide_eq_true he]; exact h)
theorem zdr (hx : ev ρ x = .string u) (hy : ev ρ y = .string v) (he : ¬ u = v) (h : Reg P w0 n sh Q ops l k (ρ.set d (.bool false)) df Γ) :
   Reg P w0 n sh Q ops ((b, i, ⟨some d, .binOp .eql t x y yt, ty, pos, aft, none⟩) :: l) k ρ df Γ := reg_eqS hx hy (by rw [decide_eq_false he]; exact h)
end
end Go.Vc
namespace Sim
end Sim
namespace Go.Vc
section
variable {P : Program} {w0 : World} {n : Nat} {sh : Shared} {Q : Exit → Env → List Deferred → List Asn → Prop} {k : List Item} {ρ : Env} {df : List Deferred} {Γ : List Asn}
variable {ops : Array Oper} {l : List (Fl × Nat × Oper)} {b : Fl} {i d : Nat} {ty : TypeId} {pos : String} {aft : Array Edge}
variable {x y : Operand} {t yt : TypeId} {u : ByteArray}
end
end Go.Vc
namespace Go.Vc
theorem Fn.know {P : Program} {w0 : World} {sh : Shared} {f : FuncId} {args : List Value} {Γ : List Asn} {R R' : Value → List Asn → Prop} (h : Fn P w0 sh f args Γ R)
   (hr : ∀ v Γ', R v Γ' → (∃ hF w, St w0 hF Γ' w) → R' v Γ') : Fn P w0 sh f args Γ R' :=
 ⟨h.enters, fun hF w hsh hst => (h.calls hF w hsh hst).mono fun _ _ ⟨v, Γ', h1, h2, h3⟩ => ⟨v, Γ', h1, hr _ _ h2 ⟨_, _, h3⟩, h3⟩⟩
theorem Rds.st {w0 : World} {φ : Shared → Prop} {Γ : List Asn} (h : ∃ hF w, St w0 hF (Rds φ :: Γ) w) : ∃ bl, φ bl := by
 obtain ⟨hF, w, h⟩ := h
 obtain ⟨g, ⟨bl, _, hb⟩, _⟩ := h.head
 exact ⟨bl, hb⟩
end Go.Vc
namespace Go.Vc
section
variable {P : Program} {w0 : World} {n : Nat} {sh : Shared} {Q : Exit → Env → List Deferred → List Asn → Prop} {k : List Item} {ρ : Env} {df : List Deferred} {Γ : List Asn}
variable {ops : Array Oper} {l : List (Fl × Nat × Oper)} {b : Fl} {i d : Nat} {ty : TypeId} {pos : String} {aft : Array Edge}
variable {x y z : Operand} {t kt et : TypeId} {kd : IntKind} {r : Nat} {a : Int} {ml : List (Int × Value)}
theorem reg_insert (j : Nat) {Γ' : List Asn} {u : Value} {dst : Option Tmp} [hT : TUnd P t (.map kt et)] [hK : TUnd P kt (.int kd)] (hx : ev ρ x = .map (some r)) (hy : ev ρ y = .int .i64 a) (hz : ev ρ z = u)
   (hj : getAt j Γ = some (pt r (mapI ml))) (hput : putAt j (pt r (mapI (ins ml a u))) Γ = some Γ')
   (h : Reg P w0 n sh Q ops l k (ρ.setO dst undef) df Γ') : Reg P w0 n sh Q ops ((Fl.loud, i, ⟨dst, .insert t x y z, ty, pos, aft, none⟩) :: l) k ρ df Γ := by
 refine reg_loud rfl (fun v' df' Γ'' => v' = undef ∧ df' = df ∧ Γ'' = Γ') (fun hF _ w hst => ?_) (fun v' df' Γ' ⟨h1, h2, h3⟩ => by subst h1; subst h2; subst h3; exact h)
 obtain ⟨rr, hp1, hp2⟩ := putAt_perm hj hput
 have hst1 := hst.perm hp1
 simp only [execOp, hx, hy, hz, Sem.run_bind, mapUpdate_run hT.und hK.und hst1.get.2, Sem.run_pure, Result.andThen_ok]
 have hlt := hst1.lt
 exact ⟨Γ', ⟨rfl, rfl, rfl⟩, (St.upd (w' := { w with heap := w.heap.setIfInBounds r (mapI (ins ml a u)) }) hst1 rfl rfl rfl (by simp) (by simp [hlt]) (fun x hx => by simp [Array.getElem?_setIfInBounds_ne (Ne.symm hx)])).perm hp2⟩
end
end Go.Vc
namespace Go.Vc
section
variable {P : Program} {w0 : World} {n : Nat} {sh : Shared} {Q : Exit → Env → List Deferred → List Asn → Prop} {k : List Item} {ρ : Env} {df : List Deferred} {Γ : List Asn} {φ : Shared → Prop}
theorem run_sub {sh' : Shared} (hs : ∀ p ∈ sh, p ∈ sh') (h : Run P w0 n sh Q k ρ df Γ) : Run P w0 n sh' Q k ρ df Γ := ⟨fun hF hsh => h.go hF fun p hp => hsh p (hs p hp)⟩
theorem run_shareB (is : List Nat) {Γr : List Asn} (hp : pick is Γ = some ([Rds φ], Γr)) (h : ∀ bl, φ bl → Run P w0 n (sh ++ bl) Q k ρ df Γr) : Run P w0 n sh Q k ρ df Γ :=
 zeu is hp fun _ bl h1 h2 h3 => run_sub (fun p hp => (List.mem_append.1 hp).elim (h1 p) (h2 p)) (h bl h3)
end
end Go.Vc
namespace Go.Vc
end Go.Vc
namespace Go.Vc
section
variable {H : Type} {enc : TypeId × Value → H} {P : Program} {w : World} {base : Nat} {spare : Nat → Bool} {held : Bool} {t e : TypeId}
end
end Go.Vc
namespace Go.Vc
section
variable {P : Program} {w0 : World} {n : Nat} {sh : Shared} {Q : Exit → Env → List Deferred → List Asn → Prop} {k : List Item} {ρ : Env} {df : List Deferred} {Γ : List Asn}
variable {ops : Array Oper} {l : List (Fl × Nat × Oper)} {b : Fl} {i d : Nat} {ty : TypeId} {pos : String} {aft : Array Edge}
variable {x y : Operand} {t yt : TypeId} {u v : ByteArray}
end
end Go.Vc
namespace Go.Vc
section
variable {H : Type} {enc : TypeId × Value → H} {P : Program} {w : World} {base : Nat} {spare : Nat → Bool} {held : Bool} {t e : TypeId}
end
end Go.Vc
namespace Go.Vc
section
variable {P : Program} {w0 : World} {n : Nat} {sh : Shared} {Q : Exit → Env → List Deferred → List Asn → Prop} {k : List Item} {ρ : Env} {df : List Deferred} {Γ : List Asn}
variable {ops : Array Oper} {rest : List (Fl × Nat × Oper)} {b : Fl} {i d : Nat} {ty : TypeId} {pos : String} {aft : Array Edge} {x : Operand}
variable {α : Type} {encE : α → List Value} {m : Nat} {l : List α}
theorem RdSl.head {a : Option Addr} {cap q : Nat} (h : RdSl w0 sh encE m (.slice a l.length cap) l) (hq : q ≤ l.length) : RdSl w0 sh encE m (.slice a q cap) (l.take q) := by
 obtain ⟨a', cap', h1, h0, h2⟩ := h
 cases h1
 have hl : (l.take q).length = q := by rw [List.length_take]; omega
 refine ⟨a, cap, by rw [hl], by omega, ?_⟩
 rcases h2 with rfl | ⟨b, off, c, T, fr, e, hh, hc⟩
 · exact .inl (by simp)
 · refine .inr ⟨b, off, c, T, fr, e, hh, fun i x hx => ?_⟩
   rw [List.getElem?_take] at hx
   split at hx
   · exact hc i x hx
   · cases hx
end
end Go.Vc
namespace Go.Vc
def BornOk (es : List MapEntry) (clock : Nat) : Prop := (es.map (·.born)).Nodup ∧ ∀ e ∈ es, e.born < clock
theorem modify_born {f : MapEntry → MapEntry} (hf : ∀ e, (f e).born = e.born) : ∀ (es : List MapEntry) (j : Nat), (es.modify j f).map (·.born) = es.map (·.born)
 | [], j => by simp
 | e :: es, 0 => by simp [hf]
 | e :: es, j + 1 => by simp [modify_born hf es j]
theorem BornOk.modify {es : List MapEntry} {clock j : Nat} {f : MapEntry → MapEntry} (h : BornOk es clock) (hf : ∀ e, (f e).born = e.born) : BornOk (es.modify j f) clock := by
 have hm := modify_born hf es j
 refine ⟨by rw [hm]; exact h.1, fun e he => ?_⟩
 have : e.born ∈ (es.modify j f).map (·.born) := List.mem_map_of_mem he
 rw [hm] at this
 obtain ⟨e', h1, h2⟩ := List.mem_map.1 this
 rw [← h2]; exact h.2 e' h1
theorem BornOk.push {es : List MapEntry} {clock : Nat} (h : BornOk es clock) (k v : Value) : BornOk (es ++ [{ key := k, val := v, born := clock }]) (clock + 1) := by
 refine ⟨?_, fun e he => ?_⟩
 · rw [List.map_append, List.nodup_append]
   refine ⟨h.1, by simp, fun a ha b hb e => ?_⟩
   rw [List.map_singleton, List.mem_singleton] at hb
   have hb : b = clock := hb
   obtain ⟨x, hx, rfl⟩ := List.mem_map.1 ha
   have := h.2 x hx
   omega
 · rcases List.mem_append.1 he with he | he
   · have := h.2 e he; omega
   · rw [List.mem_singleton.1 he]; exact Nat.lt_succ_self _
section
variable {P : Program} {w0 : World} {n : Nat} {sh : Shared} {Q : Exit → Env → List Deferred → List Asn → Prop} {k : List Item} {ρ : Env} {df : List Deferred} {Γ : List Asn} {hF : Heap}
variable {ops : Array Oper} {l : List (Fl × Nat × Oper)} {b : Fl} {i d : Nat} {ty : TypeId} {pos : String} {aft : Array Edge}
variable {x y z : Operand} {t kt et : TypeId} {r : Nat} {a : ByteArray} {ml : SM} {zv : Value}
end
end Go.Vc
namespace Go.Vc
section
variable {P : Program} {w0 : World} {n : Nat} {sh : Shared} {Q : Exit → Env → List Deferred → List Asn → Prop} {k : List Item} {ρ : Env} {df : List Deferred} {Γ : List Asn} {hF : Heap}
variable {r : Nat} {ml : SM}
end
end Go.Vc
namespace Go.Vc
section
variable {P : Program} {w0 : World} {n : Nat} {sh : Shared} {Q : Exit → Env → List Deferred → List Asn → Prop} {k : List Item} {ρ : Env} {df : List Deferred} {Γ : List Asn} {hF : Heap}
theorem run_lendSl {α : Type} (encE : α → List Value) (is : List Nat) {q : Nat} {T : TypeId} {a : Option Addr} {len cap : Nat} {l : List α} {Γr : List Asn} (hp : pick is Γ = some ([SlA T q a len cap (l.flatMap encE)], Γr)) (hq : ∀ x ∈ l, (encE x).length = q) (hl : l.length = len)
   (h : ∀ sh', (∀ p ∈ sh, p ∈ sh') → RdSl w0 sh' encE q (.slice a len cap) l → Run P w0 n sh' (fun e ρ df Γ' => Q e ρ df (Γ' ++ [SlA T q a len cap (l.flatMap encE)])) k ρ df Γr) : Run P w0 n sh Q k ρ df Γ := by
 refine ⟨?_⟩
 intro hF hsh w1 w ha hn hd hst
 have h1 : St w0 hF (Γr ++ [SlA T q a len cap (l.flatMap encE)]) w := (hst.perm (pick_perm hp)).perm List.perm_append_comm
 obtain ⟨g, hg, hdj, hst2⟩ := h1.split
 have hS := Stars.one.1 hg
 subst hl
 cases a with
 | none =>
   obtain ⟨e1, e2, e3, e4⟩ := SlA.none_iff.1 hS
   subst e4
   have hl : l = [] := List.length_eq_zero_iff.1 e1
   subst hl
   refine ((h sh (fun _ h => h) RdSl.nil).go hF hsh w1 w ha hn hd ?_).mono ?_
   · simpa [Heap.emp_or] using hst2
   · rintro e a' w' ⟨h3, Γ', h4, h5⟩
     exact ⟨h3, _, h4, (St.emp_head (A := SlA T q none 0 cap ([].flatMap encE)) hS h5).perm (List.perm_append_comm (l₁ := [_]))⟩
 | some ad =>
   obtain ⟨b', spare, e1, e2, e3, e4, e5⟩ := SlA.some_iff.1 hS
   have hg1 := e5
   simp only [pt] at hg1
   subst hg1
   have hsub : ∀ c oc, hF c = some oc → ((Heap.one b' (.cells (List.toArray (l.flatMap encE ++ spare)) T (0, 0))).or hF) c = some oc := fun c oc hc => by
     rcases hdj c with e | e
     · simp [Heap.or, e, hc]
     · rw [e] at hc; cases hc
   refine ((h ((b', .cells (List.toArray (l.flatMap encE ++ spare)) T (0, 0)) :: sh) (fun p hp => List.mem_cons_of_mem _ hp) (by rw [e1]; exact RdSl.flatS hq (List.mem_cons_self ..) e3)).go _ (fun p hp => ?_) w1 w ha hn hd hst2).mono ?_
   · rcases List.mem_cons.1 hp with rfl | hp
     · simp [Heap.or, Heap.one]
     · exact hsub _ _ (hsh p hp)
   · rintro e a' w' ⟨h3, Γ', h4, h5⟩
     exact ⟨h3, _, h4, h5.join hg hdj⟩
end
end Go.Vc
namespace Go.Vc
section
variable {P : Program} {w0 : World} {n : Nat} {sh : Shared} {Q : Exit → Env → List Deferred → List Asn → Prop} {k : List Item} {ρ : Env} {df : List Deferred} {Γ : List Asn} {hF : Heap}
variable {ops : Array Oper} {l : List (Fl × Nat × Oper)} {b : Fl} {i d : Nat} {ty : TypeId} {pos : String} {aft : Array Edge}
variable {x : Operand} {t kt et : TypeId} {r clock : Nat} {ml : SM} {es : List MapEntry}
structure RdX (w0 : World) (sh : Shared) (r : Nat) (es : List MapEntry) (clock : Nat) (ml : SM) : Prop where
 h : ∀ hF Γ w, Sh sh hF → St w0 hF Γ w → w.heap[r]? = some (.map es.toArray clock)
 ok : EsOk es ml
 born : BornOk es clock
theorem RdX.rd (h : RdX w0 sh r es clock ml) : RdM w0 sh r ml := ⟨es, clock, h.h, h.ok⟩
theorem RdX.mono {sh' : Shared} (h : RdX w0 sh r es clock ml) (hs : ∀ p ∈ sh, p ∈ sh') : RdX w0 sh' r es clock ml :=
 ⟨fun hF Γ w hsh hst => h.h hF Γ w (fun p hp => hsh p (hs p hp)) hst, h.ok, h.born⟩
end
end Go.Vc
namespace Go.Vc
section
variable {P : Program} {w0 : World} {sh : Shared} {Γ : List Asn}
end
end Go.Vc
namespace Go.Vc
section
variable {P : Program} {w0 : World} {n : Nat} {sh : Shared} {Q : Exit → Env → List Deferred → List Asn → Prop} {k : List Item} {ρ : Env} {df : List Deferred} {Γ : List Asn}
variable {ops : Array Oper} {rest : List (Fl × Nat × Oper)} {b : Fl} {i d : Nat} {ty : TypeId} {pos : String} {aft : Array Edge} {x lo hi : Operand} {t : TypeId} {s : ByteArray}
theorem reg_subS {q z : Int} [hT : TUnd P t .string] (hx : ev ρ x = .string s) (hl : ev ρ lo = .int .i64 q) (hh : ev ρ hi = .int .i64 z) (hb : 0 ≤ q ∧ q ≤ z ∧ z ≤ s.size)
   (h : Reg P w0 n sh Q ops rest k (ρ.set d (.string (s.extract q.toNat z.toNat))) df Γ) : Reg P w0 n sh Q ops ((b, i, ⟨some d, .slice t x (some lo) (some hi) none, ty, pos, aft, none⟩) :: rest) k ρ df Γ :=
 reg_quiet rfl (fun hF _ => quiet_of_run fun w => by
   obtain ⟨h0, h1, h2⟩ := hb
   have e1 : (0 : Int) ≤ z := by omega
   have e2 : q ≤ ((z.toNat : Nat) : Int) := by omega
   simp only [execOp, hx, Option.map_some, Option.map_none, hl, hh, Instr.sliceAt, Instr.slice, Sem.run_bind, run_underlying hT.und, Result.andThen_ok, Instr.sliceBounds, Instr.sliceBound, asIntOf, Sem.run_pure, Option.isSome_none, Bool.false_eq_true, if_false]
   simp only [h0, e1, e2, h2, and_self, if_true, Sem.run_pure, Result.andThen_ok]) h
theorem reg_preS {z : Int} [hT : TUnd P t .string] (hx : ev ρ x = .string s) (hh : ev ρ hi = .int .i64 z) (hb : 0 ≤ z ∧ z ≤ s.size)
   (h : Reg P w0 n sh Q ops rest k (ρ.set d (.string (s.extract 0 z.toNat))) df Γ) : Reg P w0 n sh Q ops ((b, i, ⟨some d, .slice t x none (some hi) none, ty, pos, aft, none⟩) :: rest) k ρ df Γ :=
 reg_quiet rfl (fun hF _ => quiet_of_run fun w => by
   obtain ⟨h0, h2⟩ := hb
   simp only [execOp, hx, Option.map_some, Option.map_none, hh, Instr.sliceAt, Instr.slice, Sem.run_bind, run_underlying hT.und, Result.andThen_ok, Instr.sliceBounds, Instr.sliceBound, asIntOf, Sem.run_pure, Option.isSome_none, Bool.false_eq_true, if_false]
   simp only [h0, h2, and_self, if_true, Sem.run_pure, Result.andThen_ok]) h
theorem reg_subSe {q z : Int} {r : ByteArray} [hT : TUnd P t .string] (hx : ev ρ x = .string s) (hl : ev ρ lo = .int .i64 q) (hh : ev ρ hi = .int .i64 z) (hb : 0 ≤ q ∧ q ≤ z ∧ z ≤ s.size) (he : s.extract q.toNat z.toNat = r)
   (h : Reg P w0 n sh Q ops rest k (ρ.set d (.string r)) df Γ) : Reg P w0 n sh Q ops ((b, i, ⟨some d, .slice t x (some lo) (some hi) none, ty, pos, aft, none⟩) :: rest) k ρ df Γ := by
 subst he
 exact reg_subS hx hl hh hb h
theorem reg_preSe {z : Int} {r : ByteArray} [hT : TUnd P t .string] (hx : ev ρ x = .string s) (hh : ev ρ hi = .int .i64 z) (hb : 0 ≤ z ∧ z ≤ s.size) (he : s.extract 0 z.toNat = r)
   (h : Reg P w0 n sh Q ops rest k (ρ.set d (.string r)) df Γ) : Reg P w0 n sh Q ops ((b, i, ⟨some d, .slice t x none (some hi) none, ty, pos, aft, none⟩) :: rest) k ρ df Γ := by
 subst he
 exact reg_preS hx hh hb h
end
end Go.Vc
namespace Go.Vc
section
variable {P : Program} {w0 : World} {n : Nat} {sh : Shared} {Q : Exit → Env → List Deferred → List Asn → Prop} {k : List Item} {ρ : Env} {df : List Deferred} {Γ : List Asn} {hF : Heap}
variable {ops : Array Oper} {l : List (Fl × Nat × Oper)} {b : Fl} {i d : Nat} {ty : TypeId} {pos : String} {aft : Array Edge}
variable {x y : Operand} {t T e : TypeId} {agg : Bool} {sz bytes : Nat} {cs new : List Value}
theorem zdv {kd : IntKind} {u v r : Int} {yt : TypeId} (hx : ev ρ x = .int kd u) (hy : ev ρ y = .int kd v) (hr : kd.wrap (u + v) = r) (h : Reg P w0 n sh Q ops l k (ρ.set d (.int kd r)) df Γ) :
   Reg P w0 n sh Q ops ((b, i, ⟨some d, .binOp .add t x y yt, ty, pos, aft, none⟩) :: l) k ρ df Γ := zdu hx hy (by rw [hr]; exact h)
end
theorem St.push {w0 : World} {hF : Heap} {Γ : List Asn} : ∀ (os : List Obj) {w : World}, St w0 hF Γ w → St w0 hF Γ { w with heap := w.heap ++ os.toArray }
 | [], w, h => by simpa using h
 | o :: os, w, h => by
   have h1 := St.push os (h.alloc o).drop
   simpa using h1
theorem St.grow {w0 w : World} {hF : Heap} {Γ : List Asn} (h : St w0 hF Γ w) (n : Nat) (os : Array Obj) : St w0 hF Γ (Go.Sort.grow (w.drewN n) os) := by
 have h1 := St.push os.toList (h.drew (w.drawn + n))
 have e : w.heap ++ os.toList.toArray = w.heap ++ os := by simp
 rw [show (Go.Sort.grow (w.drewN n) os) = { w with heap := w.heap ++ os, drawn := w.drawn + n } from rfl, ← e]
 exact h1
end Go.Vc
namespace Go.Vc
section
variable {P : Program} {w0 : World} {n : Nat} {sh : Shared} {Q : Exit → Env → List Deferred → List Asn → Prop} {k : List Item} {ρ : Env} {df : List Deferred} {Γ Γp Γr : List Asn} {hF : Heap}
variable {ops : Array Oper} {l : List (Fl × Nat × Oper)} {i : Nat} {ty : TypeId} {pos : String} {aft : Array Edge}
structure Yld (P : Program) (w0 : World) (sh : Shared) (L : Nat) (args : List Value) (Γ : List Asn) (R : Bool → List Asn → Prop) : Prop where
 go : ∀ hF w, Sh sh hF → St w0 hF Γ w → ∃ f tmps assign body, (Instr.yield L args.toArray).run P w = .ok (.round L f tmps assign body) w ∧
   RoundIn Fence.wide 0 P L f tmps assign body w fun e w' => ∃ b Γ', e = .returned (.bool b) ∧ R b Γ' ∧ St w0 hF Γ' w'
theorem reg_yield {shf : Shared} {L : Nat} {args : List Value} {R : Bool → List Asn → Prop} {fo : Operand} {cargs : Array Operand} {ats : Array TypeId} (is : List Nat) {dst : Option Tmp} (spec : Yld P w0 shf L args Γp R)
   (hfo : ev ρ fo = .func (.yield L) #[] #[]) (hargs : cargs.toList.map (ev ρ) = args) (hp : pick is Γ = some (Γp, Γr)) (hsh : ∀ p ∈ shf, p ∈ sh)
   (h : ∀ b Γ', R b Γ' → Reg P w0 n sh Q ops l k (ρ.setO dst (.bool b)) df (Γ' ++ Γr)) :
   Reg P w0 n sh Q ops ((Fl.loud, i, ⟨dst, .call ⟨.value fo, cargs, ats⟩, ty, pos, aft, none⟩) :: l) k ρ df Γ := by
 refine reg_loud rfl (fun v df' Γ' => ∃ b Γ'', v = .bool b ∧ R b Γ'' ∧ df' = df ∧ Γ' = Γ'' ++ Γr) (fun hF hs w hst => ?_) (fun v df' Γ' ⟨b, Γ'', h1, hR, h2, h3⟩ => by subst h1; subst h2; subst h3; exact h b Γ'' hR)
 have e1 : cargs.map (ev ρ) = args.toArray := by rw [← hargs]; apply Array.ext'; simp
 obtain ⟨g, hg, hd, hst1⟩ := (hst.perm (pick_perm hp)).split
 have hsh1 : Sh shf (g.or hF) := sh_or (fun p hp => hs p (hsh p hp)) hd
 obtain ⟨f, tmps, assign, body, hy, hR⟩ := spec.go _ w hsh1 hst1
 have hrun : (execOp (ev ρ) ⟨dst, .call ⟨.value fo, cargs, ats⟩, ty, pos, aft, none⟩).run P w = .ok (.round L f tmps assign body) w := by
   simp only [execOp, resolve, Deferred.ofValue, hfo, Sem.run_bind, Sem.run_pure, Result.andThen_ok, invoke, e1]
   simpa using hy
 rw [hrun]
 exact hR.mono fun e w' ⟨b, Γ', he, hR', hst'⟩ => ⟨.bool b, Γ' ++ Γr, he, ⟨b, Γ', rfl, hR', rfl, rfl⟩, hst'.join hg hd⟩
def rndQ (R : Option Code → List Asn → Prop) : Exit → Env → List Deferred → List Asn → Prop
 | .normal, _, _, Γ => R none Γ
 | .ret, _, _, Γ => R (some .ret) Γ
 | .exit id, _, _, Γ => R (some (.exit id)) Γ
 | _, _, _, _ => False
def loopA (L : Nat) (rec : Loop) (jump : Option Code) : Asn := pt L (.loop { rec with state := if jump.isNone then .ready else .done, pending := jump })
theorem St.setLoop {L : Nat} {r r' : Loop} {w : World} (h : St w0 hF (pt L (.loop r) :: Γ) w) : St w0 hF (pt L (.loop r') :: Γ) (w.putObj L (.loop r')) := by
 have hlt := h.lt
 exact h.upd rfl rfl rfl (by simp [World.putObj]) (by simp [World.putObj, hlt]) (fun x hx => by simp [World.putObj, Array.getElem?_setIfInBounds_ne (Ne.symm hx)])
theorem yld_round {L : Nat} {fn : FuncId} {tmps : Array Value} {p D : Nat} {assign body : Code} {v : Value} {R : Option Code → List Asn → Prop} (hρ : envOf { tmps := tmps, defers := [] } = ρ) (hn : tmps.size = n) (hp : p < n)
   (ha : noDefC assign = true) (hb : noDefC body = true)
   (h : Run P w0 n sh (fun e ρ' df' Γ' => e = .normal ∧ Run P w0 n sh (rndQ R) [.code body] ρ' df' Γ') [.code assign] (ρ.set p v) [] Γ) :
   Yld P w0 sh L [v] (loopA L ⟨.ready, none, fn, tmps, #[p], assign, body, D⟩ none :: Γ)
     (fun b Γ' => ∃ jump Γ'', b = jump.isNone ∧ R jump Γ'' ∧ Γ' = loopA L ⟨.ready, none, fn, tmps, #[p], assign, body, D⟩ jump :: Γ'') := by
 refine ⟨fun hF w hsh hst => ?_⟩
 simp only [loopA] at hst ⊢
 have hl := hst.get.2
 refine ⟨fn, tmps.setIfInBounds p v, assign, body, by rw [run_yield hl (by simp)]; simp, roundIn_of_wpIn trivial ?_⟩
 have hfr : ∀ {o : Obj} {Γ : List Asn} {w : World}, St w0 hF (pt L o :: Γ) w → Disj (Heap.one L o) hF ∧ St w0 ((Heap.one L o).or hF) Γ w := fun {o Γ w} hst => by
   obtain ⟨g, hg, hd, h1⟩ := (show St w0 hF (Γ ++ [pt L o]) w from hst.perm (List.perm_append_comm (l₁ := [_]))).split
   have hg1 : pt L o g := Stars.one.1 hg
   simp only [pt] at hg1
   subst hg1
   exact ⟨hd, h1⟩
 have hback : ∀ {o : Obj} {Γ : List Asn} {w : World}, Disj (Heap.one L o) hF → St w0 ((Heap.one L o).or hF) Γ w → St w0 hF (pt L o :: Γ) w := fun {o Γ w} hd hst =>
   (hst.join (Stars.one.2 (show pt L o (Heap.one L o) from rfl)) hd).perm (List.perm_append_comm (l₂ := [_]))
 obtain ⟨hd1, hst1⟩ := hfr hst
 have henv : envOf { tmps := tmps.setIfInBounds p v, defers := [] } = ρ.set p v := by
   have := envOf_put { tmps := tmps, defers := [] } (some p) v (fun d hd => by cases hd; show p < tmps.size; omega)
   rw [hρ] at this
   exact this
 refine wpIn_mono (wpIn_of_wpk (ro := some L) (.inr ha) (h.go _ (sh_or hsh hd1) _ w henv (by simp [hn]) rfl hst1)) ?_
 rintro e a1 w1 ⟨hn1, Γ1, ⟨he, hr⟩, hst2⟩
 subst he
 have hst3 := hback hd1 hst2
 refine ⟨_, run_beginRound hst3.get.2 rfl, ?_⟩
 obtain ⟨hd4, hst4⟩ := hfr (hst3.setLoop (r' := { state := .busy, pending := none, fn, tmps, params := #[p], assign, body, defers := D }))
 refine wpIn_mono (wpIn_of_wpk (ro := some L) (.inr hb) (hr.go _ (sh_or hsh hd4) a1 _ rfl hn1 rfl hst4)) ?_
 rintro e a2 w2 ⟨hn2, Γ2, hq, hst5⟩
 have hst6 := hback hd4 hst5
 cases e with
 | normal => exact ⟨_, _, run_endRound none hst6.get.2, true, _, rfl, ⟨none, Γ2, rfl, hq, rfl⟩, hst6.setLoop⟩
 | ret => exact ⟨_, _, run_endRound (some .ret) hst6.get.2, false, _, rfl, ⟨some .ret, Γ2, rfl, hq, rfl⟩, hst6.setLoop⟩
 | exit id => exact ⟨_, _, run_endRound (some (.exit id)) hst6.get.2, false, _, rfl, ⟨some (.exit id), Γ2, rfl, hq, rfl⟩, hst6.setLoop⟩
 | _ => exact hq.elim
def markA (D : Nat) : Asn := pt D (.deferred (some []))
abbrev markD (D : Nat) : Deferred := { target := .collected D, args := #[] }
theorem leaves_mark {fn : Func} {R : Value → List Asn → Prop} {D : Nat} (is : List Nat) (hp : pick is Γ = some ([markA D], Γr)) (h : LeavesS P w0 sh fn ρ df Γr R) : LeavesS P w0 sh fn ρ (markD D :: df) Γ R := by
 intro hF a w hsh ha hst
 have h1 : St w0 hF (pt D (.deferred (some [])) :: Γr) w := hst.perm (pick_perm hp)
 refine ⟨by simp, .inl ⟨D, _, rfl, run_takeDeferred h1.get.2, ?_⟩⟩
 have h2 : St w0 hF (pt D (.deferred none) :: Γr) (w.putObj D (.deferred none)) := by
   have hlt := h1.lt
   exact h1.upd rfl rfl rfl (by simp [World.putObj]) (by simp [World.putObj, hlt]) (fun x hx => by simp [World.putObj, Array.getElem?_setIfInBounds_ne (Ne.symm hx)])
 exact h hF a _ hsh ha h2.drop
def afterQ (P : Program) (w0 : World) (n : Nat) (sh : Shared) (Q : Exit → Env → List Deferred → List Asn → Prop) (k : List Item) (ρ : Env) (df : List Deferred) (Γ : List Asn) : Option Code → Prop
 | none => Run P w0 n sh Q k ρ df Γ
 | some .ret => Q .ret ρ df Γ
 | some (.exit id) => (∃ k1, exitTo id k = some k1 ∧ Run P w0 n sh Q k1 ρ df Γ) ∨ (exitTo id k = none ∧ Q (.exit id) ρ df Γ)
 | _ => False
theorem run_rangeFunc {β : Type} {g : Operand} {p : Tmp} {assign body : Code} {gf : FuncId} {lb : Array Value} (is : List Nat) (val : β → Value) (I : β → List Asn) (R : β → Option Code → List Asn → Prop) (S : Option Code → List Asn → Prop)
   (hg : ev ρ g = .func (.func gf) #[] lb) (hp : Nat.blt p n = true) (hnd : (noDefC assign && noDefC body) = true) (hpk : pick is Γ = some (Γp, Γr))
   (hround : ∀ x, Run P w0 n sh (fun e ρ' df' Γ' => e = .normal ∧ Run P w0 n sh (rndQ (R x)) [.code body] ρ' df' Γ') [.code assign] (ρ.set p (val x)) [] (I x))
   (hit : ∀ (L : Nat) (lp : Option Code → Asn), (∀ x, Yld P w0 sh L [val x] (lp none :: I x) (fun b Γ' => ∃ jump Γ'', b = jump.isNone ∧ R x jump Γ'' ∧ Γ' = lp jump :: Γ'')) →
     Fn P w0 sh gf (.func (.yield L) #[] #[] :: lb.toList) (lp none :: Γp) (fun _ Γ' => ∃ jump Γ'', S jump Γ'' ∧ Γ' = lp jump :: Γ''))
   (hk : ∀ D jump Γ'', S jump Γ'' → afterQ P w0 n sh Q k ρ (markD D :: df) (markA D :: Γ'' ++ Γr) jump) :
   Run P w0 n sh Q (.code (.rangeFunc g #[p] assign body) :: k) ρ df Γ := by
 refine ⟨fun hF hsh a w ha hn hd hst => wpk_of_cutR fun ro hro => ?_⟩
 have hro' : ro = none := hro.resolve_right (by simp [noDefC])
 subst hro'
 simp only [Bool.and_eq_true] at hnd
 have hp := Nat.le_of_ble_eq_true hp
 refine wpIn_rangeFunc ?_
 intro fn _
 obtain ⟨w1, hw1⟩ : ∃ w1, (w.alloc (.deferred (some []))).alloc (.loop ⟨.ready, none, fn, a.tmps, #[p], assign, body, w.heap.size⟩) = w1 := ⟨_, rfl⟩
 have hst1 : St w0 hF (loopA (w.heap.size + 1) ⟨.ready, none, fn, a.tmps, #[p], assign, body, w.heap.size⟩ none :: Γp ++ markA w.heap.size :: Γr) w1 := by
   have h1 := (hst.perm (pick_perm hpk)).alloc (.deferred (some []))
   have h2 := h1.alloc (.loop ⟨.ready, none, fn, a.tmps, #[p], assign, body, w.heap.size⟩)
   rw [show ({ w with heap := w.heap.push (.deferred (some [])) } : World).heap.size = w.heap.size + 1 by simp] at h2
   rw [← hw1]
   refine (h2.perm ?_)
   exact (List.Perm.cons _ (List.perm_middle (l₁ := Γp)).symm)
 obtain ⟨gh, hgh, hdj, hst2⟩ := hst1.split
 have hY : ∀ x, Yld P w0 sh (w.heap.size + 1) [val x] (loopA (w.heap.size + 1) ⟨.ready, none, fn, a.tmps, #[p], assign, body, w.heap.size⟩ none :: I x)
     (fun b Γ' => ∃ jump Γ'', b = jump.isNone ∧ R x jump Γ'' ∧ Γ' = loopA (w.heap.size + 1) ⟨.ready, none, fn, a.tmps, #[p], assign, body, w.heap.size⟩ jump :: Γ'') := fun x =>
   yld_round (by rw [← ha]; rfl) hn hp hnd.1 hnd.2 (hround x)
 have hfn := hit (w.heap.size + 1) (loopA (w.heap.size + 1) ⟨.ready, none, fn, a.tmps, #[p], assign, body, w.heap.size⟩) hY
 refine ⟨w.heap.size + 1, [markD w.heap.size], w1, { target := .fn (.func gf) lb, args := #[.func (.yield (w.heap.size + 1)) #[] #[]] }, w1, gf,
   #[.func (.yield (w.heap.size + 1)) #[] #[]] ++ lb, w1, ?_, ?_, fun _ _ => trivial, ?_, fun h => by simp [FR, Fence.wide] at h, callsIn_FR ?_⟩
 · rw [← hw1]; exact run_enterLoop_outer _ _ _ _ _
 · have hg' : a.eval g = .func (.func gf) #[] lb := by rw [eval_ev, ha]; exact hg
   simp only [resolve, hg']
   simp [go_sem]
 · simp only [invoke]; exact hfn.enters _ _
 · have hc := hfn.calls _ w1 (sh_or hsh hdj) hst2
   have e1 : (Value.func (.yield (w.heap.size + 1)) #[] #[] :: lb.toList).toArray = #[.func (.yield (w.heap.size + 1)) #[] #[]] ++ lb := by apply Array.ext'; simp
   rw [e1] at hc
   refine hc.mono ?_
   rintro e w2 ⟨v, Γ2, rfl, ⟨jump, Γ'', hS, rfl⟩, hst3⟩
   have hst4 := hst3.join hgh hdj
   have hst5 : St w0 hF (loopA (w.heap.size + 1) ⟨.ready, none, fn, a.tmps, #[p], assign, body, w.heap.size⟩ jump :: (Γ'' ++ markA w.heap.size :: Γr)) w2 := hst4
   simp only [loopA] at hst5
   have hend := run_endLoop (P := P) hst5.get.2 (by cases jump <;> simp)
   have hst6 := (hst5.setLoop (r' := ⟨.exhausted, jump, fn, a.tmps, #[p], assign, body, w.heap.size⟩)).drop
   have hst7 : St w0 hF (markA w.heap.size :: Γ'' ++ Γr) _ := hst6.perm List.perm_middle
   refine ⟨jump, _, hend, ?_⟩
   have hk' := hk w.heap.size jump Γ'' hS
   have hdd : [markD w.heap.size] ++ a.defers = markD w.heap.size :: df := by rw [hd]; rfl
   cases jump with
   | none => exact hk'.go hF hsh _ _ ha hn hdd hst7
   | some c =>
     cases c <;> first|exact hk'.elim | skip
     case ret => exact wpIn_ret ⟨hn, _, by rw [← hdd, ← ha] at hk'; exact hk', hst7⟩
     case exit id =>
       refine wpIn_exit ?_
       rcases hk' with ⟨k1, h1, h2⟩ | ⟨h1, h2⟩
       · exact .inl ⟨k1, h1, h2.go hF hsh _ _ ha hn hdd hst7⟩
       · exact .inr ⟨h1, hn, _, by rw [← hdd, ← ha] at h2; exact h2, hst7⟩
end
end Go.Vc
namespace Go.Vc
section
variable {P : Program} {w0 : World} {n : Nat} {sh : Shared} {Q : Exit → Env → List Deferred → List Asn → Prop} {k : List Item} {ρ : Env} {df : List Deferred} {Γ : List Asn}
def big (l : List Asn) : Asn := Stars l
theorem run_openB (is : List Nat) {l Γr : List Asn} (hp : pick is Γ = some ([big l], Γr)) (h : Run P w0 n sh Q k ρ df (l ++ Γr)) : Run P w0 n sh Q k ρ df Γ :=
 run_open is (fun _ : Unit => l) hp (fun _ hs => ⟨(), hs⟩) (fun _ => h)
theorem run_closeB (is : List Nat) {l Γr : List Asn} (hp : pick is Γ = some (l, Γr)) (h : Run P w0 n sh Q k ρ df (big l :: Γr)) : Run P w0 n sh Q k ρ df Γ :=
 run_close is hp (fun _ hs => hs) h
theorem St.openB {hF : Heap} {w : World} {l Γr : List Asn} (h : St w0 hF (big l :: Γr) w) : St w0 hF (l ++ Γr) w := by
 obtain ⟨g, ⟨g1, g2, hd2, rfl, hA, hs2⟩, hd, ha⟩ := h
 exact ⟨_, Stars.append.2 ⟨g1, g2, hd2, rfl, hA, hs2⟩, hd, ha⟩
theorem leaves_openB {fn : Func} {R : Value → List Asn → Prop} (is : List Nat) {l Γr : List Asn} (hp : pick is Γ = some ([big l], Γr)) (h : LeavesS P w0 sh fn ρ df (l ++ Γr) R) : LeavesS P w0 sh fn ρ df Γ R :=
 fun hF a w hsh ha hst => h hF a w hsh ha (St.openB (hst.perm (pick_perm hp)))
end
theorem Yld.share {P : Program} {w0 : World} {sh sh' : Shared} {L : Nat} {args : List Value} {Γ : List Asn} {R : Bool → List Asn → Prop} (h : Yld P w0 sh L args Γ R) (hs : ∀ p ∈ sh, p ∈ sh') : Yld P w0 sh' L args Γ R :=
 ⟨fun hF w hsh hst => h.go hF w (fun p hp => hsh p (hs p hp)) hst⟩
end Go.Vc
namespace Go.Vc
def setL : Nat → Value → List Value → Option (List Value)
 | _, _, [] => none
 | 0, v, _ :: l => some (v :: l)
 | i + 1, v, x :: l => match setL i v l with | some l' => some (x :: l') | none => none
def fillL : List Value → List (Nat × Value) → Option (List Value)
 | cs, [] => some cs
 | cs, (i, v) :: ps => match oneC v, setL i v cs with | true, some cs' => fillL cs' ps | _, _ => none
theorem setL_spec : ∀ {i : Nat} {v : Value} {l l' : List Value}, setL i v l = some l' → i < l.length ∧ l' = l.set i v
 | _, _, [], _, h => by simp [setL] at h
 | 0, v, _ :: l, l', h => by simp [setL] at h; simp [h]
 | i + 1, v, x :: l, l', h => by
   simp only [setL] at h
   cases hh : setL i v l with
   | none => simp [hh] at h
   | some l2 => simp only [hh, Option.some.injEq] at h; obtain ⟨h1, h2⟩ := setL_spec hh; subst h; subst h2; simp; omega
theorem cells_one {v : Value} (h : oneC v = true) : v.cells = #[v] := by cases v <;> first | rfl | (simp [oneC] at h)
theorem fillL_spec : ∀ (ps : List (Nat × Value)) (cs cs' : List Value), fillL cs ps = some cs' → Instr.fill (fun i => some (i * 1, 1)) cs.toArray ps = some cs'.toArray
 | [], cs, cs', h => by simp [fillL] at h; simp [Instr.fill, h]
 | (i, v) :: ps, cs, cs', h => by
   simp only [fillL] at h
   split at h
   · rename_i c1 h1 h2
     obtain ⟨h3, h4⟩ := setL_spec h2
     have hc := cells_one h1
     simp only [Instr.fill, hc]
     rw [if_neg (by simp; omega)]
     have := fillL_spec ps _ _ h
     rw [h4] at this
     simpa using this
   · cases h
section
variable {P : Program} {w0 : World} {n : Nat} {sh : Shared} {Q : Exit → Env → List Deferred → List Asn → Prop} {k : List Item} {ρ : Env} {df : List Deferred} {Γ : List Asn}
variable {ops : Array Oper} {l : List (Fl × Nat × Oper)} {i d : Nat} {ty : TypeId} {pos : String} {aft : Array Edge} {t e : TypeId} {agg : Bool} {cs : List Value}
theorem reg_buildSlice1 {len : Nat} {ps : Array (Nat × Operand)} {zv : Value} [hT : TUnd P t (.slice e)] [hS : TShape P e agg 1] [hZ : TZeroV P e zv]
   (hz : oneC zv = true) (hf : fillL (List.replicate len zv) (ps.toList.map fun p => (p.1, ev ρ p.2)) = some cs) (hsm : (Nat.blt 0 len && Nat.ble len 16777216) = true)
   (h : ∀ nb, Reg P w0 n sh Q ops l k (ρ.set d (.slice (some ⟨nb, 0, none⟩) len len)) df (Γ ++ [pt nb (.cells (List.toArray cs) e (0, 0))])) :
   Reg P w0 n sh Q ops ((Fl.loud, i, ⟨some d, .buildSlice t len ps, ty, pos, aft, none⟩) :: l) k ρ df Γ :=
 reg_new (val := fun nb => .slice (some ⟨nb, 0, none⟩) len len) rfl (fun w => by
   simp only [Bool.and_eq_true] at hsm
   have h1 : 0 < len := Nat.le_of_ble_eq_true hsm.1
   have h2 := Nat.le_of_ble_eq_true hsm.2
   have e1 : (ps.map fun (i, x) => (i, ev ρ x)).toList = ps.toList.map fun p => (p.1, ev ρ p.2) := by simp
   have hno : ¬ (len * 1 > 2 ^ 24) := by omega
   have h0 : ¬ (len * 1 = 0) := by omega
   have hr : ((Array.range (len * 1)).map (zv.cells[· % zv.cells.size]!)) = (List.replicate len zv).toArray := by
     rw [cells_one hz]
     apply Array.ext'
     apply List.ext_getElem <;> simp [Nat.mod_one]
   have hfill := fillL_spec _ _ _ hf
   simp only [execOp, Instr.buildSlice, Sem.run_bind, run_underlying hT.und, Result.andThen_ok, hS.size_run, hno, if_false, e1, h0, hZ.zero_run, Sem.run_pure, hr, hfill]
   simp [newRow]) h
end
end Go.Vc
namespace Go.Vc
section
variable {P : Program} {w0 : World} {n : Nat} {sh : Shared} {Q : Exit → Env → List Deferred → List Asn → Prop} {k : List Item} {ρ : Env} {df : List Deferred} {Γ : List Asn} {φ : Shared → Prop}
variable {ops : Array Oper} {l : List (Fl × Nat × Oper)} {b : Fl} {i d : Nat} {ty : TypeId} {pos : String} {aft : Array Edge}
variable {x : Operand} {t : TypeId} {v : Value} {agg : Bool} {m bb off : Nat}
theorem reg_load_rds (j : Nat) [hT : TShape P t agg m] (hx : ev ρ x = .pointer (some ⟨bb, off, none⟩)) (hj : getAt j Γ = some (Rds φ))
   (hm : ∀ bl, φ bl → ∃ c T fr, (∀ hF Γ w, Sh bl hF → St w0 hF Γ w → w.heap[bb]? = some (.cells c T fr)) ∧ rd agg m c.toList off = some v)
   (h : Reg P w0 n sh Q ops l k (ρ.set d v) df Γ) (hb : notQuiet b = true := by rfl) : Reg P w0 n sh Q ops ((b, i, ⟨some d, .load t x, ty, pos, aft, none⟩) :: l) k ρ df Γ := by
 refine reg_read rfl hb (fun hF _ w hst => ?_) h
 obtain ⟨r, hp⟩ := getAt_perm hj
 obtain ⟨g, hg, hdj, hst2⟩ := (show St w0 hF (r ++ [Rds φ]) w from (hst.perm hp).perm (List.perm_append_comm (l₁ := [_]))).split
 obtain ⟨bl, hb1, hb2⟩ := Stars.one.1 hg
 obtain ⟨c, T, fr, e1, e2⟩ := hm bl hb2
 exact ⟨w, load_of hT hx (e1 (g.or hF) r w (fun p hp => or_left (hb1 p hp)) hst2) e2, hst⟩
end
end Go.Vc
