import Derived.Laws.Strings
import Derived.Laws.Strings2
import Derived.Laws.Cover1
import Derived.Laws.Concat
import Derived.Laws.Slices
import Derived.Laws.StructEq
import Derived.Sort.AssemblyPlain
import Derived.Lib.ConvBytes
import Derived.Test.YtijbnjaackhlcaaGreatDoorKitA
/- Lemmas and walks for the claims of this seat (own work): Vc34 Vc35 Vc36 Vc37 Vc38 Vc39 Vc40 Vc41 Vc42 Vc43 Vc44 Vc45 Vc46 Vc47 Vc48 Vc49 Vc50 Vc51 Vc52 Vc53 Vc54 Vc55 Vc56. -/
namespace Go.Vc
theorem RdSl.cells {α : Type} {encE : α → List Value} {q : Nat} {w0 : World} {sh : Shared} {l : List α} {a : Option Addr} {cap len : Nat} (h : RdSl w0 sh encE q (.slice a len cap) l) {i : Nat} {x : α} (hx : l[i]? = some x) :
    ∃ b off c T fr, a = some ⟨b, off, none⟩ ∧ (∀ hF Γ w, Sh sh hF → St w0 hF Γ w → w.heap[b]? = some (.cells c T fr)) ∧ (∀ o, o = off + i * q → rd true q c.toList o = some (.agg (List.toArray (encE x)))) ∧ ∀ k u, (encE x)[k]? = some u → ∀ o, o = off + i * q + k → rd false 1 c.toList o = some u := by
  obtain ⟨a', cap', h1, _, h2⟩ := h
  cases h1
  have hne : l ≠ [] := by intro e; subst e; simp at hx
  obtain ⟨b, off, c, T, fr, e, hh, hc⟩ := h2.resolve_left hne
  exact ⟨b, off, c, T, fr, e, hh, rd_cells (hc i x hx).1 (fun k u hu => by rw [Nat.add_assoc]; exact (hc i x hx).2 k u hu), fun k u hu o ho => rd_one ((hc i x hx).2 k u hu) o (by omega)⟩
theorem flat_at {α : Type} {encE : α → List Value} {q : Nat} : ∀ (l : List α), (∀ x ∈ l, (encE x).length = q) → ∀ (i : Nat) (x : α), l[i]? = some x → ∀ k u, (encE x)[k]? = some u → (l.flatMap encE)[i * q + k]? = some u
  | [], _, i, x, hx, _, _, _ => by simp at hx
  | y :: l, hq, i, x, hx, k, u, hu => by
    have hy := hq y (by simp)
    have hk := (List.getElem?_eq_some_iff.1 hu).1
    rw [List.flatMap_cons]
    cases i with
    | zero =>
      simp only [List.getElem?_cons_zero, Option.some.injEq] at hx
      subst hx
      rw [List.getElem?_append_left (by omega), show 0 * q + k = k by omega]
      exact hu
    | succ i =>
      rw [List.getElem?_cons_succ] at hx
      have e : (i + 1) * q + k = q + (i * q + k) := by rw [Nat.succ_mul]; omega
      rw [List.getElem?_append_right (by omega), e, hy, Nat.add_sub_cancel_left]
      exact flat_at l (fun z hz => hq z (by simp [hz])) i x hx k u hu
theorem flat_len {α : Type} {encE : α → List Value} {q : Nat} : ∀ (l : List α), (∀ x ∈ l, (encE x).length = q) → (l.flatMap encE).length = l.length * q
  | [], _ => by simp
  | y :: l, hq => by
    rw [List.flatMap_cons, List.length_append, hq y (by simp), flat_len l (fun z hz => hq z (by simp [hz])), List.length_cons, Nat.succ_mul]; omega
theorem RdSl.flatS {α : Type} {encE : α → List Value} {q b cap : Nat} {w0 : World} {sh : Shared} {l : List α} {spare : List Value} {T : TypeId} {fr : Nat × Nat} (hq : ∀ x ∈ l, (encE x).length = q) (hm : (b, Obj.cells (List.toArray (l.flatMap encE ++ spare)) T fr) ∈ sh) (hcap : l.length ≤ cap) :
    RdSl w0 sh encE q (.slice (some ⟨b, 0, none⟩) l.length cap) l := by
  refine ⟨_, _, rfl, hcap, .inr ⟨b, 0, _, T, fr, rfl, fun hF Γ w hsh hst => (hst.frame (hsh _ hm)).2, fun i x hx => ⟨hq x (List.mem_of_getElem? hx), fun k u hu => ?_⟩⟩⟩
  have h1 := flat_at l hq i x hx k u hu
  rw [List.getElem?_toArray, Nat.zero_add, List.getElem?_append_left (List.getElem?_eq_some_iff.1 h1).1]
  exact h1
theorem RdSl.flat {α : Type} {encE : α → List Value} {q b : Nat} {w0 : World} {sh : Shared} {l : List α} {T : TypeId} {fr : Nat × Nat} (hq : ∀ x ∈ l, (encE x).length = q) (hm : (b, Obj.cells (List.toArray (l.flatMap encE)) T fr) ∈ sh) :
    RdSl w0 sh encE q (.slice (some ⟨b, 0, none⟩) l.length l.length) l := RdSl.flatS (spare := []) hq (by rw [List.append_nil]; exact hm) (Nat.le_refl _)
theorem Fn.owned {P : Program} {w0 : World} {sh : Shared} {f : FuncId} {args : List Value} {Γ : List Asn} {R : Value → List Asn → Prop} {b : Nat} {o : Obj} (h : Fn P w0 ((b, o) :: sh) f args Γ R) :
    Fn P w0 sh f args (pt b o :: Γ) fun r Γ' => ∃ Γ'', R r Γ'' ∧ Γ' = Γ'' ++ [pt b o] := by
  refine ⟨h.enters, fun hF w hsh hst => ?_⟩
  have h1 : St w0 hF (Γ ++ [pt b o]) w := hst.perm (List.perm_append_comm (l₁ := [_]))
  obtain ⟨g, hg, hdj, hst2⟩ := h1.split
  have hg1 : pt b o g := Stars.one.1 hg
  simp only [pt] at hg1
  subst hg1
  have hsub : ∀ c oc, hF c = some oc → ((Heap.one b o).or hF) c = some oc := fun c oc hc => by
    rcases hdj c with e | e
    · simp [Heap.or, e, hc]
    · rw [e] at hc; cases hc
  refine (h.calls _ w (fun p hp => ?_) hst2).mono ?_
  · rcases List.mem_cons.1 hp with rfl | hp
    · simp [Heap.or, Heap.one]
    · exact hsub _ _ (hsh p hp)
  · rintro e w' ⟨r, Γ', he, h4, h5⟩
    exact ⟨r, _, he, ⟨Γ', h4, rfl⟩, h5.join hg hdj⟩
section
variable {P : Program} {w0 : World} {n : Nat} {sh : Shared} {Q : Exit → Env → List Deferred → List Asn → Prop} {k : List Item} {ρ : Env} {df : List Deferred} {Γ : List Asn} {hF : Heap}
variable {α : Type} {encE : α → List Value} {m : Nat} {v : Value} {l : List α}
variable {ops : Array Oper} {rest : List (Fl × Nat × Oper)} {b : Fl} {i d : Nat} {ty : TypeId} {pos : String} {aft : Array Edge} {x y : Operand}
theorem RdSl.pre {a : Option Addr} {cap q : Nat} (h : RdSl w0 sh encE m (.slice a l.length cap) l) (hq : q ≤ l.length) : RdSl w0 sh encE m (.slice a q cap) (l.take q) := by
  obtain ⟨a', cap', h1, h0, h2⟩ := h
  cases h1
  refine ⟨a, cap, by rw [List.length_take, Nat.min_eq_left hq], by rw [List.length_take]; omega, ?_⟩
  rcases h2 with rfl | ⟨b, off, c, T, fr, e, hh, hc⟩
  · exact .inl (by simp)
  · refine .inr ⟨b, off, c, T, fr, e, hh, fun i x hx => hc i x ?_⟩
    rw [List.getElem?_take] at hx
    split at hx
    · exact hx
    · cases hx
def tailV (a : Option Addr) (len cap sz q : Nat) : Value := .slice (if cap = q then a else a.map (·.add (q * sz))) (len - q) (cap - q)
theorem RdSl.tail {a : Option Addr} {cap q : Nat} (h : RdSl w0 sh encE m (.slice a l.length cap) l) (hq : q ≤ l.length) : RdSl w0 sh encE m (tailV a l.length cap m q) (l.drop q) := by
  obtain ⟨a', cap', h1, h0, h2⟩ := h
  cases h1
  unfold tailV
  refine ⟨_, _, by rw [List.length_drop], by rw [List.length_drop]; omega, ?_⟩
  by_cases hz : q = l.length
  · exact .inl (by rw [hz]; simp)
  rcases h2 with rfl | ⟨b, off, c, T, fr, e, hh, hc⟩
  · exact .inl (by simp)
  · refine .inr ⟨b, off + q * m, c, T, fr, ?_, hh, fun i x hx => ?_⟩
    · rw [if_neg (by omega), e]; simp [Addr.add_lit]
    · rw [List.getElem?_drop] at hx
      obtain ⟨g1, g2⟩ := hc _ x hx
      exact ⟨g1, fun k u hu => by rw [← g2 k u hu]; congr 1; rw [Nat.add_mul]; omega⟩
theorem reg_sliceT {t e : TypeId} {agg : Bool} {sz : Nat} {a : Option Addr} {len cap : Nat} {lo : Operand} {q : Int} [hT : TUnd P t (.slice e)] [hS : TShape P e agg sz] (hx : ev ρ x = .slice a len cap) (hl : ev ρ lo = .int .i64 q) (hb : 0 ≤ q ∧ q ≤ len)
    (h : Reg P w0 n sh Q ops rest k (ρ.set d (tailV a len cap sz q.toNat)) df Γ) : Reg P w0 n sh Q ops ((b, i, ⟨some d, .slice t x (some lo) none none, ty, pos, aft, none⟩) :: rest) k ρ df Γ :=
  reg_quiet rfl (fun hF _ => quiet_of_run fun w => by
    obtain ⟨h0, h1⟩ := hb
    simp only [execOp, hx, Option.map_some, Option.map_none, hl, Instr.sliceAt, Instr.slice, Sem.run_bind, run_underlying hT.und, Result.andThen_ok, Instr.sliceBounds, Instr.sliceBound, asIntOf, Sem.run_pure]
    simp only [h0, h1, and_self, if_true, Sem.run_pure, Result.andThen_ok, hS.size_run]
    rfl) h
theorem RdSl.blk {b off cap len : Nat} (h : RdSl w0 sh encE m (.slice (some ⟨b, off, none⟩) len cap) l) (hne : l ≠ []) (hm : 0 < m) :
    ∃ c T fr, (∀ hF Γ w, Sh sh hF → St w0 hF Γ w → w.heap[b]? = some (.cells (List.toArray c) T fr)) ∧ (c.drop off).take (l.length * m) = l.flatMap encE ∧ off + l.length * m ≤ c.length := by
  obtain ⟨a', cap', h1, _, h2⟩ := h
  obtain ⟨b', off', c, T, fr, e, hh, hc⟩ := h2.resolve_left hne
  cases h1
  cases e
  have hq : ∀ x ∈ l, (encE x).length = m := fun x hx => by
    obtain ⟨i, hi⟩ := List.mem_iff_getElem?.1 hx
    exact (hc i x hi).1
  have key : ∀ j, j < l.length * m → c.toList[off + j]? = (l.flatMap encE)[j]? := fun j hj => by
    have hi : j / m < l.length := Nat.div_lt_of_lt_mul (by rw [Nat.mul_comm]; exact hj)
    have hx : l[j / m]? = some l[j / m] := List.getElem?_eq_getElem hi
    have hk : j % m < (encE l[j / m]).length := by rw [hq _ (List.getElem_mem hi)]; exact Nat.mod_lt _ hm
    have hu : (encE l[j / m])[j % m]? = some (encE l[j / m])[j % m] := List.getElem?_eq_getElem hk
    have g1 := (hc _ _ hx).2 _ _ hu
    have g2 := flat_at l hq _ _ hx _ _ hu
    have e : j / m * m + j % m = j := by rw [Nat.mul_comm]; exact Nat.div_add_mod j m
    rw [e] at g1 g2
    rw [g2, ← g1]; simp
  have hlen : (l.flatMap encE).length = l.length * m := flat_len l hq
  have hle : off + l.length * m ≤ c.toList.length := by
    cases hl : l.length * m with
    | zero =>
      have : 0 < l.length := List.length_pos_iff.2 hne
      have := Nat.mul_pos this hm
      omega
    | succ q =>
      have h3 := key q (by omega)
      rw [List.getElem?_eq_getElem (show q < (l.flatMap encE).length by omega)] at h3
      have := (List.getElem?_eq_some_iff.1 h3).1
      omega
  refine ⟨c.toList, T, fr, fun hF Γ w h1 h2 => by simpa using hh hF Γ w h1 h2, ?_, hle⟩
  apply List.ext_getElem?
  intro j
  by_cases hj : j < l.length * m
  · rw [List.getElem?_take, if_pos hj, List.getElem?_drop, key j hj]
  · rw [List.getElem?_eq_none (by rw [List.length_take]; omega), List.getElem?_eq_none (by omega)]
theorem reg_append_rdE (j : Nat) {G : Option Addr → Nat → List Asn} {dst : Option Tmp} {a : Option Addr} {len cap bytes : Nat} {agg : Bool} {t e t2 e2 : TypeId} {cs : List Value} {zv : Value}
    [hT : TUnd P t (.slice e)] [hS : TShape P e agg m] [hZ : TZeroV P e zv] [hI : TInfo P e bytes] [hT2 : TUnd P t2 (.slice e2)]
    (hx : ev ρ x = .slice a len cap) (hy : ev ρ y = v) (hv : RdSl w0 sh encE m v l) (hm : 0 < m) (hone : allOne (l.flatMap encE) = true) (hj : getAt j Γ = some (SlA e m a len cap cs))
    (hzs : zv.cells.size = m) (hsmall : (2 * (len + l.length) + 192) * bytes ≤ 281474976710656 ∧ len + l.length ≤ 9223372036854775807)
    (hput : ∀ a' cap', putAt j (SlA e m a' (len + l.length) cap' (cs ++ l.flatMap encE)) Γ = some (G a' cap'))
    (h : ∀ a' cap', Reg P w0 n sh Q ops rest k (ρ.setO dst (.slice a' (len + l.length) cap')) df (G a' cap')) :
    Reg P w0 n sh Q ops ((Fl.loud, i, ⟨dst, .call ⟨.builtin .append, #[x, y], #[t, t2]⟩, ty, pos, aft, none⟩) :: rest) k ρ df Γ := by
  refine reg_loud rfl (fun v df' Γ' => ∃ a' cap', v = .slice a' (len + l.length) cap' ∧ df' = df ∧ putAt j (SlA e m a' (len + l.length) cap' (cs ++ l.flatMap encE)) Γ = some Γ') (fun hF hsh => ?_) ?_
  · by_cases hne : l = []
    · subst hne
      obtain ⟨a2, cap2, h1, _, _⟩ := hv
      exact opW_append0 (sz := m) (e2 := e2) hx (hy.trans h1) hj (by simpa using hsmall.2)
    · obtain ⟨a2, cap2, h1, _, h2⟩ := id hv
      obtain ⟨b', off', _, _, _, e', _⟩ := h2.resolve_left hne
      subst e'
      rw [h1] at hv
      obtain ⟨c, T, fr, g1, g2, g3⟩ := hv.blk hne hm
      exact opW_append (T2 := T) (fr := fr) (c2 := c) (hT := hT) (hS := hS) (hZ := hZ) (hI := hI) (hT2 := hT2) (new := l.flatMap encE) rfl hx (hy.trans h1) hj (fun w hst => g1 hF _ w hsh hst) g2 g3 hone hzs hsmall.1 hsmall.2
  · rintro v df' Γ' ⟨a', cap', h3, h4, h5⟩
    subst h3; subst h4
    rw [hput] at h5
    cases h5
    exact h a' cap'
def LstE (encE : α → List Value) (q : Nat) (T : TypeId) (v : Value) (l : List α) : Asn := fun h => (∀ x ∈ l, (encE x).length = q) ∧ ∃ a cap, v = .slice a l.length cap ∧ SlA T q a l.length cap (l.flatMap encE) h
theorem LstE.ofSl {q : Nat} {T : TypeId} {a : Option Addr} {len cap : Nat} (hq : ∀ x ∈ l, (encE x).length = q) (hl : l.length = len) (g : Heap) (hg : SlA T q a len cap (l.flatMap encE) g) : LstE encE q T (.slice a len cap) l g := by
  subst hl; exact ⟨hq, a, cap, rfl, hg⟩
theorem LstE.nil {q : Nat} {T : TypeId} : LstE encE q T (.slice none 0 0) ([] : List α) Heap.emp := ⟨fun x hx => by simp at hx, none, 0, rfl, SlA_nil⟩
end
end Go.Vc

namespace Go.Vc
section
variable {P : Program} {w0 : World} {n : Nat} {sh : Shared} {Q : Exit → Env → List Deferred → List Asn → Prop} {k : List Item} {ρ : Env} {df : List Deferred} {Γ : List Asn}
variable {ops : Array Oper} {l : List (Fl × Nat × Oper)} {i : Nat} {ty yt : TypeId} {pos : String} {aft : Array Edge}
variable {b : Fl} {x y : Operand} {d : Tmp}
theorem reg_eq_sl1 {t e : TypeId} {a : Addr} {n1 c1 n2 c2 : Nat} [hT : TUnd P t (.slice e)] (hx : ev ρ x = .slice (some a) n1 c1) (hy : ev ρ y = .slice none n2 c2) (h : Reg P w0 n sh Q ops l k (ρ.set d (.bool false)) df Γ) :
    Reg P w0 n sh Q ops ((b, i, ⟨some d, .binOp .eql t x y yt, ty, pos, aft, none⟩) :: l) k ρ df Γ :=
  reg_eq_gen hx hy (by rfl) (by rfl) (fun d w => by simp only [Op.equalIn, Sem.run_bind, run_underlying hT.und, Result.andThen_ok, Sem.run_pure]) h
variable {kt et : TypeId} {kd : IntKind} {zv : Value} {r : Nat} {ml : List (Int × Value)} {a : Int}
end
end Go.Vc

namespace Go.Vc
theorem str_eq (a b : ByteArray) : (a.toList == b.toList) = decide (a = b) := by
  by_cases h : a = b
  · subst h; simp
  · rw [decide_eq_false h, beq_eq_false_iff_ne]
    intro e
    refine h ?_
    rw [ByteArray.toList_eq, ByteArray.toList_eq] at e
    exact WideShapes.bytes_inj e
section
variable {P : Program} {w0 : World} {n : Nat} {sh : Shared} {Q : Exit → Env → List Deferred → List Asn → Prop} {k : List Item} {ρ : Env} {df : List Deferred} {Γ : List Asn}
variable {ops : Array Oper} {l : List (Fl × Nat × Oper)} {i : Nat} {ty yt t : TypeId} {pos : String} {aft : Array Edge}
variable {f : Fl} {x y : Operand} {d : Tmp} {a b : ByteArray}
theorem reg_eqS (hx : ev ρ x = .string a) (hy : ev ρ y = .string b) (h : Reg P w0 n sh Q ops l k (ρ.set d (.bool (decide (a = b)))) df Γ) :
    Reg P w0 n sh Q ops ((f, i, ⟨some d, .binOp .eql t x y yt, ty, pos, aft, none⟩) :: l) k ρ df Γ :=
  reg_quiet rfl (fun hF _ => quiet_of_run fun w => by simp [execOp, hx, hy, go_sem, str_eq]) h
theorem reg_neS (hx : ev ρ x = .string a) (hy : ev ρ y = .string b) (h : Reg P w0 n sh Q ops l k (ρ.set d (.bool (decide (a ≠ b)))) df Γ) :
    Reg P w0 n sh Q ops ((f, i, ⟨some d, .binOp .neq t x y yt, ty, pos, aft, none⟩) :: l) k ρ df Γ :=
  reg_quiet rfl (fun hF _ => quiet_of_run fun w => by simp [execOp, hx, hy, go_sem, str_eq]) h
theorem reg_lenS [hT : TUnd P t .string] (hx : ev ρ x = .string a) (h : Reg P w0 n sh Q ops l k (ρ.set d (.int .i64 a.size)) df Γ) :
    Reg P w0 n sh Q ops ((f, i, ⟨some d, .call ⟨.builtin .len, #[x], #[t]⟩, ty, pos, aft, none⟩) :: l) k ρ df Γ :=
  reg_quiet rfl (fun hF _ => quiet_of_run fun w => by
    simp [execOp, resolve, invoke, builtin, Builtin.len_, hx, run_underlying hT.und, goInt]) h
end
end Go.Vc

namespace Go.Vc
abbrev SM : Type := List (ByteArray × Value)
def EsOk (es : List MapEntry) (l : SM) : Prop := es.map (fun e => (e.key, e.val)) = l.map fun p => (.string p.1, p.2)
def lookS : SM → ByteArray → Option Value
  | [], _ => none
  | (a, v) :: r, x => if a = x then some v else lookS r x
def insS : SM → ByteArray → Value → SM
  | [], x, u => [(x, u)]
  | (a, v) :: r, x, u => if a = x then (a, u) :: r else (a, v) :: insS r x u
def delS : SM → ByteArray → SM
  | [], _ => []
  | (a, v) :: r, x => if a = x then r else (a, v) :: delS r x
def placeS : SM → ByteArray → Nat → Option Nat
  | [], _, _ => none
  | (a, _) :: r, x, i => if a = x then some i else placeS r x (i + 1)
def MapS (r : Nat) (l : SM) : Asn := fun h => ∃ es clock, h = Heap.one r (.map es.toArray clock) ∧ EsOk es l
theorem EsOk.cons {es : List MapEntry} {p : ByteArray × Value} {l : SM} (h : EsOk es (p :: l)) : ∃ e es', es = e :: es' ∧ e.key = .string p.1 ∧ e.val = p.2 ∧ EsOk es' l := by
  cases es with
  | nil => cases h
  | cons e es' =>
    unfold EsOk at h
    rw [List.map_cons, List.map_cons] at h
    injection h with h1 h2
    injection h1 with h3 h4
    exact ⟨e, es', rfl, h3, h4, h2⟩
theorem EsOk.nil {es : List MapEntry} (h : EsOk es []) : es = [] := by cases es with | nil => rfl | cons => cases h
theorem EsOk.len {es : List MapEntry} {l : SM} (h : EsOk es l) : es.length = l.length := by have := congrArg List.length h; simpa using this
theorem str_beq (a b : ByteArray) : (a == b) = decide (a = b) := by rw [beq_toListBytes, str_eq]
theorem findNow_S (x : ByteArray) : ∀ (l : SM) (es : List MapEntry) (j : Nat), EsOk es l →
    Instr.findNow .string (.string x) es j = some ((placeS l x j).bind fun m => (lookS l x).map fun v => (m, v))
  | [], es, j, h => by rw [h.nil]; rfl
  | (a, v) :: r, es, j, h => by
    obtain ⟨e, es', rfl, h1, h2, h3⟩ := h.cons
    have hs : Instr.sameNow .string (.string x) e.key = some (decide (a = x)) := by
      rw [h1]
      simp only [Instr.sameNow]
      rw [str_beq]
      congr 1
      by_cases e : a = x
      · subst e; rfl
      · rw [decide_eq_false e, decide_eq_false (fun h => e h.symm)]
    simp only [Instr.findNow, hs, placeS, lookS]
    by_cases e : a = x
    · rw [decide_eq_true e]
      simp only [if_pos e, Option.bind_some, Option.map_some, h2]
    · rw [decide_eq_false e]
      simp only [if_neg e]
      exact findNow_S x r es' (j + 1) h3
theorem placeS_some : ∀ (l : SM) (x : ByteArray) (i : Nat), (placeS l x i).isSome = (lookS l x).isSome
  | [], _, _ => rfl
  | (a, v) :: r, x, i => by
    simp only [placeS, lookS]
    by_cases h : a = x
    · simp [h]
    · simp only [if_neg h]; exact placeS_some r x (i + 1)
theorem placeS_spec (x : ByteArray) : ∀ (l : SM) (es : List MapEntry) (i m : Nat), EsOk es l → placeS l x i = some m → ∃ j, m = i + j ∧ (∃ e, es[j]? = some e ∧ e.key = .string x) ∧
    (∀ u, EsOk (es.modify j fun e => { e with key := .string x, val := u }) (insS l x u)) ∧ EsOk (es.eraseIdx j) (delS l x) ∧ j < es.length
  | [], _, _, _, _, h => by simp [placeS] at h
  | (a, v) :: r, es, i, m, hE, h => by
    obtain ⟨e, es', rfl, h1, h2, h3⟩ := hE.cons
    simp only [placeS] at h
    by_cases hx : a = x
    · subst hx
      simp at h
      refine ⟨0, by omega, ⟨e, rfl, h1⟩, fun u => ?_, ?_, by simp⟩
      · unfold EsOk at h3 ⊢
        simp only [List.modify_zero_cons, insS, if_true, List.map_cons, h3]
      · simp only [List.eraseIdx_cons_zero, delS, if_true]; exact h3
    · rw [if_neg hx] at h
      obtain ⟨j, g1, ⟨e2, g2, g2'⟩, g3, g4, g5⟩ := placeS_spec x r es' (i + 1) m h3 h
      refine ⟨j + 1, by omega, ⟨e2, by simpa using g2, g2'⟩, fun u => ?_, ?_, by simp; exact g5⟩
      · have := g3 u
        unfold EsOk at this ⊢
        simp only [List.modify_succ_cons, insS, if_neg hx, List.map_cons, this, h1, h2]
      · unfold EsOk at g4 ⊢
        simp only [List.eraseIdx_cons_succ, delS, if_neg hx, List.map_cons, g4, h1, h2]
theorem insS_none : ∀ (l : SM) (x : ByteArray) (u : Value), lookS l x = none → insS l x u = l ++ [(x, u)]
  | [], _, _, _ => rfl
  | (a, v) :: r, x, u, h => by
    simp only [lookS] at h
    split at h
    · cases h
    · rename_i hx; simp [insS, hx, insS_none r x u h]
theorem delS_none : ∀ (l : SM) (x : ByteArray), lookS l x = none → delS l x = l
  | [], _, _ => rfl
  | (a, v) :: r, x, h => by
    simp only [lookS] at h
    split at h
    · cases h
    · rename_i hx; simp [delS, hx, delS_none r x h]
theorem EsOk.push {es : List MapEntry} {l : SM} (h : EsOk es l) (x : ByteArray) (u : Value) (q : Nat) : EsOk (es ++ [{ key := .string x, val := u, born := q }]) (l ++ [(x, u)]) := by
  unfold EsOk at h ⊢
  rw [List.map_append, List.map_append, h]; rfl
section
variable {P : Program} {w0 : World} {n : Nat} {sh : Shared} {Q : Exit → Env → List Deferred → List Asn → Prop} {k : List Item} {ρ : Env} {df : List Deferred} {Γ : List Asn} {hF : Heap}
variable {ops : Array Oper} {l : List (Fl × Nat × Oper)} {b : Fl} {i d : Nat} {ty : TypeId} {pos : String} {aft : Array Edge}
variable {x y z : Operand} {t kt et : TypeId} {r : Nat} {a : ByteArray} {ml : SM} {zv : Value}
theorem run_getMap {w : World} {es : List MapEntry} {clock : Nat} (h : w.heap[r]? = some (.map es.toArray clock)) : (getObj r).run P w = .ok (.map es.toArray clock) w := by
  simp only [getObj, Sem.run, h]
theorem run_checkKeyS {w : World} (hk : P.underlying kt = some .string) (em : Bool) (d : Nat) : (Instr.checkKey em (d + 1) kt (.string a)).run P w = .ok () w := by
  simp only [Instr.checkKey, Sem.run_bind, run_underlying hk, Result.andThen_ok, Sem.run_pure]
theorem run_findKeyS {w : World} (hk : P.underlying kt = some .string) {es : List MapEntry} (hE : EsOk es ml) :
    (Instr.findKey kt (.string a) es).run P w = .ok ((placeS ml a 0).bind fun m => (lookS ml a).map fun v => (m, v)) w := by
  simp only [Instr.findKey, Sem.run_bind, run_underlying hk, Result.andThen_ok, findNow_S a ml es 0 hE, Sem.run_pure]
theorem lookupS_run {w : World} {ok : Bool} {es : List MapEntry} {clock : Nat} (hE : EsOk es ml) (hm : P.underlying t = some (.map kt et)) (hk : P.underlying kt = some .string) (hz : ∀ w, (zeroValue et).run P w = .ok zv w) (h : w.heap[r]? = some (.map es.toArray clock)) :
    (Instr.lookup t (.map (some r)) (.string a) ok).run P w = .ok (if ok then .tuple #[(lookS ml a).getD zv, .bool (lookS ml a).isSome] else (lookS ml a).getD zv) w := by
  have hck : ∀ em, (Instr.checkKey em 10000 kt (.string a)).run P w = .ok () w := fun em => run_checkKeyS hk em 9999
  have hp := placeS_some ml a 0
  simp only [Instr.lookup, Sem.run_bind, run_underlying hm, Result.andThen_ok, run_getMap h]
  simp only [Sem.run_pure, Result.andThen_ok, hck, run_findKeyS hk hE]
  cases hl : lookS ml a with
  | none =>
    rw [hl] at hp
    have : placeS ml a 0 = none := by cases hpp : placeS ml a 0 with | none => rfl | some m => rw [hpp] at hp; cases hp
    simp [this, hz]
  | some v =>
    rw [hl] at hp
    obtain ⟨m, hm'⟩ : ∃ m, placeS ml a 0 = some m := by cases hpp : placeS ml a 0 with | none => rw [hpp] at hp; cases hp | some m => exact ⟨m, rfl⟩
    simp [hm']
theorem mapUpdateS_run {w : World} {u : Value} {es : List MapEntry} {clock : Nat} (hE : EsOk es ml) (hm : P.underlying t = some (.map kt et)) (hk : P.underlying kt = some .string) (h : w.heap[r]? = some (.map es.toArray clock)) :
    ∃ es' clock', EsOk es' (insS ml a u) ∧ (Instr.mapUpdate t (.map (some r)) (.string a) u).run P w = .ok () { w with heap := w.heap.setIfInBounds r (.map es'.toArray clock') } := by
  have hck : ∀ em, (Instr.checkKey em 10000 kt (.string a)).run P w = .ok () w := fun em => run_checkKeyS hk em 9999
  have hp := placeS_some ml a 0
  have hset : ∀ (es2 : Array MapEntry) (c : Nat), (setObj r (.map es2 c)).run P w = .ok () { w with heap := w.heap.setIfInBounds r (.map es2 c) } := fun es2 c => by
    simp only [setObj, Sem.run, h]
  simp only [Instr.mapUpdate, Sem.run_bind, run_underlying hm, Result.andThen_ok, run_getMap h]
  simp only [Result.andThen_ok, hck, run_findKeyS hk hE]
  cases hl : lookS ml a with
  | none =>
    rw [hl] at hp
    have : placeS ml a 0 = none := by cases hpp : placeS ml a 0 with | none => rfl | some m => rw [hpp] at hp; cases hp
    refine ⟨es ++ [{ key := .string a, val := u, born := clock }], clock + 1, by rw [insS_none ml a u hl]; exact hE.push a u clock, ?_⟩
    simp only [this, Option.bind_none, hset]
    congr 2
    simp
  | some v =>
    rw [hl] at hp
    obtain ⟨m, hm'⟩ : ∃ m, placeS ml a 0 = some m := by cases hpp : placeS ml a 0 with | none => rw [hpp] at hp; cases hp | some m => exact ⟨m, rfl⟩
    obtain ⟨j, h1, ⟨e, h2, h2'⟩, h3, _⟩ := placeS_spec a ml es 0 m hE hm'
    simp only [Nat.zero_add] at h1
    subst h1
    have hstay : (Instr.keyThatStays (.string a) (.string a)).run P w = .ok (.string a) w := by
      simp [Instr.keyThatStays, Instr.sameBits, str_beq]
    refine ⟨_, clock, h3 u, ?_⟩
    simp only [hm', Option.bind_some, Option.map_some]
    simp only [List.getElem?_toArray, h2, Option.map_some, Option.getD_some, h2', Sem.run_bind, hstay, Result.andThen_ok, hset]
    rw [List.modify_toArray]
end
end Go.Vc

namespace Go.Vc
section
variable {P : Program} {w0 : World} {n : Nat} {sh : Shared} {Q : Exit → Env → List Deferred → List Asn → Prop} {k : List Item} {ρ : Env} {df : List Deferred} {Γ : List Asn} {hF : Heap}
variable {ops : Array Oper} {l : List (Fl × Nat × Oper)} {b : Fl} {i d : Nat} {ty : TypeId} {pos : String} {aft : Array Edge}
variable {x y z : Operand} {t kt et : TypeId} {r : Nat} {a : ByteArray} {ml : SM} {zv : Value}
theorem mapS_make (nb : Nat) : ∀ g, pt nb (mapI []) g → MapS nb [] g := fun _ hg => ⟨[], 0, hg, rfl⟩
theorem reg_lookupS (j : Nat) {ok : Bool} {v : Value} [hT : TUnd P t (.map kt et)] [hK : TUnd P kt .string] [hZ : TZeroV P et zv] (hx : ev ρ x = .map (some r)) (hy : ev ρ y = .string a)
    (hj : getAt j Γ = some (MapS r ml)) (hv : (if ok then .tuple #[(lookS ml a).getD zv, .bool (lookS ml a).isSome] else (lookS ml a).getD zv) = v)
    (h : Reg P w0 n sh Q ops l k (ρ.set d v) df Γ) (hb : notQuiet b = true := by rfl) : Reg P w0 n sh Q ops ((b, i, ⟨some d, .lookup t x y ok, ty, pos, aft, none⟩) :: l) k ρ df Γ := by
  refine reg_read rfl hb (fun hF _ w hst => ⟨w, ?_, hst⟩) h
  obtain ⟨rr, hp⟩ := getAt_perm hj
  obtain ⟨g, ⟨es, clock, hg, hE⟩, hB⟩ := (hst.perm hp).head
  have hm := (hB (pt r (.map es.toArray clock)) hg).get.2
  simp only [execOp, hx, hy, Sem.run_bind, lookupS_run hE hT.und hK.und hZ.zero_run hm, Sem.run_pure, Result.andThen_ok, hv]
theorem reg_mapUpdateS (j : Nat) {Γ' : List Asn} {u : Value} {dst : Option Tmp} [hT : TUnd P t (.map kt et)] [hK : TUnd P kt .string] (hx : ev ρ x = .map (some r)) (hy : ev ρ y = .string a) (hz : ev ρ z = u)
    (hj : getAt j Γ = some (MapS r ml)) (hput : putAt j (MapS r (insS ml a u)) Γ = some Γ')
    (h : Reg P w0 n sh Q ops l k (ρ.setO dst undef) df Γ') : Reg P w0 n sh Q ops ((Fl.loud, i, ⟨dst, .mapUpdate t x y z, ty, pos, aft, none⟩) :: l) k ρ df Γ := by
  refine reg_loud rfl (fun v' df' Γ'' => v' = undef ∧ df' = df ∧ Γ'' = Γ') (fun hF _ w hst => ?_) (fun v' df' Γ' ⟨h1, h2, h3⟩ => by subst h1; subst h2; subst h3; exact h)
  obtain ⟨rr, hp1, hp2⟩ := putAt_perm hj hput
  obtain ⟨g, ⟨es, clock, hg, hE⟩, hB⟩ := (hst.perm hp1).head
  have hst1 := hB (pt r (.map es.toArray clock)) hg
  obtain ⟨es', clock', hE', hrun⟩ := mapUpdateS_run (P := P) (a := a) (u := u) hE hT.und hK.und hst1.get.2
  simp only [execOp, hx, hy, hz, Sem.run_bind, hrun, Sem.run_pure, Result.andThen_ok]
  have hlt := hst1.lt
  refine ⟨Γ', ⟨rfl, rfl, rfl⟩, St.perm (St.exch (St.upd (w' := { w with heap := w.heap.setIfInBounds r (.map es'.toArray clock') }) hst1 rfl rfl rfl (by simp) (by simp [hlt]) (fun x hx => by simp [Array.getElem?_setIfInBounds_ne (Ne.symm hx)])) (fun g hg => ⟨es', clock', hg, hE'⟩)) hp2⟩
def RdM (w0 : World) (sh : Shared) (r : Nat) (ml : SM) : Prop := ∃ es clock, (∀ hF Γ w, Sh sh hF → St w0 hF Γ w → w.heap[r]? = some (.map es.toArray clock)) ∧ EsOk es ml
theorem RdM.mono {sh' : Shared} (h : RdM w0 sh r ml) (hs : ∀ p ∈ sh, p ∈ sh') : RdM w0 sh' r ml := by
  obtain ⟨es, clock, h1, h2⟩ := h
  exact ⟨es, clock, fun hF Γ w hsh hst => h1 hF Γ w (fun p hp => hsh p (hs p hp)) hst, h2⟩
theorem reg_lookupR {ok : Bool} {v : Value} [hT : TUnd P t (.map kt et)] [hK : TUnd P kt .string] [hZ : TZeroV P et zv] (hR : RdM w0 sh r ml) (hx : ev ρ x = .map (some r)) (hy : ev ρ y = .string a)
    (hv : (if ok then .tuple #[(lookS ml a).getD zv, .bool (lookS ml a).isSome] else (lookS ml a).getD zv) = v)
    (h : Reg P w0 n sh Q ops l k (ρ.set d v) df Γ) : Reg P w0 n sh Q ops ((b, i, ⟨some d, .lookup t x y ok, ty, pos, aft, none⟩) :: l) k ρ df Γ := by
  obtain ⟨es, clock, h1, h2⟩ := hR
  exact reg_quiet rfl (fun hF hsh w Γ' hst => ⟨w, by
    simp only [execOp, hx, hy, Sem.run_bind, lookupS_run h2 hT.und hK.und hZ.zero_run (h1 hF Γ' w hsh hst), Sem.run_pure, Result.andThen_ok, hv], hst⟩) h
theorem reg_len_mapR [hT : TUnd P t (.map kt et)] (hR : RdM w0 sh r ml) (hx : ev ρ x = .map (some r))
    (h : Reg P w0 n sh Q ops l k (ρ.set d (.int .i64 ml.length)) df Γ) : Reg P w0 n sh Q ops ((b, i, ⟨some d, .call ⟨.builtin .len, #[x], #[t]⟩, ty, pos, aft, none⟩) :: l) k ρ df Γ := by
  obtain ⟨es, clock, h1, h2⟩ := hR
  exact reg_quiet rfl (fun hF hsh w Γ' hst => ⟨w, by
    have hg2 := run_getMap (P := P) (h1 hF Γ' w hsh hst)
    have hl := h2.len
    simp [execOp, resolve, invoke, builtin, Builtin.len_, hx, run_underlying hT.und, hg2, goInt, hl], hst⟩) h
theorem run_shareM (is : List Nat) {Γr : List Asn} (hp : pick is Γ = some ([MapS r ml], Γr))
    (h : ∀ sh', (∀ p ∈ sh, p ∈ sh') → RdM w0 sh' r ml → Run P w0 n sh' Q k ρ df Γr) : Run P w0 n sh Q k ρ df Γ := by
  refine ⟨?_⟩
  intro hF hsh a w ha hn hd hst
  have h1 : St w0 hF (Γr ++ [MapS r ml]) w := (hst.perm (pick_perm hp)).perm List.perm_append_comm
  obtain ⟨g, hg, hdj, hst2⟩ := h1.split
  obtain ⟨es, clock, hg1, hE⟩ := Stars.one.1 hg
  subst hg1
  have hsub : ∀ c oc, hF c = some oc → ((Heap.one r (.map es.toArray clock)).or hF) c = some oc := fun c oc hc => by
    rcases hdj c with e | e
    · simp [Heap.or, e, hc]
    · rw [e] at hc; cases hc
  refine RunAt.mono ((h ((r, .map es.toArray clock) :: sh) (fun p hp => List.mem_cons_of_mem _ hp) ⟨es, clock, fun hF Γ w h1 h2 => (h2.frame (h1 _ (.head _))).2, hE⟩).go _ (fun p hp => ?_)) hsub (fun _ _ _ _ h => h) ha hn hd hst2
  rcases List.mem_cons.1 hp with rfl | hp
  · simp [Heap.or, Heap.one]
  · exact hsub _ _ (hsh p hp)
end
end Go.Vc

namespace Sim
inductive PE where
  | mk (kind num : Int) (name meth : ByteArray) (args or : List PE)
inductive PS where
  | mk (kind : Int) (name : ByteArray) (num : Int) (expr : PE) (body els : List PS)
namespace PE
def kind : PE → Int | mk k _ _ _ _ _ => k
def num : PE → Int | mk _ k _ _ _ _ => k
def name : PE → ByteArray | mk _ _ k _ _ _ => k
def meth : PE → ByteArray | mk _ _ _ k _ _ => k
def args : PE → List PE | mk _ _ _ _ k _ => k
def or : PE → List PE | mk _ _ _ _ _ k => k
mutual
def size : PE → Nat
  | mk _ _ _ _ a o => 1 + sizeL a + sizeL o
def sizeL : List PE → Nat
  | [] => 0
  | e :: l => size e + sizeL l
end
theorem size_pos (e : PE) : 1 ≤ e.size := by cases e; unfold size; omega
theorem sizeL_mem : ∀ {l : List PE} {e : PE}, e ∈ l → e.size ≤ sizeL l
  | x :: l, e, h => by
    unfold sizeL
    rcases List.mem_cons.1 h with rfl | h
    · omega
    · have := sizeL_mem h; omega
theorem size_eq (e : PE) : e.size = 1 + sizeL e.args + sizeL e.or := by cases e; unfold size; rfl
theorem size_args {e x : PE} (h : x ∈ e.args) : x.size < e.size := by
  have := sizeL_mem h; rw [size_eq e]; omega
theorem size_or {e x : PE} (h : x ∈ e.or) : x.size < e.size := by
  have := sizeL_mem h; rw [size_eq e]; omega
end PE
namespace PS
def kind : PS → Int | mk k _ _ _ _ _ => k
def name : PS → ByteArray | mk _ k _ _ _ _ => k
def num : PS → Int | mk _ _ k _ _ _ => k
def expr : PS → PE | mk _ _ _ k _ _ => k
def body : PS → List PS | mk _ _ _ _ k _ => k
def els : PS → List PS | mk _ _ _ _ _ k => k
mutual
def size : PS → Nat
  | mk _ _ _ e a o => 1 + e.size + sizeL a + sizeL o
def sizeL : List PS → Nat
  | [] => 0
  | e :: l => size e + sizeL l
end
theorem size_pos (e : PS) : 1 ≤ e.size := by cases e; unfold size; omega
theorem sizeL_mem : ∀ {l : List PS} {e : PS}, e ∈ l → e.size ≤ sizeL l
  | x :: l, e, h => by
    unfold sizeL
    rcases List.mem_cons.1 h with rfl | h
    · omega
    · have := sizeL_mem h; omega
theorem size_body (e : PS) : sizeL e.body < e.size := by cases e; unfold size; simp only [body]; omega
theorem size_expr (e : PS) : e.expr.size < e.size := by cases e; unfold size; simp only [expr]; omega
theorem size_els (e : PS) : sizeL e.els < e.size := by cases e; unfold size; simp only [els]; omega
end PS
end Sim
namespace Go.Vc
open Sim
abbrev RdC (w0 : World) (sh : Shared) (m : Nat) (v : Value) (cl : List (List Value)) : Prop := RdSl w0 sh (fun c => c) m v cl
abbrev peC (kind num : Int) (name meth : ByteArray) (va vo : Value) : List Value := [.int .i64 kind, .int .i64 num, .string name, .string meth, va, vo]
mutual
def RdE (w0 : World) (sh : Shared) : PE → List Value → Prop
  | .mk kind num name meth args or, cs => ∃ va vo cl cl', cs = peC kind num name meth va vo ∧ RdC w0 sh 6 va cl ∧ RdEs w0 sh args cl ∧ RdC w0 sh 6 vo cl' ∧ RdEs w0 sh or cl'
def RdEs (w0 : World) (sh : Shared) : List PE → List (List Value) → Prop
  | [], cl => cl = []
  | e :: l, cl => ∃ c cl', cl = c :: cl' ∧ RdE w0 sh e c ∧ RdEs w0 sh l cl'
end
def RdEl (w0 : World) (sh : Shared) (v : Value) (l : List PE) : Prop := ∃ cl, RdC w0 sh 6 v cl ∧ RdEs w0 sh l cl
mutual
def RdS (w0 : World) (sh : Shared) : PS → List Value → Prop
  | .mk kind name num expr body els, cs => ∃ ce vb ve cl cl', cs = [.int .i64 kind, .string name, .int .i64 num] ++ ce ++ [vb, ve] ∧ RdE w0 sh expr ce ∧ RdC w0 sh 11 vb cl ∧ RdSs w0 sh body cl ∧ RdC w0 sh 11 ve cl' ∧ RdSs w0 sh els cl'
def RdSs (w0 : World) (sh : Shared) : List PS → List (List Value) → Prop
  | [], cl => cl = []
  | e :: l, cl => ∃ c cl', cl = c :: cl' ∧ RdS w0 sh e c ∧ RdSs w0 sh l cl'
end
def RdSt (w0 : World) (sh : Shared) (v : Value) (l : List PS) : Prop := ∃ cl, RdC w0 sh 11 v cl ∧ RdSs w0 sh l cl
section
variable {w0 : World} {sh sh' : Shared}
mutual
theorem RdE.mono (hs : ∀ p ∈ sh, p ∈ sh') : ∀ {e : PE} {cs : List Value}, RdE w0 sh e cs → RdE w0 sh' e cs
  | .mk _ _ _ _ _ _, _, h => by
    unfold RdE at h ⊢
    obtain ⟨va, vo, cl, cl', h1, h2, h3, h4, h5⟩ := h
    exact ⟨va, vo, cl, cl', h1, h2.mono hs, RdEs.mono hs h3, h4.mono hs, RdEs.mono hs h5⟩
theorem RdEs.mono (hs : ∀ p ∈ sh, p ∈ sh') : ∀ {l : List PE} {cl : List (List Value)}, RdEs w0 sh l cl → RdEs w0 sh' l cl
  | [], _, h => by unfold RdEs at h ⊢; exact h
  | _ :: _, _, h => by
    unfold RdEs at h ⊢
    obtain ⟨c, cl', h1, h2, h3⟩ := h
    exact ⟨c, cl', h1, RdE.mono hs h2, RdEs.mono hs h3⟩
end
theorem RdEl.mono {v : Value} {l : List PE} (h : RdEl w0 sh v l) (hs : ∀ p ∈ sh, p ∈ sh') : RdEl w0 sh' v l := let ⟨cl, h1, h2⟩ := h; ⟨cl, h1.mono hs, h2.mono hs⟩
mutual
theorem RdS.mono (hs : ∀ p ∈ sh, p ∈ sh') : ∀ {e : PS} {cs : List Value}, RdS w0 sh e cs → RdS w0 sh' e cs
  | .mk _ _ _ _ _ _, _, h => by
    unfold RdS at h ⊢
    obtain ⟨ce, vb, ve, cl, cl', h1, h0, h2, h3, h4, h5⟩ := h
    exact ⟨ce, vb, ve, cl, cl', h1, h0.mono hs, h2.mono hs, RdSs.mono hs h3, h4.mono hs, RdSs.mono hs h5⟩
theorem RdSs.mono (hs : ∀ p ∈ sh, p ∈ sh') : ∀ {l : List PS} {cl : List (List Value)}, RdSs w0 sh l cl → RdSs w0 sh' l cl
  | [], _, h => by unfold RdSs at h ⊢; exact h
  | _ :: _, _, h => by
    unfold RdSs at h ⊢
    obtain ⟨c, cl', h1, h2, h3⟩ := h
    exact ⟨c, cl', h1, RdS.mono hs h2, RdSs.mono hs h3⟩
end
theorem RdSt.mono {v : Value} {l : List PS} (h : RdSt w0 sh v l) (hs : ∀ p ∈ sh, p ∈ sh') : RdSt w0 sh' v l := let ⟨cl, h1, h2⟩ := h; ⟨cl, h1.mono hs, h2.mono hs⟩
theorem RdE.cs {e : PE} {cs : List Value} (h : RdE w0 sh e cs) : ∃ va vo, cs = peC e.kind e.num e.name e.meth va vo ∧ RdEl w0 sh va e.args ∧ RdEl w0 sh vo e.or := by
  cases e
  unfold RdE at h
  obtain ⟨va, vo, cl, cl', h1, h2, h3, h4, h5⟩ := h
  exact ⟨va, vo, h1, ⟨cl, h2, h3⟩, ⟨cl', h4, h5⟩⟩
theorem RdE.of {e : PE} {va vo : Value} (h1 : RdEl w0 sh va e.args) (h2 : RdEl w0 sh vo e.or) : RdE w0 sh e (peC e.kind e.num e.name e.meth va vo) := by
  cases e
  obtain ⟨cl, h3, h4⟩ := h1
  obtain ⟨cl', h5, h6⟩ := h2
  unfold RdE
  exact ⟨va, vo, cl, cl', rfl, h3, h4, h5, h6⟩
theorem RdS.cs {e : PS} {cs : List Value} (h : RdS w0 sh e cs) : ∃ va vo vb ve, cs = [.int .i64 e.kind, .string e.name, .int .i64 e.num, .int .i64 e.expr.kind, .int .i64 e.expr.num, .string e.expr.name, .string e.expr.meth, va, vo, vb, ve] ∧ RdE w0 sh e.expr (peC e.expr.kind e.expr.num e.expr.name e.expr.meth va vo) ∧ RdSt w0 sh vb e.body ∧ RdSt w0 sh ve e.els := by
  cases e
  unfold RdS at h
  obtain ⟨ce, vb, ve, cl, cl', h1, h0, h2, h3, h4, h5⟩ := h
  obtain ⟨va, vo, h6, h7, h8⟩ := h0.cs
  subst h6
  exact ⟨va, vo, vb, ve, h1, h0, ⟨cl, h2, h3⟩, ⟨cl', h4, h5⟩⟩
theorem RdEs.len : ∀ {l : List PE} {cl : List (List Value)}, RdEs w0 sh l cl → cl.length = l.length
  | [], _, h => by unfold RdEs at h; rw [h]; rfl
  | _ :: l, _, h => by
    unfold RdEs at h
    obtain ⟨c, cl', h1, h2, h3⟩ := h
    rw [h1, List.length_cons, List.length_cons, RdEs.len h3]
theorem RdEs.at : ∀ {l : List PE} {cl : List (List Value)}, RdEs w0 sh l cl → ∀ {i : Nat} {e : PE}, l[i]? = some e → ∃ c, cl[i]? = some c ∧ RdE w0 sh e c
  | [], _, _, i, e, he => by simp at he
  | _ :: l, _, h, i, e, he => by
    unfold RdEs at h
    obtain ⟨c, cl', h1, h2, h3⟩ := h
    subst h1
    cases i with
    | zero => simp at he; subst he; exact ⟨c, rfl, h2⟩
    | succ i => rw [List.getElem?_cons_succ] at he ⊢; exact RdEs.at h3 he
theorem RdEs.snoc : ∀ {l : List PE} {cl : List (List Value)} {e : PE} {c : List Value}, RdEs w0 sh l cl → RdE w0 sh e c → RdEs w0 sh (l ++ [e]) (cl ++ [c])
  | [], _, e, c, h, he => by unfold RdEs at h; subst h; unfold RdEs; exact ⟨c, [], rfl, he, by unfold RdEs; rfl⟩
  | _ :: l, _, e, c, h, he => by
    unfold RdEs at h
    obtain ⟨c1, cl', h1, h2, h3⟩ := h
    subst h1
    rw [List.cons_append, List.cons_append]
    unfold RdEs
    exact ⟨c1, _, rfl, h2, RdEs.snoc h3 he⟩
theorem RdSs.len : ∀ {l : List PS} {cl : List (List Value)}, RdSs w0 sh l cl → cl.length = l.length
  | [], _, h => by unfold RdSs at h; rw [h]; rfl
  | _ :: l, _, h => by
    unfold RdSs at h
    obtain ⟨c, cl', h1, h2, h3⟩ := h
    rw [h1, List.length_cons, List.length_cons, RdSs.len h3]
theorem RdSs.at : ∀ {l : List PS} {cl : List (List Value)}, RdSs w0 sh l cl → ∀ {i : Nat} {e : PS}, l[i]? = some e → ∃ c, cl[i]? = some c ∧ RdS w0 sh e c
  | [], _, _, i, e, he => by simp at he
  | _ :: l, _, h, i, e, he => by
    unfold RdSs at h
    obtain ⟨c, cl', h1, h2, h3⟩ := h
    subst h1
    cases i with
    | zero => simp at he; subst he; exact ⟨c, rfl, h2⟩
    | succ i => rw [List.getElem?_cons_succ] at he ⊢; exact RdSs.at h3 he
theorem RdEl.len {v : Value} {l : List PE} (h : RdEl w0 sh v l) : ∃ a cap, v = .slice a l.length cap ∧ l.length ≤ cap := by
  obtain ⟨cl, h1, h2⟩ := h
  obtain ⟨a, cap, e, hc, _⟩ := id h1
  rw [h2.len] at e hc
  exact ⟨a, cap, e, hc⟩
theorem RdSt.len {v : Value} {l : List PS} (h : RdSt w0 sh v l) : ∃ a cap, v = .slice a l.length cap ∧ l.length ≤ cap := by
  obtain ⟨cl, h1, h2⟩ := h
  obtain ⟨a, cap, e, hc, _⟩ := id h1
  rw [h2.len] at e hc
  exact ⟨a, cap, e, hc⟩
theorem RdEl.at {a : Option Addr} {len cap : Nat} {l : List PE} (h : RdEl w0 sh (.slice a len cap) l) {i : Nat} {e : PE} (he : l[i]? = some e) :
    ∃ b off c T fr cs, a = some ⟨b, off, none⟩ ∧ (∀ hF Γ w, Sh sh hF → St w0 hF Γ w → w.heap[b]? = some (.cells c T fr)) ∧ (∀ o, o = off + i * 6 → rd true 6 c.toList o = some (.agg (List.toArray cs))) ∧ RdE w0 sh e cs ∧ (∀ k u, cs[k]? = some u → ∀ o, o = off + i * 6 + k → rd false 1 c.toList o = some u) := by
  obtain ⟨cl, h1, h2⟩ := h
  obtain ⟨c0, h3, h4⟩ := h2.at he
  obtain ⟨b, off, c, T, fr, e1, e2, e3, e4⟩ := h1.cells h3
  exact ⟨b, off, c, T, fr, c0, e1, e2, e3, h4, e4⟩
theorem RdSt.at {a : Option Addr} {len cap : Nat} {l : List PS} (h : RdSt w0 sh (.slice a len cap) l) {i : Nat} {e : PS} (he : l[i]? = some e) :
    ∃ b off c T fr cs, a = some ⟨b, off, none⟩ ∧ (∀ hF Γ w, Sh sh hF → St w0 hF Γ w → w.heap[b]? = some (.cells c T fr)) ∧ (∀ o, o = off + i * 11 → rd true 11 c.toList o = some (.agg (List.toArray cs))) ∧ RdS w0 sh e cs ∧ (∀ k u, cs[k]? = some u → ∀ o, o = off + i * 11 + k → rd false 1 c.toList o = some u) := by
  obtain ⟨cl, h1, h2⟩ := h
  obtain ⟨c0, h3, h4⟩ := h2.at he
  obtain ⟨b, off, c, T, fr, e1, e2, e3, e4⟩ := h1.cells h3
  exact ⟨b, off, c, T, fr, c0, e1, e2, e3, h4, e4⟩
end
end Go.Vc

namespace Go.Vc
def Rds (φ : Shared → Prop) : Asn := fun g => ∃ bl : Shared, (∀ p ∈ bl, g p.1 = some p.2) ∧ φ bl
theorem Rds.mono {φ ψ : Shared → Prop} (h : ∀ bl, φ bl → ψ bl) (g : Heap) (hg : Rds φ g) : Rds ψ g := let ⟨bl, h1, h2⟩ := hg; ⟨bl, h1, h bl h2⟩
theorem or_left {g1 g2 : Heap} {p : Nat × Obj} (h : g1 p.1 = some p.2) : (g1.or g2) p.1 = some p.2 := by unfold Heap.or; rw [h]
theorem or_right {g1 g2 : Heap} (hd : Disj g1 g2) {p : Nat × Obj} (h : g2 p.1 = some p.2) : (g1.or g2) p.1 = some p.2 := by
  unfold Heap.or
  rcases hd p.1 with e | e
  · rw [e]; exact h
  · rw [e] at h; cases h
theorem Rds.join {φ ψ χ : Shared → Prop} (h : ∀ b1 b2, φ b1 → ψ b2 → χ (b1 ++ b2)) (g : Heap) (hg : Stars [Rds φ, Rds ψ] g) : Rds χ g := by
  obtain ⟨g1, g2, hd, rfl, ⟨b1, h1, h2⟩, hs⟩ := hg
  obtain ⟨b2, h3, h4⟩ := Stars.one.1 hs
  refine ⟨b1 ++ b2, fun p hp => ?_, h b1 b2 h2 h4⟩
  rcases List.mem_append.1 hp with hp | hp
  · exact or_left (h1 p hp)
  · exact or_right hd (h3 p hp)
theorem Rds.of_pt {b : Nat} {o : Obj} (g : Heap) (hg : pt b o g) : Rds (fun bl => (b, o) ∈ bl) g := ⟨[(b, o)], fun p hp => by rw [List.mem_singleton.1 hp]; simp only [pt] at hg; subst hg; simp [Heap.one], .head _⟩
theorem Rds.emp {φ : Shared → Prop} (h : φ []) : Rds φ Heap.emp := ⟨[], fun _ hp => absurd hp List.not_mem_nil, h⟩
section
variable {P : Program} {w0 : World} {n : Nat} {sh : Shared} {Q : Exit → Env → List Deferred → List Asn → Prop} {k : List Item} {ρ : Env} {df : List Deferred} {Γ : List Asn} {φ : Shared → Prop}
theorem run_shareR (is : List Nat) {Γr : List Asn} (hp : pick is Γ = some ([Rds φ], Γr))
    (h : ∀ sh' bl, (∀ p ∈ sh, p ∈ sh') → (∀ p ∈ bl, p ∈ sh') → φ bl → Run P w0 n sh' Q k ρ df Γr) : Run P w0 n sh Q k ρ df Γ := by
  refine ⟨?_⟩
  intro hF hsh a w ha hn hd hst
  have h1 : St w0 hF (Γr ++ [Rds φ]) w := (hst.perm (pick_perm hp)).perm List.perm_append_comm
  obtain ⟨g, hg, hdj, hst2⟩ := h1.split
  obtain ⟨bl, hb1, hb2⟩ := Stars.one.1 hg
  have hsub : ∀ c oc, hF c = some oc → (g.or hF) c = some oc := fun c oc hc => by
    rcases hdj c with e | e
    · simp [Heap.or, e, hc]
    · rw [e] at hc; cases hc
  refine RunAt.mono ((h (bl ++ sh) bl (fun p hp => List.mem_append_right _ hp) (fun p hp => List.mem_append_left _ hp) hb2).go _ (fun p hp => ?_)) hsub (fun _ _ _ _ h => h) ha hn hd hst2
  rcases List.mem_append.1 hp with hp | hp
  · exact or_left (hb1 p hp)
  · exact hsub _ _ (hsh p hp)
theorem run_joinR (is : List Nat) {ψ χ : Shared → Prop} {Γr : List Asn} (hp : pick is Γ = some ([Rds φ, Rds ψ], Γr)) (hj : ∀ b1 b2, φ b1 → ψ b2 → χ (b1 ++ b2))
    (h : Run P w0 n sh Q k ρ df (Rds χ :: Γr)) : Run P w0 n sh Q k ρ df Γ := run_close is hp (fun g hg => Rds.join hj g hg) h
end
theorem Rds.ofSl {α : Type} {w0 : World} {encE : α → List Value} {q : Nat} {T : TypeId} {a : Option Addr} {len cap : Nat} {l : List α} (hq : ∀ x ∈ l, (encE x).length = q) (hl : l.length = len) (g : Heap) (hg : SlA T q a len cap (l.flatMap encE) g) :
    Rds (fun bl => RdSl w0 bl encE q (.slice a len cap) l) g := by
  subst hl
  cases a with
  | none =>
    obtain ⟨e1, e2, e3, e4⟩ := SlA.none_iff.1 hg
    subst e4
    have hl : l = [] := List.length_eq_zero_iff.1 e1
    subst hl
    exact Rds.emp RdSl.nil
  | some ad =>
    obtain ⟨b', spare, e1, e2, e3, e4, e5⟩ := SlA.some_iff.1 hg
    refine Rds.mono (fun bl hb => ?_) g (Rds.of_pt g e5)
    rw [e1]
    exact RdSl.flatS hq hb e3
end Go.Vc

namespace Go.Vc
def ofB (l : List UInt8) : ByteArray := ⟨l.toArray⟩
theorem ofB_data (b : ByteArray) : ofB b.data.toList = b := rfl
def strsV (l : List (List UInt8)) : List Value := l.map fun x => .string (ofB x)
section
variable {P : Program} {w0 : World} {n : Nat} {sh : Shared} {Q : Exit → Env → List Deferred → List Asn → Prop} {k : List Item} {ρ : Env} {df : List Deferred} {Γ : List Asn} {hF : Heap}
variable {ops : Array Oper} {l : List (Fl × Nat × Oper)} {b : Fl} {i d : Nat} {ty : TypeId} {pos : String} {aft : Array Edge}
variable {x y : Operand} {t e : TypeId} {N cap bb : Nat} {D : Array (List UInt8)} {z : Int} {v : List UInt8}
def DatS (e : TypeId) (bb N cap : Nat) (D : Array (List UInt8)) : Asn := SlA e 1 (some ⟨bb, 0, none⟩) N cap (strsV D.toList)
theorem DatS.size {h : Heap} (hA : DatS e bb N cap D h) : D.size = N := by
  have := (SlA_len hA).1
  simpa [strsV] using this
end
end Go.Vc

namespace Go.Vc
section
variable {P : Program} {w0 : World} {n : Nat} {sh : Shared} {Q : Exit → Env → List Deferred → List Asn → Prop} {k : List Item} {ρ : Env} {df : List Deferred} {Γ : List Asn} {hF : Heap}
variable {ops : Array Oper} {l : List (Fl × Nat × Oper)} {b : Fl} {i d : Nat} {ty : TypeId} {pos : String} {aft : Array Edge}
variable {x y : Operand} {t T e t2 : TypeId} {agg : Bool} {sz bytes : Nat}
end
end Go.Vc

namespace Go.Vc
abbrev encY (b : ByteArray) : List Value := [.string b]
theorem RdSl.conv {α β : Type} {encE : α → List Value} {encF : β → List Value} {m : Nat} {w0 : World} {sh : Shared} {v : Value} {l : List α} (f : α → β) (hf : ∀ x, encF (f x) = encE x) (h : RdSl w0 sh encE m v l) : RdSl w0 sh encF m v (l.map f) := by
  obtain ⟨a, cap, h1, h2, h3⟩ := h
  refine ⟨a, cap, by rw [List.length_map]; exact h1, by rw [List.length_map]; exact h2, ?_⟩
  rcases h3 with h3 | ⟨b, off, c, T, fr, e, hh, hc⟩
  · exact .inl (by rw [h3]; rfl)
  · refine .inr ⟨b, off, c, T, fr, e, hh, fun i x hx => ?_⟩
    rw [List.getElem?_map] at hx
    cases hy : l[i]? with
    | none => rw [hy] at hx; cases hx
    | some y =>
      rw [hy] at hx
      cases hx
      rw [hf]
      exact hc i y hy
def unB (l : List ByteArray) : List (List UInt8) := l.map fun b => b.data.toList
theorem unB_map (l : List ByteArray) : (unB l).map ofB = l := by
  induction l with
  | nil => rfl
  | cons x l ih => simp only [unB, List.map_cons, List.map_map] at ih ⊢; rw [ih, ofB_data]
theorem strsV_y (l : List (List UInt8)) : strsV l = (l.map ofB).flatMap encY := by
  induction l with
  | nil => rfl
  | cons x l ih => simp only [strsV, List.map_cons, List.flatMap_cons] at ih ⊢; rw [ih]; rfl
theorem strsV_one : ∀ l : List (List UInt8), allOne (strsV l) = true
  | [] => rfl
  | _ :: l => strsV_one l
section
variable {P : Program} {w0 : World} {n : Nat} {sh : Shared} {Q : Exit → Env → List Deferred → List Asn → Prop} {k : List Item} {ρ : Env} {df : List Deferred} {Γ : List Asn} {φ : Shared → Prop}
theorem run_emptyR (φ : Shared → Prop) (hφ : φ []) (h : Run P w0 n sh Q k ρ df (Rds φ :: Γ)) : Run P w0 n sh Q k ρ df Γ := by
  refine ⟨?_⟩
  intro hF hsh a w ha hn hd hst
  exact h.go hF hsh a w ha hn hd (St.emp_head (Rds.emp hφ) hst)
theorem run_slR {α : Type} (encE : α → List Value) (i : Nat) {q : Nat} {T : TypeId} {a : Option Addr} {len cap : Nat} {l : List α} {cs : List Value} {Γ' : List Asn} (hi : getAt i Γ = some (SlA T q a len cap cs)) (hcs : cs = l.flatMap encE) (hq : ∀ x ∈ l, (encE x).length = q) (hl : l.length = len)
    (hput : putAt i (Rds fun bl => RdSl w0 bl encE q (.slice a len cap) l) Γ = some Γ') (h : Run P w0 n sh Q k ρ df Γ') : Run P w0 n sh Q k ρ df Γ := by
  subst hcs
  exact run_exch i _ hi (fun g hg => Rds.ofSl hq hl g hg) hput h
section
variable {ops : Array Oper} {l : List (Fl × Nat × Oper)} {b : Fl} {i d : Nat} {ty yt t : TypeId} {pos : String} {aft : Array Edge} {x y : Operand}
end
end
end Go.Vc

namespace Go.Vc
def bytesV (s : ByteArray) : List Value := s.data.toList.map fun b => .int .u8 b.toNat
theorem bytesV_rd {s : ByteArray} {spare : List Value} {i : Nat} {b : UInt8} (h : s.data.toList[i]? = some b) (o : Nat) (ho : o = 0 + i * 1) : rd false 1 (List.toArray (bytesV s ++ spare)).toList o = some (.int .u8 (b.toNat : Int)) := by
  refine rd_one (o := i) ?_ o (by omega)
  have h1 : (bytesV s)[i]? = some (.int .u8 (b.toNat : Int)) := by simp only [bytesV, List.getElem?_map, h]; rfl
  have h2 : i < (bytesV s).length := (List.getElem?_eq_some_iff.1 h1).1
  simp only [List.getElem?_toArray]
  rw [List.getElem?_append_left h2]
  exact h1
section
variable {P : Program} {w0 : World} {n : Nat} {sh : Shared} {Q : Exit → Env → List Deferred → List Asn → Prop} {k : List Item} {ρ : Env} {df : List Deferred} {Γ : List Asn}
variable {ops : Array Oper} {l : List (Fl × Nat × Oper)} {b : Fl} {i d : Nat} {ty : TypeId} {pos : String} {aft : Array Edge}
variable {x y : Operand} {src dst t e : TypeId} {s : ByteArray}
theorem reg_bytesS [hs : TUnd P src .string] [hd : TUnd P dst (.slice e)] [he : TUnd P e (.int .u8)] (hx : ev ρ x = .string s)
    (h : ∀ nb cap spare fr, Reg P w0 n sh Q ops l k (ρ.set d (.slice (some ⟨nb, 0, none⟩) s.size cap)) df (pt nb (.cells (List.toArray (bytesV s ++ spare)) e fr) :: Γ)) :
    Reg P w0 n sh Q ops ((Fl.loud, i, ⟨some d, .convert src dst x, ty, pos, aft, none⟩) :: l) k ρ df Γ := by
  refine reg_loud rfl (fun v' df' Γ'' => ∃ nb cap spare fr, v' = .slice (some ⟨nb, 0, none⟩) s.size cap ∧ df' = df ∧ Γ'' = pt nb (.cells (List.toArray (bytesV s ++ spare)) e fr) :: Γ) (fun hF _ w hst => ?_)
    (fun v' df' Γ'' ⟨nb, cap, spare, fr, h1, h2, h3⟩ => by subst h1; subst h2; subst h3; exact h nb cap spare fr)
  have hr := Lib.run_convert_string_bytes (P := P) w src dst e s hs.und hd.und he.und
  simp only [execOp, hx, Sem.run_bind, hr, Result.andThen_ok, Sem.run_pure]
  have e1 : Lib.bytesCells w e s = List.toArray (bytesV s ++ List.replicate (grownCap w s.size 0 e - s.size) (.int .u8 0)) := by
    simp only [Lib.bytesCells, bytesV]
    apply Array.ext'
    simp
  have hst1 := hst.alloc (.cells (List.toArray (bytesV s ++ List.replicate (grownCap w s.size 0 e - s.size) (.int .u8 0))) e ((Lib.bytesCells w e s).size, (Lib.bytesCells w e s).size + 1))
  refine ⟨_, ⟨w.heap.size, _, _, _, rfl, rfl, rfl⟩, hst1.same rfl rfl rfl ?_⟩
  apply Array.ext_getElem?
  intro j
  show (Lib.bytesWorld w e s).heap[j]? = (w.heap.push _)[j]?
  rcases Nat.lt_trichotomy j w.heap.size with hj | hj | hj
  · rw [Lib.bytesWorld_at_old w e s j hj, Array.getElem?_push, if_neg (by omega)]
  · subst hj
    rw [Lib.bytesWorld_at_new, Array.getElem?_push, if_pos rfl, e1]
  · rw [Array.getElem?_eq_none (by rw [Lib.bytesWorld_size]; omega), Array.getElem?_eq_none (by simp; omega)]
theorem reg_slice_arr {agg : Bool} {m sz bb : Nat} [hT : TUnd P t (.array m e)] [hS : TShape P e agg sz] (hx : ev ρ x = .pointer (some ⟨bb, 0, none⟩)) (hm : 0 < m)
    (h : Reg P w0 n sh Q ops l k (ρ.set d (.slice (some ⟨bb, 0, none⟩) m m)) df Γ) :
    Reg P w0 n sh Q ops ((b, i, ⟨some d, .slice t x none none none, ty, pos, aft, none⟩) :: l) k ρ df Γ :=
  reg_quiet rfl (fun hF _ => quiet_of_run fun w => by
    have hne : ¬ m = 0 := by omega
    simp only [execOp, hx, Option.map_none, Instr.sliceAt, Instr.sureAddr, Sem.run_bind, run_underlying hT.und, Result.andThen_ok, Instr.sliceBounds, Sem.run_pure, hS.size_run, hne, if_false, Nat.zero_mul, Nat.sub_zero]
    rfl) h
end
end Go.Vc

namespace Go.Vc
section
variable {P : Program} {w0 : World} {n : Nat} {sh : Shared} {Q : Exit → Env → List Deferred → List Asn → Prop} {k : List Item} {ρ : Env} {df : List Deferred} {Γ : List Asn}
variable {ops : Array Oper} {l : List (Fl × Nat × Oper)} {b : Fl} {i d : Nat} {ty : TypeId} {pos : String} {aft : Array Edge}
variable {x y : Operand} {t yt : TypeId} {u v : ByteArray}
theorem reg_eqST (hx : ev ρ x = .string u) (hy : ev ρ y = .string v) (he : u = v) (h : Reg P w0 n sh Q ops l k (ρ.set d (.bool true)) df Γ) :
    Reg P w0 n sh Q ops ((b, i, ⟨some d, .binOp .eql t x y yt, ty, pos, aft, none⟩) :: l) k ρ df Γ := reg_eqS hx hy (by rw [decide_eq_true he]; exact h)
theorem reg_eqSF (hx : ev ρ x = .string u) (hy : ev ρ y = .string v) (he : ¬ u = v) (h : Reg P w0 n sh Q ops l k (ρ.set d (.bool false)) df Γ) :
    Reg P w0 n sh Q ops ((b, i, ⟨some d, .binOp .eql t x y yt, ty, pos, aft, none⟩) :: l) k ρ df Γ := reg_eqS hx hy (by rw [decide_eq_false he]; exact h)
theorem Fn.lendR {f : FuncId} {args : List Value} {φ : Shared → Prop} {R : Value → List Asn → Prop} (hen : Enters P f) (h : ∀ sh' bl, (∀ p ∈ sh, p ∈ sh') → (∀ p ∈ bl, p ∈ sh') → φ bl → Fn P w0 sh' f args Γ R) :
    Fn P w0 sh f args (Rds φ :: Γ) fun r Γ' => ∃ Γ'', R r Γ'' ∧ Γ' = Γ'' ++ [Rds φ] := by
  refine ⟨hen, fun hF w hsh hst => ?_⟩
  have h1 : St w0 hF (Γ ++ [Rds φ]) w := hst.perm (List.perm_append_comm (l₁ := [_]))
  obtain ⟨g, hg, hdj, hst2⟩ := h1.split
  obtain ⟨bl, hb1, hb2⟩ := Stars.one.1 hg
  have hsub : ∀ c oc, hF c = some oc → (g.or hF) c = some oc := fun c oc hc => by
    rcases hdj c with e | e
    · simp [Heap.or, e, hc]
    · rw [e] at hc; cases hc
  refine ((h (bl ++ sh) bl (fun p hp => List.mem_append_right _ hp) (fun p hp => List.mem_append_left _ hp) hb2).calls _ w (fun p hp => ?_) hst2).mono ?_
  · rcases List.mem_append.1 hp with hp | hp
    · exact or_left (hb1 p hp)
    · exact hsub _ _ (hsh p hp)
  · rintro e w' ⟨r, Γ', he, h4, h5⟩
    exact ⟨r, _, he, ⟨Γ', h4, rfl⟩, h5.join (Stars.one.2 ⟨bl, hb1, hb2⟩) hdj⟩
end
end Go.Vc
namespace Sim
theorem size_bs {s : ByteArray} : s.size = 0 ↔ s = ⟨#[]⟩ := by
  constructor
  · intro h
    obtain ⟨a⟩ := s
    have : a.size = 0 := h
    rw [Array.eq_empty_of_size_eq_zero this]
  · intro h; subst h; rfl
end Sim
namespace Go.Vc
section
variable {P : Program} {w0 : World} {n : Nat} {sh : Shared} {Q : Exit → Env → List Deferred → List Asn → Prop} {k : List Item} {ρ : Env} {df : List Deferred} {Γ : List Asn}
variable {ops : Array Oper} {l : List (Fl × Nat × Oper)} {b : Fl} {i d : Nat} {ty : TypeId} {pos : String} {aft : Array Edge}
variable {x y : Operand} {t yt : TypeId} {u : ByteArray}
theorem reg_eqS0 (hx : ev ρ x = .string u) (hy : ev ρ y = .string ⟨#[]⟩) (h : Reg P w0 n sh Q ops l k (ρ.set d (.bool (decide (u.size = 0)))) df Γ) :
    Reg P w0 n sh Q ops ((b, i, ⟨some d, .binOp .eql t x y yt, ty, pos, aft, none⟩) :: l) k ρ df Γ := reg_eqS hx hy (by rw [show decide (u = ⟨#[]⟩) = decide (u.size = 0) from by simp only [Sim.size_bs]]; exact h)
theorem reg_neS0 (hx : ev ρ x = .string u) (hy : ev ρ y = .string ⟨#[]⟩) (h : Reg P w0 n sh Q ops l k (ρ.set d (.bool (decide (¬ u.size = 0)))) df Γ) :
    Reg P w0 n sh Q ops ((b, i, ⟨some d, .binOp .neq t x y yt, ty, pos, aft, none⟩) :: l) k ρ df Γ := reg_neS hx hy (by rw [show decide (u ≠ ⟨#[]⟩) = decide (¬ u.size = 0) from by simp only [Sim.size_bs, ne_eq]]; exact h)
end
end Go.Vc
namespace Go.Vc
theorem Fn.know {P : Program} {w0 : World} {sh : Shared} {f : FuncId} {args : List Value} {Γ : List Asn} {R R' : Value → List Asn → Prop} (h : Fn P w0 sh f args Γ R)
    (hr : ∀ v Γ', R v Γ' → (∃ hF w, St w0 hF Γ' w) → R' v Γ') : Fn P w0 sh f args Γ R' :=
  ⟨h.enters, fun hF w hsh hst => (h.calls hF w hsh hst).mono fun _ _ ⟨v, Γ', h1, h2, h3⟩ => ⟨v, Γ', h1, hr _ _ h2 ⟨_, _, h3⟩, h3⟩⟩
theorem Rds.st {w0 : World} {φ : Shared → Prop} {Γ : List Asn} (h : ∃ hF w, St w0 hF (Rds φ :: Γ) w) : ∃ bl, φ bl := by
  obtain ⟨hF, w, h⟩ := h
  obtain ⟨g, ⟨bl, _, hb⟩, _⟩ := h.head
  exact ⟨bl, hb⟩
end Go.Vc

namespace Go.Vc
section
variable {P : Program} {w0 : World} {n : Nat} {sh : Shared} {Q : Exit → Env → List Deferred → List Asn → Prop} {k : List Item} {ρ : Env} {df : List Deferred} {Γ : List Asn}
variable {ops : Array Oper} {l : List (Fl × Nat × Oper)} {b : Fl} {i d : Nat} {ty : TypeId} {pos : String} {aft : Array Edge}
variable {x y z : Operand} {t kt et : TypeId} {kd : IntKind} {r : Nat} {a : Int} {ml : List (Int × Value)}
theorem reg_insert (j : Nat) {Γ' : List Asn} {u : Value} {dst : Option Tmp} [hT : TUnd P t (.map kt et)] [hK : TUnd P kt (.int kd)] (hx : ev ρ x = .map (some r)) (hy : ev ρ y = .int .i64 a) (hz : ev ρ z = u)
    (hj : getAt j Γ = some (pt r (mapI ml))) (hput : putAt j (pt r (mapI (ins ml a u))) Γ = some Γ')
    (h : Reg P w0 n sh Q ops l k (ρ.setO dst undef) df Γ') : Reg P w0 n sh Q ops ((Fl.loud, i, ⟨dst, .insert t x y z, ty, pos, aft, none⟩) :: l) k ρ df Γ := by
  refine reg_loud rfl (fun v' df' Γ'' => v' = undef ∧ df' = df ∧ Γ'' = Γ') (fun hF _ w hst => ?_) (fun v' df' Γ' ⟨h1, h2, h3⟩ => by subst h1; subst h2; subst h3; exact h)
  obtain ⟨rr, hp1, hp2⟩ := putAt_perm hj hput
  have hst1 := hst.perm hp1
  simp only [execOp, hx, hy, hz, Sem.run_bind, mapUpdate_run hT.und hK.und hst1.get.2, Sem.run_pure, Result.andThen_ok]
  have hlt := hst1.lt
  exact ⟨Γ', ⟨rfl, rfl, rfl⟩, (St.upd (w' := { w with heap := w.heap.setIfInBounds r (mapI (ins ml a u)) }) hst1 rfl rfl rfl (by simp) (by simp [hlt]) (fun x hx => by simp [Array.getElem?_setIfInBounds_ne (Ne.symm hx)])).perm hp2⟩
end
end Go.Vc

namespace Go.Vc
section
variable {P : Program} {w0 : World} {n : Nat} {sh : Shared} {Q : Exit → Env → List Deferred → List Asn → Prop} {k : List Item} {ρ : Env} {df : List Deferred} {Γ : List Asn} {φ : Shared → Prop}
theorem run_sub {sh' : Shared} (hs : ∀ p ∈ sh, p ∈ sh') (h : Run P w0 n sh Q k ρ df Γ) : Run P w0 n sh' Q k ρ df Γ := ⟨fun hF hsh => h.go hF fun p hp => hsh p (hs p hp)⟩
theorem run_shareB (is : List Nat) {Γr : List Asn} (hp : pick is Γ = some ([Rds φ], Γr)) (h : ∀ bl, φ bl → Run P w0 n (sh ++ bl) Q k ρ df Γr) : Run P w0 n sh Q k ρ df Γ :=
  run_shareR is hp fun _ bl h1 h2 h3 => run_sub (fun p hp => (List.mem_append.1 hp).elim (h1 p) (h2 p)) (h bl h3)
end
end Go.Vc
namespace Go.Vc
end Go.Vc

namespace Go.Vc
section
variable {H : Type} {enc : TypeId × Value → H} {P : Program} {w : World} {base : Nat} {spare : Nat → Bool} {held : Bool} {t e : TypeId}
end
end Go.Vc

namespace Go.Vc
section
variable {P : Program} {w0 : World} {n : Nat} {sh : Shared} {Q : Exit → Env → List Deferred → List Asn → Prop} {k : List Item} {ρ : Env} {df : List Deferred} {Γ : List Asn}
variable {ops : Array Oper} {l : List (Fl × Nat × Oper)} {b : Fl} {i d : Nat} {ty : TypeId} {pos : String} {aft : Array Edge}
variable {x y : Operand} {t yt : TypeId} {u v : ByteArray}
end
end Go.Vc

namespace Go.Vc
theorem weightsAll_mem {H : Type} {P : Program} {e : TypeId} {d : DataW H} {q : Nat} : ∀ {l : List (DataW H)}, d ∈ l → q ∈ d.weights P e → q ∈ DataW.weightsAll P e l
  | [], h, _ => by simp at h
  | x :: l, h, hq => by
    unfold DataW.weightsAll
    rcases List.mem_cons.1 h with rfl | h
    · exact List.mem_append_left _ hq
    · exact List.mem_append_right _ (weightsAll_mem h hq)
section
variable {H : Type} {enc : TypeId × Value → H} {P : Program} {w : World} {base : Nat} {spare : Nat → Bool} {held : Bool} {t e : TypeId}
theorem in_sliceF {α : Type} (encE : α → List Value) (φ : α → Prop) {m : Nat} (ht : P.underlying t = some (.slice e)) (hm : P.cellsOf e = m) (hm0 : 0 < m)
    {fuel : Nat} {cs0 : List Value} {y0 : DataW H × List MemPlace} (hf : DataW.trod enc P w base spare held fuel t cs0 = some y0) (hq : ∀ q ∈ y0.1.weights P t, q ≤ reachBytes)
    (hE : ∀ (n : Nat), n < fuel → ∀ (cs : List Value) (y : DataW H × List MemPlace), DataW.trod enc P w base spare held n e cs = some y → (∀ q ∈ y.1.weights P e, q ≤ reachBytes) → ∃ x, φ x ∧ cs = encE x) :
    ∃ v l, cs0 = [v] ∧ InSl w encE m v l ∧ (∀ x ∈ l, φ x) ∧ l.length * P.bytesOf e ≤ reachBytes := by
  rcases DataW.trod_slice ht hf with ⟨hcs, _⟩ | ⟨a, len, cap, elems, rest, n, hfu, hcs, hy0, _, hle, hcap, hlen, hel, _, _⟩
  · exact ⟨_, [], hcs, ⟨none, 0, rfl, by simp, .inl rfl⟩, by simp, by simp⟩
  · have key : ∀ i, i < len → ∃ x, φ x ∧ (encE x).length = m ∧ ∀ k, k < m → w.cell? ((a.add (i * m)).add k) = (encE x)[k]? := fun i hi => by
      have h1 := hel i hi
      have h2 : (elems[i]?).isSome := by simp; omega
      rw [← h1, hm] at h2
      cases hc : w.cells? base (a.add (i * m)) m with
      | none => rw [hc] at h2; simp at h2
      | some cs =>
        rw [hc] at h2
        simp only [Option.bind_some] at h2
        obtain ⟨y, hy⟩ := Option.isSome_iff_exists.1 h2
        obtain ⟨x, hx1, hx2⟩ := hE n (by omega) cs y hy (fun q hqq => hq q (by
          rw [hm, hc, Option.bind_some, hy] at h1
          rw [hy0]
          simp only [DataW.weights, ht]
          exact List.mem_cons_of_mem _ (List.mem_append_left _ (weightsAll_mem (List.mem_map_of_mem (List.mem_iff_getElem?.2 ⟨i, h1.symm⟩)) hqq))))
        subst hx2
        obtain ⟨h3, h4⟩ := cells_inv hc
        exact ⟨x, hx1, h3, h4⟩
    obtain ⟨l, hl1, hl2⟩ := choose_list len key
    refine ⟨_, l, hcs, ⟨some a, cap, by rw [hl1], ⟨by omega, by omega⟩, ?_⟩, fun x hx => ?_, ?_⟩
    · cases l with
      | nil => exact .inl rfl
      | cons x0 l0 =>
        right
        obtain ⟨_, hx1, hx2⟩ := hl2 0 x0 rfl
        have h0 := hx2 0 hm0
        rw [List.getElem?_eq_getElem (by omega)] at h0
        have ha : (a.add (0 * m)).add 0 = a := by simp [Addr.add]
        rw [ha] at h0
        obtain ⟨c, T, fr, ea, hh, _⟩ := cell_inv h0
        refine ⟨a.block, a.off, c, T, fr, congrArg some ea, hh, fun i x hx => ?_⟩
        obtain ⟨_, h5, h6⟩ := hl2 i x hx
        refine ⟨h5, fun k u hu => ?_⟩
        have hk := (List.getElem?_eq_some_iff.1 hu).1
        have h7 := h6 k (by omega)
        rw [hu] at h7
        have e2 : (a.add (i * m)).add k = ⟨a.block, a.off + (i * m + k), none⟩ := by
          rw [ea]
          simp only [Addr.add]
          split <;> split <;> simp <;> omega
        rw [e2] at h7
        obtain ⟨c2, T2, fr2, _, hh2, hc2⟩ := cell_inv h7
        simp only at hh2 hc2
        rw [hh] at hh2
        cases hh2
        exact hc2
    · obtain ⟨i, hi⟩ := List.mem_iff_getElem?.1 hx
      exact (hl2 i x hi).1
    · have h1 := hq ((elems.length + rest.length) * P.bytesOf e) (by rw [hy0]; simp [DataW.weights, ht])
      have h2 : l.length * P.bytesOf e ≤ (elems.length + rest.length) * P.bytesOf e := Nat.mul_le_mul_right _ (by omega)
      exact Nat.le_trans h2 h1

theorem in_strW (ht : P.underlying t = some .string) {fuel : Nat} {cs : List Value} {y : DataW H × List MemPlace} (h : DataW.trod enc P w base spare held fuel t cs = some y) (hq : ∀ q ∈ y.1.weights P t, q ≤ reachBytes) : ∃ s : ByteArray, cs = [.string s] ∧ s.size ≤ reachBytes := by
  obtain ⟨s, h1, h2, _⟩ := DataW.trod_string ht h
  refine ⟨s, h1, hq _ ?_⟩
  rw [h2]
  simp [DataW.weights]
end
end Go.Vc

namespace Go.Vc
section
variable {P : Program} {w0 : World} {n : Nat} {sh : Shared} {Q : Exit → Env → List Deferred → List Asn → Prop} {k : List Item} {ρ : Env} {df : List Deferred} {Γ : List Asn}
variable {ops : Array Oper} {rest : List (Fl × Nat × Oper)} {b : Fl} {i d : Nat} {ty : TypeId} {pos : String} {aft : Array Edge} {x : Operand}
variable {α : Type} {encE : α → List Value} {m : Nat} {l : List α}
theorem RdSl.head {a : Option Addr} {cap q : Nat} (h : RdSl w0 sh encE m (.slice a l.length cap) l) (hq : q ≤ l.length) : RdSl w0 sh encE m (.slice a q cap) (l.take q) := by
  obtain ⟨a', cap', h1, h0, h2⟩ := h
  cases h1
  have hl : (l.take q).length = q := by rw [List.length_take]; omega
  refine ⟨a, cap, by rw [hl], by omega, ?_⟩
  rcases h2 with rfl | ⟨b, off, c, T, fr, e, hh, hc⟩
  · exact .inl (by simp)
  · refine .inr ⟨b, off, c, T, fr, e, hh, fun i x hx => ?_⟩
    rw [List.getElem?_take] at hx
    split at hx
    · exact hc i x hx
    · cases hx
end
end Go.Vc

namespace Go.Vc
def BornOk (es : List MapEntry) (clock : Nat) : Prop := (es.map (·.born)).Nodup ∧ ∀ e ∈ es, e.born < clock
def MapB (r : Nat) (l : SM) : Asn := fun h => ∃ es clock, h = Heap.one r (.map es.toArray clock) ∧ EsOk es l ∧ BornOk es clock
theorem MapB.weak {r : Nat} {l : SM} (g : Heap) (h : MapB r l g) : MapS r l g := let ⟨es, c, h1, h2, _⟩ := h; ⟨es, c, h1, h2⟩
theorem mapB_make (nb : Nat) : ∀ g, pt nb (mapI []) g → MapB nb [] g := fun _ hg => ⟨[], 0, hg, rfl, List.nodup_nil, fun _ h => by cases h⟩
theorem modify_born {f : MapEntry → MapEntry} (hf : ∀ e, (f e).born = e.born) : ∀ (es : List MapEntry) (j : Nat), (es.modify j f).map (·.born) = es.map (·.born)
  | [], j => by simp
  | e :: es, 0 => by simp [hf]
  | e :: es, j + 1 => by simp [modify_born hf es j]
theorem BornOk.modify {es : List MapEntry} {clock j : Nat} {f : MapEntry → MapEntry} (h : BornOk es clock) (hf : ∀ e, (f e).born = e.born) : BornOk (es.modify j f) clock := by
  have hm := modify_born hf es j
  refine ⟨by rw [hm]; exact h.1, fun e he => ?_⟩
  have : e.born ∈ (es.modify j f).map (·.born) := List.mem_map_of_mem he
  rw [hm] at this
  obtain ⟨e', h1, h2⟩ := List.mem_map.1 this
  rw [← h2]; exact h.2 e' h1
theorem BornOk.push {es : List MapEntry} {clock : Nat} (h : BornOk es clock) (k v : Value) : BornOk (es ++ [{ key := k, val := v, born := clock }]) (clock + 1) := by
  refine ⟨?_, fun e he => ?_⟩
  · rw [List.map_append, List.nodup_append]
    refine ⟨h.1, by simp, fun a ha b hb e => ?_⟩
    rw [List.map_singleton, List.mem_singleton] at hb
    have hb : b = clock := hb
    obtain ⟨x, hx, rfl⟩ := List.mem_map.1 ha
    have := h.2 x hx
    omega
  · rcases List.mem_append.1 he with he | he
    · have := h.2 e he; omega
    · rw [List.mem_singleton.1 he]; exact Nat.lt_succ_self _
theorem BornOk.erase {es : List MapEntry} {clock j : Nat} (h : BornOk es clock) : BornOk (es.eraseIdx j) clock := by
  have hs := List.eraseIdx_sublist es j
  exact ⟨(hs.map (·.born)).nodup h.1, fun e he => h.2 e (hs.subset he)⟩
theorem modify_congr {f g : MapEntry → MapEntry} : ∀ {es : List MapEntry} {j : Nat}, (∀ e, es[j]? = some e → f e = g e) → es.modify j f = es.modify j g
  | [], j, _ => by simp
  | e :: es, 0, h => by simp only [List.modify_zero_cons]; rw [h e rfl]
  | e :: es, j + 1, h => by simp only [List.modify_succ_cons]; rw [modify_congr fun e' he => h e' (by simpa using he)]
theorem modify_keep {f : MapEntry → MapEntry} : ∀ {es : List MapEntry} {j : Nat}, (∀ e, es[j]? = some e → f e = e) → es.modify j f = es
  | [], j, _ => by simp
  | e :: es, 0, h => by simp only [List.modify_zero_cons]; rw [h e rfl]
  | e :: es, j + 1, h => by simp only [List.modify_succ_cons]; rw [modify_keep fun e' he => h e' (by simpa using he)]
theorem modify_last {f : MapEntry → MapEntry} (x : MapEntry) : ∀ (es : List MapEntry), (es ++ [x]).modify es.length f = es ++ [f x]
  | [] => rfl
  | e :: es => by simp [modify_last x es]
theorem findBorn : ∀ {es : List MapEntry} {j : Nat} {e : MapEntry}, (es.map (·.born)).Nodup → es[j]? = some e → es.findIdx? (fun x => ((x.born : Int) == (e.born : Int))) = some j
  | [], j, e, _, h => by simp at h
  | x :: es, 0, e, _, h => by
    simp at h; subst h
    rw [List.findIdx?_cons, if_pos (beq_iff_eq.2 rfl)]
  | x :: es, j + 1, e, hn, h => by
    rw [List.map_cons, List.nodup_cons] at hn
    have hm : e.born ∈ es.map (·.born) := List.mem_map_of_mem (List.mem_of_getElem? (by simpa using h))
    have hne : ¬ x.born = e.born := fun q => hn.1 (q ▸ hm)
    have ih := findBorn hn.2 (show es[j]? = some e by simpa using h)
    rw [List.findIdx?_cons, if_neg (fun q => hne (by have h2 := beq_iff_eq.1 q; omega)), ih]
    rfl
def MapE (r : Nat) (l : SM) (a : ByteArray) (st : Nat) : Asn := fun h => ∃ es clock j e, h = Heap.one r (.map es.toArray clock) ∧ BornOk es clock ∧ es[j]? = some e ∧ e.born = st ∧ ∀ u, EsOk (es.modify j fun x => { x with val := u }) (insS l a u)
section
variable {P : Program} {w0 : World} {n : Nat} {sh : Shared} {Q : Exit → Env → List Deferred → List Asn → Prop} {k : List Item} {ρ : Env} {df : List Deferred} {Γ : List Asn} {hF : Heap}
variable {ops : Array Oper} {l : List (Fl × Nat × Oper)} {b : Fl} {i d : Nat} {ty : TypeId} {pos : String} {aft : Array Edge}
variable {x y z : Operand} {t kt et : TypeId} {r : Nat} {a : ByteArray} {ml : SM} {zv : Value}
theorem mapEntry_run {w : World} {es : List MapEntry} {clock : Nat} (hE : EsOk es ml) (hB : BornOk es clock) (hm : P.underlying t = some (.map kt et)) (hk : P.underlying kt = some .string) (hz : ∀ w, (zeroValue et).run P w = .ok zv w) (h : w.heap[r]? = some (.map es.toArray clock)) :
    ∃ (es' : List MapEntry) (clock' st : Nat), BornOk es' clock' ∧ (∃ j e, es'[j]? = some e ∧ e.born = st ∧ ∀ u, EsOk (es'.modify j fun x => { x with val := u }) (insS ml a u)) ∧
      (Instr.mapEntry t (.map (some r)) (.string a)).run P w = .ok (.tuple #[(lookS ml a).getD zv, goInt st]) { w with heap := w.heap.setIfInBounds r (.map es'.toArray clock') } := by
  have hck : ∀ em, (Instr.checkKey em 10000 kt (.string a)).run P w = .ok () w := fun em => run_checkKeyS hk em 9999
  have hp := placeS_some ml a 0
  have hset : ∀ (es2 : Array MapEntry) (c : Nat), (setObj r (.map es2 c)).run P w = .ok () { w with heap := w.heap.setIfInBounds r (.map es2 c) } := fun es2 c => by
    simp only [setObj, Sem.run, h]
  simp only [Instr.mapEntry, Sem.run_bind, run_underlying hm, Result.andThen_ok, run_getMap h]
  simp only [Result.andThen_ok, hck, run_findKeyS hk hE]
  cases hl : lookS ml a with
  | none =>
    rw [hl] at hp
    have : placeS ml a 0 = none := by cases hpp : placeS ml a 0 with | none => rfl | some m => rw [hpp] at hp; cases hp
    refine ⟨es ++ [{ key := .string a, val := zv, born := clock }], clock + 1, clock, hB.push _ _, ⟨es.length, { key := .string a, val := zv, born := clock }, by simp, rfl, fun u => ?_⟩, ?_⟩
    · rw [modify_last, insS_none ml a u hl]
      exact hE.push a u clock
    · simp only [this, Option.bind_none, hset, Sem.run_bind, hz, Result.andThen_ok, Sem.run_pure, Option.getD_none]
      congr 2
      simp
  | some v =>
    rw [hl] at hp
    obtain ⟨m, hm'⟩ : ∃ m, placeS ml a 0 = some m := by cases hpp : placeS ml a 0 with | none => rw [hpp] at hp; cases hp | some m => exact ⟨m, rfl⟩
    obtain ⟨j, h1, ⟨e, h2, h2'⟩, h3, _⟩ := placeS_spec a ml es 0 m hE hm'
    simp only [Nat.zero_add] at h1
    subst h1
    have hstay : (Instr.keyThatStays (.string a) (.string a)).run P w = .ok (.string a) w := by
      simp [Instr.keyThatStays, Instr.sameBits, str_beq]
    have hkeep : es.modify m (fun e => { e with key := .string a }) = es := modify_keep fun e' he' => by
      rw [h2] at he'; injection he' with he'; subst he'
      rw [← h2']
    refine ⟨es, clock, e.born, hB, ⟨m, e, h2, rfl, fun u => ?_⟩, ?_⟩
    · rw [modify_congr (g := fun x => { x with key := .string a, val := u }) fun e' he' => ?_]
      · exact h3 u
      · rw [h2] at he'; injection he' with he'; subst he'
        rw [← h2']
    · simp only [hm', Option.bind_some, Option.map_some]
      simp only [List.getElem?_toArray, h2, Option.map_some, Option.getD_some, h2', Sem.run_bind, hstay, Result.andThen_ok, hset, Sem.run_pure, List.modify_toArray, hkeep]
theorem entryStore_run {w : World} {es : List MapEntry} {clock j : Nat} {e : MapEntry} {u : Value} (hB : BornOk es clock) (hj : es[j]? = some e) (h : w.heap[r]? = some (.map es.toArray clock)) :
    (Instr.entryStore t (.map (some r)) (goInt e.born) u).run P w = .ok () { w with heap := w.heap.setIfInBounds r (.map (es.modify j fun x => { x with val := u }).toArray clock) } := by
  have hset : ∀ (es2 : Array MapEntry) (c : Nat), (setObj r (.map es2 c)).run P w = .ok () { w with heap := w.heap.setIfInBounds r (.map es2 c) } := fun es2 c => by
    simp only [setObj, Sem.run, h]
  have hf : es.toArray.findIdx? (fun x => ((x.born : Int) == (e.born : Int))) = some j := by
    rw [List.findIdx?_toArray]; exact findBorn hB.1 hj
  simp only [Instr.entryStore, Sem.run_bind, run_getMap h, Result.andThen_ok, goInt, asInt, asIntOf, Sem.run_pure, hf, hset, List.modify_toArray]
theorem reg_mapEntryB (j : Nat) {Γ2 : Nat → List Asn} [hT : TUnd P t (.map kt et)] [hK : TUnd P kt .string] [hZ : TZeroV P et zv] (hx : ev ρ x = .map (some r)) (hy : ev ρ y = .string a)
    (hj : getAt j Γ = some (MapB r ml)) (hput : ∀ st, putAt j (MapE r ml a st) Γ = some (Γ2 st))
    (h : ∀ st : Nat, Reg P w0 n sh Q ops l k (ρ.set d (.tuple #[(lookS ml a).getD zv, goInt st])) df (Γ2 st)) : Reg P w0 n sh Q ops ((Fl.loud, i, ⟨some d, .mapEntry t x y, ty, pos, aft, none⟩) :: l) k ρ df Γ := by
  refine reg_loud rfl (fun v' df' Γ'' => ∃ st : Nat, v' = .tuple #[(lookS ml a).getD zv, goInt st] ∧ df' = df ∧ Γ'' = Γ2 st) (fun hF _ w hst => ?_) (fun v' df' Γ' ⟨st, h1, h2, h3⟩ => by subst h1; subst h2; subst h3; exact h st)
  obtain ⟨rr, hp⟩ := getAt_perm hj
  obtain ⟨g, ⟨es, clock, hg, hE, hB0⟩, hB⟩ := (hst.perm hp).head
  have hst1 := hB (pt r (.map es.toArray clock)) hg
  obtain ⟨es', clock', st, hB', ⟨q, e, hq, he, hins⟩, hrun⟩ := mapEntry_run (P := P) (a := a) hE hB0 hT.und hK.und hZ.zero_run hst1.get.2
  simp only [execOp, hx, hy, Sem.run_bind, hrun, Sem.run_pure, Result.andThen_ok]
  have hlt := hst1.lt
  obtain ⟨rr2, hp1, hp2⟩ := putAt_perm hj (hput st)
  have hrr : rr.Perm rr2 := (hp.symm.trans hp1).cons_inv
  refine ⟨Γ2 st, ⟨st, rfl, rfl, rfl⟩, St.perm (St.exch (St.upd (w' := { w with heap := w.heap.setIfInBounds r (.map es'.toArray clock') }) hst1 rfl rfl rfl (by simp) (by simp [hlt]) (fun x hx => by simp [Array.getElem?_setIfInBounds_ne (Ne.symm hx)])) (fun g hg => ⟨es', clock', q, e, hg, hB', hq, he, hins⟩)) ((hrr.cons _).trans hp2)⟩
theorem reg_entryStoreB (j : Nat) {st : Nat} {Γ' : List Asn} {u : Value} {dst : Option Tmp} (hx : ev ρ x = .map (some r)) (hy : ev ρ y = goInt st) (hz : ev ρ z = u)
    (hj : getAt j Γ = some (MapE r ml a st)) (hput : putAt j (MapB r (insS ml a u)) Γ = some Γ')
    (h : Reg P w0 n sh Q ops l k (ρ.setO dst undef) df Γ') : Reg P w0 n sh Q ops ((Fl.loud, i, ⟨dst, .entryStore t x y z, ty, pos, aft, none⟩) :: l) k ρ df Γ := by
  refine reg_loud rfl (fun v' df' Γ'' => v' = undef ∧ df' = df ∧ Γ'' = Γ') (fun hF _ w hst => ?_) (fun v' df' Γ' ⟨h1, h2, h3⟩ => by subst h1; subst h2; subst h3; exact h)
  obtain ⟨rr, hp1, hp2⟩ := putAt_perm hj hput
  obtain ⟨g, ⟨es, clock, q, e, hg, hB0, hq, rfl, hins⟩, hB⟩ := (hst.perm hp1).head
  have hst1 := hB (pt r (.map es.toArray clock)) hg
  have hrun := entryStore_run (P := P) (t := t) (u := u) hB0 hq hst1.get.2
  simp only [execOp, hx, hy, hz, Sem.run_bind, hrun, Sem.run_pure, Result.andThen_ok]
  have hlt := hst1.lt
  exact ⟨Γ', ⟨rfl, rfl, rfl⟩, St.perm (St.exch (St.upd (w' := { w with heap := w.heap.setIfInBounds r (.map (es.modify q fun x => { x with val := u }).toArray clock) }) hst1 rfl rfl rfl (by simp) (by simp [hlt]) (fun x hx => by simp [Array.getElem?_setIfInBounds_ne (Ne.symm hx)])) (fun g hg => ⟨_, clock, hg, hins u, hB0.modify fun _ => rfl⟩)) hp2⟩
theorem mapUpdateB_run {w : World} {u : Value} {es : List MapEntry} {clock : Nat} (hE : EsOk es ml) (hB : BornOk es clock) (hm : P.underlying t = some (.map kt et)) (hk : P.underlying kt = some .string) (h : w.heap[r]? = some (.map es.toArray clock)) :
    ∃ es' clock', EsOk es' (insS ml a u) ∧ BornOk es' clock' ∧ (Instr.mapUpdate t (.map (some r)) (.string a) u).run P w = .ok () { w with heap := w.heap.setIfInBounds r (.map es'.toArray clock') } := by
  have hck : ∀ em, (Instr.checkKey em 10000 kt (.string a)).run P w = .ok () w := fun em => run_checkKeyS hk em 9999
  have hp := placeS_some ml a 0
  have hset : ∀ (es2 : Array MapEntry) (c : Nat), (setObj r (.map es2 c)).run P w = .ok () { w with heap := w.heap.setIfInBounds r (.map es2 c) } := fun es2 c => by
    simp only [setObj, Sem.run, h]
  simp only [Instr.mapUpdate, Sem.run_bind, run_underlying hm, Result.andThen_ok, run_getMap h]
  simp only [Result.andThen_ok, hck, run_findKeyS hk hE]
  cases hl : lookS ml a with
  | none =>
    rw [hl] at hp
    have : placeS ml a 0 = none := by cases hpp : placeS ml a 0 with | none => rfl | some m => rw [hpp] at hp; cases hp
    refine ⟨es ++ [{ key := .string a, val := u, born := clock }], clock + 1, by rw [insS_none ml a u hl]; exact hE.push a u clock, hB.push _ _, ?_⟩
    simp only [this, Option.bind_none, hset]
    congr 2
    simp
  | some v =>
    rw [hl] at hp
    obtain ⟨m, hm'⟩ : ∃ m, placeS ml a 0 = some m := by cases hpp : placeS ml a 0 with | none => rw [hpp] at hp; cases hp | some m => exact ⟨m, rfl⟩
    obtain ⟨j, h1, ⟨e, h2, h2'⟩, h3, _⟩ := placeS_spec a ml es 0 m hE hm'
    simp only [Nat.zero_add] at h1
    subst h1
    have hstay : (Instr.keyThatStays (.string a) (.string a)).run P w = .ok (.string a) w := by
      simp [Instr.keyThatStays, Instr.sameBits, str_beq]
    refine ⟨_, clock, h3 u, hB.modify fun _ => rfl, ?_⟩
    simp only [hm', Option.bind_some, Option.map_some]
    simp only [List.getElem?_toArray, h2, Option.map_some, Option.getD_some, h2', Sem.run_bind, hstay, Result.andThen_ok, hset]
    rw [List.modify_toArray]
theorem reg_mapUpdateB (j : Nat) {Γ' : List Asn} {u : Value} {dst : Option Tmp} [hT : TUnd P t (.map kt et)] [hK : TUnd P kt .string] (hx : ev ρ x = .map (some r)) (hy : ev ρ y = .string a) (hz : ev ρ z = u)
    (hj : getAt j Γ = some (MapB r ml)) (hput : putAt j (MapB r (insS ml a u)) Γ = some Γ')
    (h : Reg P w0 n sh Q ops l k (ρ.setO dst undef) df Γ') : Reg P w0 n sh Q ops ((Fl.loud, i, ⟨dst, .mapUpdate t x y z, ty, pos, aft, none⟩) :: l) k ρ df Γ := by
  refine reg_loud rfl (fun v' df' Γ'' => v' = undef ∧ df' = df ∧ Γ'' = Γ') (fun hF _ w hst => ?_) (fun v' df' Γ' ⟨h1, h2, h3⟩ => by subst h1; subst h2; subst h3; exact h)
  obtain ⟨rr, hp1, hp2⟩ := putAt_perm hj hput
  obtain ⟨g, ⟨es, clock, hg, hE, hB0⟩, hB⟩ := (hst.perm hp1).head
  have hst1 := hB (pt r (.map es.toArray clock)) hg
  obtain ⟨es', clock', hE', hB', hrun⟩ := mapUpdateB_run (P := P) (a := a) (u := u) hE hB0 hT.und hK.und hst1.get.2
  simp only [execOp, hx, hy, hz, Sem.run_bind, hrun, Sem.run_pure, Result.andThen_ok]
  have hlt := hst1.lt
  refine ⟨Γ', ⟨rfl, rfl, rfl⟩, St.perm (St.exch (St.upd (w' := { w with heap := w.heap.setIfInBounds r (.map es'.toArray clock') }) hst1 rfl rfl rfl (by simp) (by simp [hlt]) (fun x hx => by simp [Array.getElem?_setIfInBounds_ne (Ne.symm hx)])) (fun g hg => ⟨es', clock', hg, hE', hB'⟩)) hp2⟩
theorem reg_insertS (j : Nat) {Γ' : List Asn} {u : Value} {dst : Option Tmp} [hT : TUnd P t (.map kt et)] [hK : TUnd P kt .string] (hx : ev ρ x = .map (some r)) (hy : ev ρ y = .string a) (hz : ev ρ z = u)
    (hj : getAt j Γ = some (MapS r ml)) (hput : putAt j (MapS r (insS ml a u)) Γ = some Γ')
    (h : Reg P w0 n sh Q ops l k (ρ.setO dst undef) df Γ') : Reg P w0 n sh Q ops ((Fl.loud, i, ⟨dst, .insert t x y z, ty, pos, aft, none⟩) :: l) k ρ df Γ := by
  refine reg_loud rfl (fun v' df' Γ'' => v' = undef ∧ df' = df ∧ Γ'' = Γ') (fun hF _ w hst => ?_) (fun v' df' Γ' ⟨h1, h2, h3⟩ => by subst h1; subst h2; subst h3; exact h)
  obtain ⟨rr, hp1, hp2⟩ := putAt_perm hj hput
  obtain ⟨g, ⟨es, clock, hg, hE⟩, hB⟩ := (hst.perm hp1).head
  have hst1 := hB (pt r (.map es.toArray clock)) hg
  obtain ⟨es', clock', hE', hrun⟩ := mapUpdateS_run (P := P) (a := a) (u := u) hE hT.und hK.und hst1.get.2
  simp only [execOp, hx, hy, hz, Sem.run_bind, hrun, Sem.run_pure, Result.andThen_ok]
  have hlt := hst1.lt
  refine ⟨Γ', ⟨rfl, rfl, rfl⟩, St.perm (St.exch (St.upd (w' := { w with heap := w.heap.setIfInBounds r (.map es'.toArray clock') }) hst1 rfl rfl rfl (by simp) (by simp [hlt]) (fun x hx => by simp [Array.getElem?_setIfInBounds_ne (Ne.symm hx)])) (fun g hg => ⟨es', clock', hg, hE'⟩)) hp2⟩
theorem reg_lookupB (j : Nat) {ok : Bool} {v : Value} [hT : TUnd P t (.map kt et)] [hK : TUnd P kt .string] [hZ : TZeroV P et zv] (hx : ev ρ x = .map (some r)) (hy : ev ρ y = .string a)
    (hj : getAt j Γ = some (MapB r ml)) (hv : (if ok then .tuple #[(lookS ml a).getD zv, .bool (lookS ml a).isSome] else (lookS ml a).getD zv) = v)
    (h : Reg P w0 n sh Q ops l k (ρ.set d v) df Γ) (hb : notQuiet b = true := by rfl) : Reg P w0 n sh Q ops ((b, i, ⟨some d, .lookup t x y ok, ty, pos, aft, none⟩) :: l) k ρ df Γ := by
  refine reg_read rfl hb (fun hF _ w hst => ⟨w, ?_, hst⟩) h
  obtain ⟨rr, hp⟩ := getAt_perm hj
  obtain ⟨g, ⟨es, clock, hg, hE, _⟩, hB⟩ := (hst.perm hp).head
  have hm := (hB (pt r (.map es.toArray clock)) hg).get.2
  simp only [execOp, hx, hy, Sem.run_bind, lookupS_run hE hT.und hK.und hZ.zero_run hm, Sem.run_pure, Result.andThen_ok, hv]
theorem deleteB_run {w : World} {es : List MapEntry} {clock : Nat} {t2 : TypeId} {ats : Array TypeId} (hE : EsOk es ml) (hB : BornOk es clock) (ha : ats[0]? = some t) (hm : P.underlying t = some (.map kt et)) (hk : P.underlying kt = some .string) (h : w.heap[r]? = some (.map es.toArray clock)) :
    ∃ es', EsOk es' (delS ml a) ∧ BornOk es' clock ∧ (Builtin.delete_ ats t2 #[.map (some r), .string a]).run P w = .ok (.tuple #[]) { w with heap := w.heap.setIfInBounds r (.map es'.toArray clock) } := by
  have hck : ∀ em, (Instr.checkKey em 10000 kt (.string a)).run P w = .ok () w := fun em => run_checkKeyS hk em 9999
  have hp := placeS_some ml a 0
  have hset : ∀ (es2 : Array MapEntry) (c : Nat), (setObj r (.map es2 c)).run P w = .ok () { w with heap := w.heap.setIfInBounds r (.map es2 c) } := fun es2 c => by
    simp only [setObj, Sem.run, h]
  simp only [Builtin.delete_, ha, List.getElem?_toArray, List.getElem?_cons_zero, List.getElem?_cons_succ, Sem.run_bind, run_underlying hm, Result.andThen_ok, run_getMap h]
  simp only [Result.andThen_ok, hck, run_findKeyS hk hE]
  cases hl : lookS ml a with
  | none =>
    rw [hl] at hp
    have : placeS ml a 0 = none := by cases hpp : placeS ml a 0 with | none => rfl | some m => rw [hpp] at hp; cases hp
    refine ⟨es, by rw [delS_none ml a hl]; exact hE, hB, ?_⟩
    simp only [this, Option.bind_none, hset, Sem.run_bind, Result.andThen_ok, Sem.run_pure]
  | some v =>
    rw [hl] at hp
    obtain ⟨m, hm'⟩ : ∃ m, placeS ml a 0 = some m := by cases hpp : placeS ml a 0 with | none => rw [hpp] at hp; cases hp | some m => exact ⟨m, rfl⟩
    obtain ⟨j, h1, _, _, h4, h5⟩ := placeS_spec a ml es 0 m hE hm'
    simp only [Nat.zero_add] at h1
    subst h1
    refine ⟨_, h4, hB.erase, ?_⟩
    simp only [hm', Option.bind_some, Option.map_some, hset, Sem.run_bind, Result.andThen_ok, Sem.run_pure]
    congr 4
    simp [Array.eraseIdxIfInBounds, h5]
theorem reg_deleteB (j : Nat) {Γ' : List Asn} {dst : Option Tmp} {t2 : TypeId} [hT : TUnd P t (.map kt et)] [hK : TUnd P kt .string] (hx : ev ρ x = .map (some r)) (hy : ev ρ y = .string a)
    (hj : getAt j Γ = some (MapB r ml)) (hput : putAt j (MapB r (delS ml a)) Γ = some Γ')
    (h : Reg P w0 n sh Q ops l k (ρ.setO dst (.tuple #[])) df Γ') : Reg P w0 n sh Q ops ((Fl.loud, i, ⟨dst, .call ⟨.builtin .delete, #[x, y], #[t, t2]⟩, ty, pos, aft, none⟩) :: l) k ρ df Γ := by
  refine reg_loud rfl (fun v' df' Γ'' => v' = .tuple #[] ∧ df' = df ∧ Γ'' = Γ') (fun hF _ w hst => ?_) (fun v' df' Γ' ⟨h1, h2, h3⟩ => by subst h1; subst h2; subst h3; exact h)
  obtain ⟨rr, hp1, hp2⟩ := putAt_perm hj hput
  obtain ⟨g, ⟨es, clock, hg, hE, hB0⟩, hB⟩ := (hst.perm hp1).head
  have hst1 := hB (pt r (.map es.toArray clock)) hg
  obtain ⟨es', hE', hB', hrun⟩ := deleteB_run (P := P) (a := a) (t2 := ty) (ats := #[t, t2]) hE hB0 rfl hT.und hK.und hst1.get.2
  have : (execOp (ev ρ) ⟨dst, .call ⟨.builtin .delete, #[x, y], #[t, t2]⟩, ty, pos, aft, none⟩).run P w = .ok (.value (.tuple #[])) { w with heap := w.heap.setIfInBounds r (.map es'.toArray clock) } := by
    simp [execOp, resolve, invoke, builtin, hx, hy, hrun]
  rw [this]
  have hlt := hst1.lt
  refine ⟨Γ', ⟨rfl, rfl, rfl⟩, St.perm (St.exch (St.upd (w' := { w with heap := w.heap.setIfInBounds r (.map es'.toArray clock) }) hst1 rfl rfl rfl (by simp) (by simp [hlt]) (fun x hx => by simp [Array.getElem?_setIfInBounds_ne (Ne.symm hx)])) (fun g hg => ⟨es', clock, hg, hE', hB'⟩)) hp2⟩
end
end Go.Vc

namespace Go.Vc
section
variable {P : Program} {w0 : World} {n : Nat} {sh : Shared} {Q : Exit → Env → List Deferred → List Asn → Prop} {k : List Item} {ρ : Env} {df : List Deferred} {Γ : List Asn} {hF : Heap}
variable {r : Nat} {ml : SM}
theorem Fn.lendB {f : FuncId} {args : List Value} {R : Value → List Asn → Prop} (hen : Enters P f) (h : ∀ sh', (∀ p ∈ sh, p ∈ sh') → RdM w0 sh' r ml → Fn P w0 sh' f args Γ R) :
    Fn P w0 sh f args (MapB r ml :: Γ) fun v Γ' => ∃ Γ'', R v Γ'' ∧ Γ' = Γ'' ++ [MapB r ml] := by
  refine ⟨hen, fun hF w hsh hst => ?_⟩
  have h1 : St w0 hF (Γ ++ [MapB r ml]) w := hst.perm (List.perm_append_comm (l₁ := [_]))
  obtain ⟨g, hg, hdj, hst2⟩ := h1.split
  obtain ⟨es, clock, hg1, hE, hB⟩ := Stars.one.1 hg
  subst hg1
  have hsub : ∀ c oc, hF c = some oc → ((Heap.one r (.map es.toArray clock)).or hF) c = some oc := fun c oc hc => by
    rcases hdj c with e | e
    · simp [Heap.or, e, hc]
    · rw [e] at hc; cases hc
  refine ((h ((r, .map es.toArray clock) :: sh) (fun p hp => List.mem_cons_of_mem _ hp) ⟨es, clock, fun hF Γ w h1 h2 => (h2.frame (h1 _ (.head _))).2, hE⟩).calls _ w (fun p hp => ?_) hst2).mono ?_
  · rcases List.mem_cons.1 hp with rfl | hp
    · simp [Heap.or, Heap.one]
    · exact hsub _ _ (hsh p hp)
  · rintro e w' ⟨v, Γ', he, h4, h5⟩
    exact ⟨v, _, he, ⟨Γ', h4, rfl⟩, h5.join (Stars.one.2 ⟨es, clock, rfl, hE, hB⟩) hdj⟩
theorem run_shareMB (is : List Nat) {Γr : List Asn} (hp : pick is Γ = some ([MapB r ml], Γr)) (h : ∀ sh', (∀ p ∈ sh, p ∈ sh') → RdM w0 sh' r ml → Run P w0 n sh' Q k ρ df Γr) : Run P w0 n sh Q k ρ df Γ :=
  run_close is hp (A := MapS r ml) (fun g hg => MapB.weak g (Stars.one.1 hg)) (run_shareM [0] rfl h)
end
end Go.Vc

namespace Go.Vc
section
variable {P : Program} {w0 : World} {n : Nat} {sh : Shared} {Q : Exit → Env → List Deferred → List Asn → Prop} {k : List Item} {ρ : Env} {df : List Deferred} {Γ : List Asn} {hF : Heap}
theorem run_lendSl {α : Type} (encE : α → List Value) (is : List Nat) {q : Nat} {T : TypeId} {a : Option Addr} {len cap : Nat} {l : List α} {Γr : List Asn} (hp : pick is Γ = some ([SlA T q a len cap (l.flatMap encE)], Γr)) (hq : ∀ x ∈ l, (encE x).length = q) (hl : l.length = len)
    (h : ∀ sh', (∀ p ∈ sh, p ∈ sh') → RdSl w0 sh' encE q (.slice a len cap) l → Run P w0 n sh' (fun e ρ df Γ' => Q e ρ df (Γ' ++ [SlA T q a len cap (l.flatMap encE)])) k ρ df Γr) : Run P w0 n sh Q k ρ df Γ := by
  refine ⟨?_⟩
  intro hF hsh w1 w ha hn hd hst
  have h1 : St w0 hF (Γr ++ [SlA T q a len cap (l.flatMap encE)]) w := (hst.perm (pick_perm hp)).perm List.perm_append_comm
  obtain ⟨g, hg, hdj, hst2⟩ := h1.split
  have hS := Stars.one.1 hg
  subst hl
  cases a with
  | none =>
    obtain ⟨e1, e2, e3, e4⟩ := SlA.none_iff.1 hS
    subst e4
    have hl : l = [] := List.length_eq_zero_iff.1 e1
    subst hl
    refine ((h sh (fun _ h => h) RdSl.nil).go hF hsh w1 w ha hn hd ?_).mono ?_
    · simpa [Heap.emp_or] using hst2
    · rintro e a' w' ⟨h3, Γ', h4, h5⟩
      exact ⟨h3, _, h4, (St.emp_head (A := SlA T q none 0 cap ([].flatMap encE)) hS h5).perm (List.perm_append_comm (l₁ := [_]))⟩
  | some ad =>
    obtain ⟨b', spare, e1, e2, e3, e4, e5⟩ := SlA.some_iff.1 hS
    have hg1 := e5
    simp only [pt] at hg1
    subst hg1
    have hsub : ∀ c oc, hF c = some oc → ((Heap.one b' (.cells (List.toArray (l.flatMap encE ++ spare)) T (0, 0))).or hF) c = some oc := fun c oc hc => by
      rcases hdj c with e | e
      · simp [Heap.or, e, hc]
      · rw [e] at hc; cases hc
    refine ((h ((b', .cells (List.toArray (l.flatMap encE ++ spare)) T (0, 0)) :: sh) (fun p hp => List.mem_cons_of_mem _ hp) (by rw [e1]; exact RdSl.flatS hq (List.mem_cons_self ..) e3)).go _ (fun p hp => ?_) w1 w ha hn hd hst2).mono ?_
    · rcases List.mem_cons.1 hp with rfl | hp
      · simp [Heap.or, Heap.one]
      · exact hsub _ _ (hsh p hp)
    · rintro e a' w' ⟨h3, Γ', h4, h5⟩
      exact ⟨h3, _, h4, h5.join hg hdj⟩
end
end Go.Vc

namespace Go.Vc
def iterS (r clock : Nat) (seen : List Nat) : Obj := .mapIter (some r) clock seen.toArray clock
section
variable {P : Program} {w0 : World} {n : Nat} {sh : Shared} {Q : Exit → Env → List Deferred → List Asn → Prop} {k : List Item} {ρ : Env} {df : List Deferred} {Γ : List Asn} {hF : Heap}
variable {ops : Array Oper} {l : List (Fl × Nat × Oper)} {b : Fl} {i d : Nat} {ty : TypeId} {pos : String} {aft : Array Edge}
variable {x : Operand} {t kt et : TypeId} {r clock : Nat} {ml : SM} {es : List MapEntry}
structure RdX (w0 : World) (sh : Shared) (r : Nat) (es : List MapEntry) (clock : Nat) (ml : SM) : Prop where
  h : ∀ hF Γ w, Sh sh hF → St w0 hF Γ w → w.heap[r]? = some (.map es.toArray clock)
  ok : EsOk es ml
  born : BornOk es clock
theorem RdX.rd (h : RdX w0 sh r es clock ml) : RdM w0 sh r ml := ⟨es, clock, h.h, h.ok⟩
theorem RdX.mono {sh' : Shared} (h : RdX w0 sh r es clock ml) (hs : ∀ p ∈ sh, p ∈ sh') : RdX w0 sh' r es clock ml :=
  ⟨fun hF Γ w hsh hst => h.h hF Γ w (fun p hp => hsh p (hs p hp)) hst, h.ok, h.born⟩
theorem EsOk.mem (h : EsOk es ml) {e : MapEntry} (he : e ∈ es) : ∃ p ∈ ml, e.key = .string p.1 ∧ e.val = p.2 := by
  have h1 : (e.key, e.val) ∈ es.map (fun e => (e.key, e.val)) := List.mem_map_of_mem he
  rw [h] at h1
  obtain ⟨p, hp, hq⟩ := List.mem_map.1 h1
  exact ⟨p, hp, (congrArg Prod.fst hq).symm, (congrArg Prod.snd hq).symm⟩
theorem run_shareX (is : List Nat) {Γr : List Asn} (hp : pick is Γ = some ([MapB r ml], Γr))
    (h : ∀ sh' es clock, (∀ p ∈ sh, p ∈ sh') → RdX w0 sh' r es clock ml → Run P w0 n sh' Q k ρ df Γr) : Run P w0 n sh Q k ρ df Γ := by
  refine ⟨?_⟩
  intro hF hsh a w ha hn hd hst
  have h1 : St w0 hF (Γr ++ [MapB r ml]) w := (hst.perm (pick_perm hp)).perm List.perm_append_comm
  obtain ⟨g, hg, hdj, hst2⟩ := h1.split
  obtain ⟨es, clock, hg1, hE, hB⟩ := Stars.one.1 hg
  subst hg1
  have hsub : ∀ c oc, hF c = some oc → ((Heap.one r (.map es.toArray clock)).or hF) c = some oc := fun c oc hc => by
    rcases hdj c with e | e
    · simp [Heap.or, e, hc]
    · rw [e] at hc; cases hc
  refine RunAt.mono ((h ((r, .map es.toArray clock) :: sh) es clock (fun p hp => List.mem_cons_of_mem _ hp) ⟨fun hF Γ w h1 h2 => (h2.frame (h1 _ (.head _))).2, hE, hB⟩).go _ (fun p hp => ?_)) hsub (fun _ _ _ _ h => h) ha hn hd hst2
  rcases List.mem_cons.1 hp with rfl | hp
  · simp [Heap.or, Heap.one]
  · exact hsub _ _ (hsh p hp)
theorem reg_rangeX [hT : TUnd P t (.map kt et)] (hX : RdX w0 sh r es clock ml) (hx : ev ρ x = .map (some r))
    (h : ∀ nb, Reg P w0 n sh Q ops l k (ρ.set d (.pointer (some ⟨nb, 0, none⟩))) df (Γ ++ [pt nb (iterS r clock [])])) :
    Reg P w0 n sh Q ops ((Fl.loud, i, ⟨some d, .range t x, ty, pos, aft, none⟩) :: l) k ρ df Γ := by
  refine reg_loud rfl (fun v' df' Γ' => ∃ nb, v' = .pointer (some ⟨nb, 0, none⟩) ∧ df' = df ∧ Γ' = Γ ++ [pt nb (iterS r clock [])]) (fun hF hsh w hst => ?_)
    (fun v' df' Γ' ⟨nb, h1, h2, h3⟩ => by subst h1; subst h2; subst h3; exact h nb)
  have hm := hX.h hF Γ w hsh hst
  have hg : (getObj r).run P w = .ok (.map es.toArray clock) w := by simp only [getObj, Sem.run, hm]
  simp only [execOp, hx, Instr.range, Sem.run_bind, run_underlying hT.und, hg, Result.andThen_ok]
  simp only [Sem.run_pure, run_newObj, Result.andThen_ok]
  exact ⟨_, ⟨_, rfl, rfl, rfl⟩, (hst.alloc (iterS r clock [])).perm (List.perm_append_comm (l₁ := [_]))⟩
theorem nextS_run {w : World} {it : Nat} {seen : List Nat} (hB : BornOk es clock) (hi : w.heap[it]? = some (iterS r clock seen)) (hm : w.heap[r]? = some (.map es.toArray clock)) (ty : TypeId) :
    ((∀ e ∈ es, e.born ∈ seen) ∧ ∃ w', (Instr.next (.pointer (some ⟨it, 0, none⟩)) false ty).run P w = .ok (.tuple #[.bool false]) w' ∧ w'.heap = w.heap ∧ w'.tape = w.tape ∧ w'.os = w.os ∧ w'.output = w.output) ∨
    (∃ e w', e ∈ es ∧ e.born ∉ seen ∧ (Instr.next (.pointer (some ⟨it, 0, none⟩)) false ty).run P w = .ok (.tuple #[.bool true, e.key, e.val]) w' ∧
      w'.heap = w.heap.setIfInBounds it (iterS r clock (seen ++ [e.born])) ∧ w'.tape = w.tape ∧ w'.os = w.os ∧ w'.output = w.output) := by
  have h1 : (getObj it).run P w = .ok (iterS r clock seen) w := by simp only [getObj, Sem.run, hi, iterS]
  have h2 : (getObj r).run P w = .ok (.map es.toArray clock) w := by simp only [getObj, Sem.run, hm]
  have hold : ∀ e ∈ es, e.born < clock := hB.2
  have hcond : (!seen.toArray.isEmpty && !es.toArray.isEmpty && es.toArray.all (fun e => decide (e.born ≥ clock))) = false := by
    cases hml : es with
    | nil => simp
    | cons e r' =>
      have := hold e (by rw [hml]; simp)
      simp
      intro _ h
      omega
  have hleft : (es.toArray.filter fun e => !seen.toArray.contains e.born) = (es.filter fun e => !seen.contains e.born).toArray := by simp
  have hold2 : ((es.filter fun e => !seen.contains e.born).toArray.filter fun e => decide (e.born < clock)) = (es.filter fun e => !seen.contains e.born).toArray := by
    rw [List.filter_toArray']
    · congr 1
      rw [List.filter_eq_self]
      intro e he
      simpa using hold e (List.mem_filter.1 he).1
    all_goals simp
  have hnew : ((es.filter fun e => !seen.contains e.born).toArray.filter fun e => decide (e.born ≥ clock)) = #[] := by
    rw [List.filter_toArray']
    · congr 1
      rw [List.filter_eq_nil_iff]
      intro e he
      have := hold e (List.mem_filter.1 he).1
      simp; omega
    all_goals simp
  generalize hL : (es.filter fun e => !seen.contains e.born) = L at hleft hold2 hnew
  cases L with
  | nil =>
    left
    refine ⟨fun e he => ?_, w, ?_, rfl, rfl, rfl, rfl⟩
    · rw [List.filter_eq_nil_iff] at hL
      simpa using hL e he
    · simp only [Instr.next, Sem.run_bind, h1, Result.andThen_ok]
      simp only [iterS, Sem.run_bind, h2, Result.andThen_ok]
      simp only [hcond, Bool.false_eq_true, if_false, hleft, hold2, hnew]
      simp [choose, Sem.run, Question.forced]
  | cons e0 L0 =>
    right
    have hch : ∃ c w1, (choose (.mapNext (e0 :: L0).length)).run P w = .ok c w1 ∧ c < (e0 :: L0).length ∧ w1.heap = w.heap ∧ w1.tape = w.tape ∧ w1.os = w.os ∧ w1.output = w.output := by
      rw [run_choose]
      split
      · exact ⟨0, w, rfl, by simp, rfl, rfl, rfl, rfl⟩
      · exact ⟨_, _, rfl, Nat.mod_lt _ (by simp), rfl, rfl, rfl, rfl⟩
    obtain ⟨c, w1, hc1, hc2, hc3, hc4, hc5, hc6⟩ := hch
    have hin : (e0 :: L0)[c] ∈ es.filter fun e => !seen.contains e.born := by rw [hL]; exact List.getElem_mem hc2
    obtain ⟨hin1, hin2⟩ := List.mem_filter.1 hin
    obtain ⟨e, he⟩ : ∃ e, e = (e0 :: L0)[c] := ⟨_, rfl⟩
    rw [← he] at hin1 hin2
    have hqs : e.born ∉ seen := by simpa using hin2
    have hset : (setObj it (iterS r clock (seen ++ [e.born]))).run P w1 = .ok () { w1 with heap := w1.heap.setIfInBounds it (iterS r clock (seen ++ [e.born])) } := by
      simp only [setObj, Sem.run, hc3, hi, iterS]
    refine ⟨e, { w1 with heap := w1.heap.setIfInBounds it (iterS r clock (seen ++ [e.born])) }, hin1, hqs, ?_, by simp [hc3], hc4, hc5, hc6⟩
    simp only [Instr.next, Sem.run_bind, h1, Result.andThen_ok]
    simp only [iterS, Sem.run_bind, h2, Result.andThen_ok]
    simp only [hcond, Bool.false_eq_true, if_false, hleft, hold2, hnew]
    have hsz : ((if (e0 :: L0).toArray.isEmpty = true then #[none] else #[]) ++ Array.map some ((e0 :: L0).toArray ++ #[])) = ((e0 :: L0).map some).toArray := by simp
    simp only [hsz, List.size_toArray, List.length_map, Sem.run_bind, hc1, Result.andThen_ok]
    have hget : ((e0 :: L0).map some).toArray[c]? = some (some e) := by
      rw [List.getElem?_toArray, List.getElem?_map, List.getElem?_eq_getElem hc2, he]; rfl
    simp only [hget, Sem.run_bind]
    have hseen : seen.toArray.push e.born = (seen ++ [e.born]).toArray := by simp
    simp only [hseen]
    simp only [iterS] at hset
    simp only [hset, Result.andThen_ok, Sem.run_pure]
theorem reg_nextX (j : Nat) {it : Nat} {seen : List Nat} {G : Nat → List Asn} (hX : RdX w0 sh r es clock ml) (hx : ev ρ x = .pointer (some ⟨it, 0, none⟩)) (hj : getAt j Γ = some (pt it (iterS r clock seen)))
    (hput : ∀ q, putAt j (pt it (iterS r clock (seen ++ [q]))) Γ = some (G q))
    (h0 : (∀ e ∈ es, e.born ∈ seen) → Reg P w0 n sh Q ops l k (ρ.set d (.tuple #[.bool false])) df Γ)
    (h1 : ∀ e p, e ∈ es → e.born ∉ seen → p ∈ ml → e.key = .string p.1 → e.val = p.2 → Reg P w0 n sh Q ops l k (ρ.set d (.tuple #[.bool true, .string p.1, p.2])) df (G e.born)) :
    Reg P w0 n sh Q ops ((Fl.loud, i, ⟨some d, .next x false, ty, pos, aft, none⟩) :: l) k ρ df Γ := by
  refine reg_loud rfl (fun v df' Γ' => df' = df ∧ (((∀ e ∈ es, e.born ∈ seen) ∧ v = .tuple #[.bool false] ∧ Γ' = Γ) ∨ ∃ e p, e ∈ es ∧ e.born ∉ seen ∧ p ∈ ml ∧ (e.key = .string p.1 ∧ e.val = p.2) ∧ v = .tuple #[.bool true, .string p.1, p.2] ∧ Γ' = G e.born)) (fun hF hsh w hst => ?_) ?_
  · obtain ⟨rr, hst1, hback⟩ := hst.at hj
    have hm := hX.h hF Γ w hsh hst
    rcases nextS_run (P := P) hX.born hst1.get.2 hm ty with ⟨ha, w', hr, e1, e2, e3, e4⟩ | ⟨e, w', hq, hqs, hr, e1, e2, e3, e4⟩
    · simp only [execOp, hx, Sem.run_bind, hr, Result.andThen_ok, Sem.run_pure]
      exact ⟨Γ, ⟨rfl, .inl ⟨ha, rfl, rfl⟩⟩, hst.same e2 e3 e4 e1⟩
    · obtain ⟨p, hp, k1, k2⟩ := hX.ok.mem hq
      rw [k1, k2] at hr
      simp only [execOp, hx, Sem.run_bind, hr, Result.andThen_ok, Sem.run_pure]
      have hlt := hst1.lt
      obtain ⟨Γ', h5, h6⟩ := hback (pt it (iterS r clock (seen ++ [e.born]))) w' (hst1.upd e2 e3 e4 (by rw [e1]; simp) (by rw [e1]; simp [hlt]) (fun x hx => by rw [e1]; simp [Array.getElem?_setIfInBounds_ne (Ne.symm hx)]))
      rw [hput] at h5
      cases h5
      exact ⟨G e.born, ⟨rfl, .inr ⟨e, p, hq, hqs, hp, ⟨k1, k2⟩, rfl, rfl⟩⟩, h6⟩
  · rintro v df' Γ' ⟨h2, ⟨ha, h3, h4⟩ | ⟨e, p, hq, hqs, hp, ⟨k1, k2⟩, h3, h4⟩⟩
    · subst h2; subst h3; subst h4; exact h0 ha
    · subst h2; subst h3; subst h4; exact h1 e p hq hqs hp k1 k2
theorem find_born : ∀ {es : List MapEntry} {e : MapEntry}, (es.map (·.born)).Nodup → e ∈ es → es.find? (fun x => x.born == e.born) = some e
  | [], _, _, h => by cases h
  | a :: es, e, hn, h => by
    rw [List.map_cons, List.nodup_cons] at hn
    rcases List.mem_cons.1 h with rfl | h
    · rw [List.find?_cons_of_pos (by simp)]
    · rw [List.find?_cons_of_neg (by simpa using fun q : a.born = e.born => hn.1 (q ▸ List.mem_map_of_mem h)), find_born hn.2 h]
theorem reg_entryX (j : Nat) {it : Nat} {seen : List Nat} {e : MapEntry} {p : ByteArray × Value} (hX : RdX w0 sh r es clock ml) (he : e ∈ es) (k1 : e.key = .string p.1) (k2 : e.val = p.2) (hx : ev ρ x = .pointer (some ⟨it, 0, none⟩)) (hj : getAt j Γ = some (pt it (iterS r clock (seen ++ [e.born]))))
    (h : Reg P w0 n sh Q ops l k (ρ.set d (.tuple #[.string p.1, p.2])) df Γ) :
    Reg P w0 n sh Q ops ((Fl.loud, i, ⟨some d, .entry x, ty, pos, aft, none⟩) :: l) k ρ df Γ := by
  refine reg_loud rfl (fun v' df' Γ' => v' = .tuple #[.string p.1, p.2] ∧ df' = df ∧ Γ' = Γ) (fun hF hsh w hst => ?_) (fun v' df' Γ' ⟨h1, h2, h3⟩ => by subst h1; subst h2; subst h3; exact h)
  obtain ⟨rr, hp⟩ := getAt_perm hj
  have hi := (hst.perm hp).get.2
  have h1 : (getObj it).run P w = .ok (iterS r clock (seen ++ [e.born])) w := by simp only [getObj, Sem.run, hi, iterS]
  have hm := hX.h hF Γ w hsh hst
  have h2 : (getObj r).run P w = .ok (.map es.toArray clock) w := by simp only [getObj, Sem.run, hm]
  have hfind : es.toArray.find? (fun x => x.born == e.born) = some e := by
    rw [List.find?_toArray]
    exact find_born hX.born.1 he
  simp only [execOp, hx, Instr.entry, Sem.run_bind, h1, Result.andThen_ok]
  simp only [iterS, List.back?_toArray, List.getLast?_append, List.getLast?_singleton, Option.some_or, Sem.run_bind, h2, Result.andThen_ok]
  simp only [bne_self_eq_false, Bool.false_eq_true, if_false, hfind, Sem.run_pure, Result.andThen_ok, k1, k2]
  exact ⟨Γ, ⟨rfl, rfl, rfl⟩, hst⟩
def leftS (es : List MapEntry) (seen : List Nat) : Nat := (es.filter fun e => !seen.contains e.born).length
theorem leftS_next {seen : List Nat} {e : MapEntry} (he : e ∈ es) (hs : e.born ∉ seen) : leftS es (seen ++ [e.born]) < leftS es seen := by
  unfold leftS
  have hsub : ∀ l : List MapEntry, (l.filter fun e' => !(seen ++ [e.born]).contains e'.born).length ≤ (l.filter fun e => !seen.contains e.born).length := by
    intro l
    induction l with
    | nil => simp
    | cons a l ih =>
      by_cases ha : a.born ∈ seen
      · simpa [List.filter_cons, ha] using ih
      · by_cases hb : a.born = e.born
        · simp [hb, hs] at ih ⊢; omega
        · simp [ha, hb] at ih ⊢; exact ih
  induction es with
  | nil => cases he
  | cons a l ih =>
    have hl := hsub l
    rcases List.mem_cons.1 he with rfl | hm
    · simp [hs] at hl ⊢; omega
    · have ih := ih hm
      by_cases ha : a.born ∈ seen
      · simpa [List.filter_cons, ha] using ih
      · by_cases hb : a.born = e.born
        · simp [hb, hs] at hl ⊢; omega
        · simp [ha, hb] at ih ⊢; omega
end
end Go.Vc

namespace Go.Vc
section
variable {P : Program} {w0 : World} {sh : Shared} {Γ : List Asn}
theorem Fn.lendSl {α : Type} (encE : α → List Value) {q : Nat} {T : TypeId} {a : Option Addr} {len cap : Nat} {l : List α} {f : FuncId} {args : List Value} {R : Value → List Asn → Prop} (hen : Enters P f) (hq : ∀ x ∈ l, (encE x).length = q) (hl : l.length = len)
    (h : ∀ sh', (∀ p ∈ sh, p ∈ sh') → RdSl w0 sh' encE q (.slice a len cap) l → Fn P w0 sh' f args Γ R) :
    Fn P w0 sh f args (SlA T q a len cap (l.flatMap encE) :: Γ) fun v Γ' => ∃ Γ'', R v Γ'' ∧ Γ' = Γ'' ++ [SlA T q a len cap (l.flatMap encE)] := by
  refine ⟨hen, fun hF w hsh hst => ?_⟩
  have h1 : St w0 hF (Γ ++ [SlA T q a len cap (l.flatMap encE)]) w := hst.perm (List.perm_append_comm (l₁ := [_]))
  obtain ⟨g, hg, hdj, hst2⟩ := h1.split
  have hS := Stars.one.1 hg
  subst hl
  cases a with
  | none =>
    obtain ⟨e1, e2, e3, e4⟩ := SlA.none_iff.1 hS
    subst e4
    have hl : l = [] := List.length_eq_zero_iff.1 e1
    subst hl
    refine ((h sh (fun _ h => h) RdSl.nil).calls hF w hsh ?_).mono ?_
    · simpa [Heap.emp_or] using hst2
    · rintro e w' ⟨v, Γ', he, h4, h5⟩
      exact ⟨v, _, he, ⟨Γ', h4, rfl⟩, (St.emp_head (A := SlA T q none 0 cap ([].flatMap encE)) hS h5).perm (List.perm_append_comm (l₁ := [_]))⟩
  | some ad =>
    obtain ⟨b', spare, e1, e2, e3, e4, e5⟩ := SlA.some_iff.1 hS
    have hg1 := e5
    simp only [pt] at hg1
    subst hg1
    have hsub : ∀ c oc, hF c = some oc → ((Heap.one b' (.cells (List.toArray (l.flatMap encE ++ spare)) T (0, 0))).or hF) c = some oc := fun c oc hc => by
      rcases hdj c with e | e
      · simp [Heap.or, e, hc]
      · rw [e] at hc; cases hc
    refine ((h ((b', .cells (List.toArray (l.flatMap encE ++ spare)) T (0, 0)) :: sh) (fun p hp => List.mem_cons_of_mem _ hp) (by rw [e1]; exact RdSl.flatS hq (List.mem_cons_self ..) e3)).calls _ w (fun p hp => ?_) hst2).mono ?_
    · rcases List.mem_cons.1 hp with rfl | hp
      · simp [Heap.or, Heap.one]
      · exact hsub _ _ (hsh p hp)
    · rintro e w' ⟨v, Γ', he, h4, h5⟩
      exact ⟨v, _, he, ⟨Γ', h4, rfl⟩, h5.join hg hdj⟩
end
end Go.Vc

