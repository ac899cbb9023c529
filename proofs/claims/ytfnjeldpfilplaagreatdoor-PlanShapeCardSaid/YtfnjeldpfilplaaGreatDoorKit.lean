import Derived.Laws.Strings
import Derived.Laws.Strings2
import Derived.Laws.Cover1
import Derived.Laws.Concat
import Derived.Laws.Slices
import Derived.Laws.StructEq
import Derived.Sort.AssemblyPlain
import Derived.Lib.ConvBytes
import Derived.Lib.UnsafeStr
import Derived.Sort.Grow
import Derived.Deep.Draws
import Derived.Laws.IdiomStrings
import Derived.Test.YtfnjeldpfilplaaGreatDoorKitA
/- Lemmas and walks for the claims of this seat (own work): Vc34 Vc35 Vc36 Vc37 Vc38 Vc39 Vc40 Vc41 Vc42 Vc43 Vc44 Vc45 Vc46 Vc47 Vc48 Vc49 Vc50 Vc51 Vc52 Vc53 Vc54 Vc55 Vc56 Vc57 Vc58. -/
namespace Go.Vc
theorem RdSl.cells {α : Type} {encE : α → List Value} {q : Nat} {w0 : World} {sh : Shared} {l : List α} {a : Option Addr} {cap len : Nat} (h : RdSl w0 sh encE q (.slice a len cap) l) {i : Nat} {x : α} (hx : l[i]? = some x) :
    ∃ b off c T fr, a = some ⟨b, off, none⟩ ∧ (∀ hF Γ w, Sh sh hF → St w0 hF Γ w → w.heap[b]? = some (.cells c T fr)) ∧ (∀ o, o = off + i * q → rd true q c.toList o = some (.agg (List.toArray (encE x)))) ∧ ∀ k u, (encE x)[k]? = some u → ∀ o, o = off + i * q + k → rd false 1 c.toList o = some u := by
  obtain ⟨a', cap', h1, _, h2⟩ := h
  cases h1
  have hne : l ≠ [] := by intro e; subst e; simp at hx
  obtain ⟨b, off, c, T, fr, e, hh, hc⟩ := h2.resolve_left hne
  exact ⟨b, off, c, T, fr, e, hh, rd_cells (hc i x hx).1 (fun k u hu => by rw [Nat.add_assoc]; exact (hc i x hx).2 k u hu), fun k u hu o ho => rd_one ((hc i x hx).2 k u hu) o (by omega)⟩
theorem flat_at {α : Type} {encE : α → List Value} {q : Nat} : ∀ (l : List α), (∀ x ∈ l, (encE x).length = q) → ∀ (i : Nat) (x : α), l[i]? = some x → ∀ k u, (encE x)[k]? = some u → (l.flatMap encE)[i * q + k]? = some u
  | [], _, i, x, hx, _, _, _ => by simp at hx
  | y :: l, hq, i, x, hx, k, u, hu => by
    have hy := hq y (by simp)
    have hk := (List.getElem?_eq_some_iff.1 hu).1
    rw [List.flatMap_cons]
    cases i with
    | zero =>
      simp only [List.getElem?_cons_zero, Option.some.injEq] at hx
      subst hx
      rw [List.getElem?_append_left (by omega), show 0 * q + k = k by omega]
      exact hu
    | succ i =>
      rw [List.getElem?_cons_succ] at hx
      have e : (i + 1) * q + k = q + (i * q + k) := by rw [Nat.succ_mul]; omega
      rw [List.getElem?_append_right (by omega), e, hy, Nat.add_sub_cancel_left]
      exact flat_at l (fun z hz => hq z (by simp [hz])) i x hx k u hu
theorem flat_len {α : Type} {encE : α → List Value} {q : Nat} : ∀ (l : List α), (∀ x ∈ l, (encE x).length = q) → (l.flatMap encE).length = l.length * q
  | [], _ => by simp
  | y :: l, hq => by
    rw [List.flatMap_cons, List.length_append, hq y (by simp), flat_len l (fun z hz => hq z (by simp [hz])), List.length_cons, Nat.succ_mul]; omega
theorem RdSl.flatS {α : Type} {encE : α → List Value} {q b cap : Nat} {w0 : World} {sh : Shared} {l : List α} {spare : List Value} {T : TypeId} {fr : Nat × Nat} (hq : ∀ x ∈ l, (encE x).length = q) (hm : (b, Obj.cells (List.toArray (l.flatMap encE ++ spare)) T fr) ∈ sh) (hcap : l.length ≤ cap) :
    RdSl w0 sh encE q (.slice (some ⟨b, 0, none⟩) l.length cap) l := by
  refine ⟨_, _, rfl, hcap, .inr ⟨b, 0, _, T, fr, rfl, fun hF Γ w hsh hst => (hst.frame (hsh _ hm)).2, fun i x hx => ⟨hq x (List.mem_of_getElem? hx), fun k u hu => ?_⟩⟩⟩
  have h1 := flat_at l hq i x hx k u hu
  rw [List.getElem?_toArray, Nat.zero_add, List.getElem?_append_left (List.getElem?_eq_some_iff.1 h1).1]
  exact h1
theorem RdSl.flat {α : Type} {encE : α → List Value} {q b : Nat} {w0 : World} {sh : Shared} {l : List α} {T : TypeId} {fr : Nat × Nat} (hq : ∀ x ∈ l, (encE x).length = q) (hm : (b, Obj.cells (List.toArray (l.flatMap encE)) T fr) ∈ sh) :
    RdSl w0 sh encE q (.slice (some ⟨b, 0, none⟩) l.length l.length) l := RdSl.flatS (spare := []) hq (by rw [List.append_nil]; exact hm) (Nat.le_refl _)
theorem Fn.owned {P : Program} {w0 : World} {sh : Shared} {f : FuncId} {args : List Value} {Γ : List Asn} {R : Value → List Asn → Prop} {b : Nat} {o : Obj} (h : Fn P w0 ((b, o) :: sh) f args Γ R) :
    Fn P w0 sh f args (pt b o :: Γ) fun r Γ' => ∃ Γ'', R r Γ'' ∧ Γ' = Γ'' ++ [pt b o] := by
  refine ⟨h.enters, fun hF w hsh hst => ?_⟩
  have h1 : St w0 hF (Γ ++ [pt b o]) w := hst.perm (List.perm_append_comm (l₁ := [_]))
  obtain ⟨g, hg, hdj, hst2⟩ := h1.split
  have hg1 : pt b o g := Stars.one.1 hg
  simp only [pt] at hg1
  subst hg1
  have hsub : ∀ c oc, hF c = some oc → ((Heap.one b o).or hF) c = some oc := fun c oc hc => by
    rcases hdj c with e | e
    · simp [Heap.or, e, hc]
    · rw [e] at hc; cases hc
  refine (h.calls _ w (fun p hp => ?_) hst2).mono ?_
  · rcases List.mem_cons.1 hp with rfl | hp
    · simp [Heap.or, Heap.one]
    · exact hsub _ _ (hsh p hp)
  · rintro e w' ⟨r, Γ', he, h4, h5⟩
    exact ⟨r, _, he, ⟨Γ', h4, rfl⟩, h5.join hg hdj⟩
section
variable {P : Program} {w0 : World} {n : Nat} {sh : Shared} {Q : Exit → Env → List Deferred → List Asn → Prop} {k : List Item} {ρ : Env} {df : List Deferred} {Γ : List Asn} {hF : Heap}
variable {α : Type} {encE : α → List Value} {m : Nat} {v : Value} {l : List α}
variable {ops : Array Oper} {rest : List (Fl × Nat × Oper)} {b : Fl} {i d : Nat} {ty : TypeId} {pos : String} {aft : Array Edge} {x y : Operand}
theorem RdSl.pre {a : Option Addr} {cap q : Nat} (h : RdSl w0 sh encE m (.slice a l.length cap) l) (hq : q ≤ l.length) : RdSl w0 sh encE m (.slice a q cap) (l.take q) := by
  obtain ⟨a', cap', h1, h0, h2⟩ := h
  cases h1
  refine ⟨a, cap, by rw [List.length_take, Nat.min_eq_left hq], by rw [List.length_take]; omega, ?_⟩
  rcases h2 with rfl | ⟨b, off, c, T, fr, e, hh, hc⟩
  · exact .inl (by simp)
  · refine .inr ⟨b, off, c, T, fr, e, hh, fun i x hx => hc i x ?_⟩
    rw [List.getElem?_take] at hx
    split at hx
    · exact hx
    · cases hx
def tailV (a : Option Addr) (len cap sz q : Nat) : Value := .slice (if cap = q then a else a.map (·.add (q * sz))) (len - q) (cap - q)
theorem RdSl.tail {a : Option Addr} {cap q : Nat} (h : RdSl w0 sh encE m (.slice a l.length cap) l) (hq : q ≤ l.length) : RdSl w0 sh encE m (tailV a l.length cap m q) (l.drop q) := by
  obtain ⟨a', cap', h1, h0, h2⟩ := h
  cases h1
  unfold tailV
  refine ⟨_, _, by rw [List.length_drop], by rw [List.length_drop]; omega, ?_⟩
  by_cases hz : q = l.length
  · exact .inl (by rw [hz]; simp)
  rcases h2 with rfl | ⟨b, off, c, T, fr, e, hh, hc⟩
  · exact .inl (by simp)
  · refine .inr ⟨b, off + q * m, c, T, fr, ?_, hh, fun i x hx => ?_⟩
    · rw [if_neg (by omega), e]; simp [Addr.add_lit]
    · rw [List.getElem?_drop] at hx
      obtain ⟨g1, g2⟩ := hc _ x hx
      exact ⟨g1, fun k u hu => by rw [← g2 k u hu]; congr 1; rw [Nat.add_mul]; omega⟩
theorem reg_sliceT {t e : TypeId} {agg : Bool} {sz : Nat} {a : Option Addr} {len cap : Nat} {lo : Operand} {q : Int} [hT : TUnd P t (.slice e)] [hS : TShape P e agg sz] (hx : ev ρ x = .slice a len cap) (hl : ev ρ lo = .int .i64 q) (hb : 0 ≤ q ∧ q ≤ len)
    (h : Reg P w0 n sh Q ops rest k (ρ.set d (tailV a len cap sz q.toNat)) df Γ) : Reg P w0 n sh Q ops ((b, i, ⟨some d, .slice t x (some lo) none none, ty, pos, aft, none⟩) :: rest) k ρ df Γ :=
  reg_quiet rfl (fun hF _ => quiet_of_run fun w => by
    obtain ⟨h0, h1⟩ := hb
    simp only [execOp, hx, Option.map_some, Option.map_none, hl, Instr.sliceAt, Instr.slice, Sem.run_bind, run_underlying hT.und, Result.andThen_ok, Instr.sliceBounds, Instr.sliceBound, asIntOf, Sem.run_pure]
    simp only [h0, h1, and_self, if_true, Sem.run_pure, Result.andThen_ok, hS.size_run]
    rfl) h
theorem RdSl.blk {b off cap len : Nat} (h : RdSl w0 sh encE m (.slice (some ⟨b, off, none⟩) len cap) l) (hne : l ≠ []) (hm : 0 < m) :
    ∃ c T fr, (∀ hF Γ w, Sh sh hF → St w0 hF Γ w → w.heap[b]? = some (.cells (List.toArray c) T fr)) ∧ (c.drop off).take (l.length * m) = l.flatMap encE ∧ off + l.length * m ≤ c.length := by
  obtain ⟨a', cap', h1, _, h2⟩ := h
  obtain ⟨b', off', c, T, fr, e, hh, hc⟩ := h2.resolve_left hne
  cases h1
  cases e
  have hq : ∀ x ∈ l, (encE x).length = m := fun x hx => by
    obtain ⟨i, hi⟩ := List.mem_iff_getElem?.1 hx
    exact (hc i x hi).1
  have key : ∀ j, j < l.length * m → c.toList[off + j]? = (l.flatMap encE)[j]? := fun j hj => by
    have hi : j / m < l.length := Nat.div_lt_of_lt_mul (by rw [Nat.mul_comm]; exact hj)
    have hx : l[j / m]? = some l[j / m] := List.getElem?_eq_getElem hi
    have hk : j % m < (encE l[j / m]).length := by rw [hq _ (List.getElem_mem hi)]; exact Nat.mod_lt _ hm
    have hu : (encE l[j / m])[j % m]? = some (encE l[j / m])[j % m] := List.getElem?_eq_getElem hk
    have g1 := (hc _ _ hx).2 _ _ hu
    have g2 := flat_at l hq _ _ hx _ _ hu
    have e : j / m * m + j % m = j := by rw [Nat.mul_comm]; exact Nat.div_add_mod j m
    rw [e] at g1 g2
    rw [g2, ← g1]; simp
  have hlen : (l.flatMap encE).length = l.length * m := flat_len l hq
  have hle : off + l.length * m ≤ c.toList.length := by
    cases hl : l.length * m with
    | zero =>
      have : 0 < l.length := List.length_pos_iff.2 hne
      have := Nat.mul_pos this hm
      omega
    | succ q =>
      have h3 := key q (by omega)
      rw [List.getElem?_eq_getElem (show q < (l.flatMap encE).length by omega)] at h3
      have := (List.getElem?_eq_some_iff.1 h3).1
      omega
  refine ⟨c.toList, T, fr, fun hF Γ w h1 h2 => by simpa using hh hF Γ w h1 h2, ?_, hle⟩
  apply List.ext_getElem?
  intro j
  by_cases hj : j < l.length * m
  · rw [List.getElem?_take, if_pos hj, List.getElem?_drop, key j hj]
  · rw [List.getElem?_eq_none (by rw [List.length_take]; omega), List.getElem?_eq_none (by omega)]
theorem reg_append_rdE (j : Nat) {G : Option Addr → Nat → List Asn} {dst : Option Tmp} {a : Option Addr} {len cap bytes : Nat} {agg : Bool} {t e t2 e2 : TypeId} {cs : List Value} {zv : Value}
    [hT : TUnd P t (.slice e)] [hS : TShape P e agg m] [hZ : TZeroV P e zv] [hI : TInfo P e bytes] [hT2 : TUnd P t2 (.slice e2)]
    (hx : ev ρ x = .slice a len cap) (hy : ev ρ y = v) (hv : RdSl w0 sh encE m v l) (hm : 0 < m) (hone : allOne (l.flatMap encE) = true) (hj : getAt j Γ = some (SlA e m a len cap cs))
    (hzs : zv.cells.size = m) (hsmall : (2 * (len + l.length) + 192) * bytes ≤ 281474976710656 ∧ len + l.length ≤ 9223372036854775807)
    (hput : ∀ a' cap', putAt j (SlA e m a' (len + l.length) cap' (cs ++ l.flatMap encE)) Γ = some (G a' cap'))
    (h : ∀ a' cap', Reg P w0 n sh Q ops rest k (ρ.setO dst (.slice a' (len + l.length) cap')) df (G a' cap')) :
    Reg P w0 n sh Q ops ((Fl.loud, i, ⟨dst, .call ⟨.builtin .append, #[x, y], #[t, t2]⟩, ty, pos, aft, none⟩) :: rest) k ρ df Γ := by
  refine reg_loud rfl (fun v df' Γ' => ∃ a' cap', v = .slice a' (len + l.length) cap' ∧ df' = df ∧ putAt j (SlA e m a' (len + l.length) cap' (cs ++ l.flatMap encE)) Γ = some Γ') (fun hF hsh => ?_) ?_
  · by_cases hne : l = []
    · subst hne
      obtain ⟨a2, cap2, h1, _, _⟩ := hv
      exact opW_append0 (sz := m) (e2 := e2) hx (hy.trans h1) hj (by simpa using hsmall.2)
    · obtain ⟨a2, cap2, h1, _, h2⟩ := id hv
      obtain ⟨b', off', _, _, _, e', _⟩ := h2.resolve_left hne
      subst e'
      rw [h1] at hv
      obtain ⟨c, T, fr, g1, g2, g3⟩ := hv.blk hne hm
      exact opW_append (T2 := T) (fr := fr) (c2 := c) (hT := hT) (hS := hS) (hZ := hZ) (hI := hI) (hT2 := hT2) (new := l.flatMap encE) rfl hx (hy.trans h1) hj (fun w hst => g1 hF _ w hsh hst) g2 g3 hone hzs hsmall.1 hsmall.2
  · rintro v df' Γ' ⟨a', cap', h3, h4, h5⟩
    subst h3; subst h4
    rw [hput] at h5
    cases h5
    exact h a' cap'
def LstE (encE : α → List Value) (q : Nat) (T : TypeId) (v : Value) (l : List α) : Asn := fun h => (∀ x ∈ l, (encE x).length = q) ∧ ∃ a cap, v = .slice a l.length cap ∧ SlA T q a l.length cap (l.flatMap encE) h
theorem LstE.ofSl {q : Nat} {T : TypeId} {a : Option Addr} {len cap : Nat} (hq : ∀ x ∈ l, (encE x).length = q) (hl : l.length = len) (g : Heap) (hg : SlA T q a len cap (l.flatMap encE) g) : LstE encE q T (.slice a len cap) l g := by
  subst hl; exact ⟨hq, a, cap, rfl, hg⟩
theorem LstE.nil {q : Nat} {T : TypeId} : LstE encE q T (.slice none 0 0) ([] : List α) Heap.emp := ⟨fun x hx => by simp at hx, none, 0, rfl, SlA_nil⟩
end
end Go.Vc

namespace Go.Vc
section
variable {P : Program} {w0 : World} {n : Nat} {sh : Shared} {Q : Exit → Env → List Deferred → List Asn → Prop} {k : List Item} {ρ : Env} {df : List Deferred} {Γ : List Asn}
variable {ops : Array Oper} {l : List (Fl × Nat × Oper)} {i : Nat} {ty yt : TypeId} {pos : String} {aft : Array Edge}
variable {b : Fl} {x y : Operand} {d : Tmp}
theorem reg_eq_sl1 {t e : TypeId} {a : Addr} {n1 c1 n2 c2 : Nat} [hT : TUnd P t (.slice e)] (hx : ev ρ x = .slice (some a) n1 c1) (hy : ev ρ y = .slice none n2 c2) (h : Reg P w0 n sh Q ops l k (ρ.set d (.bool false)) df Γ) :
    Reg P w0 n sh Q ops ((b, i, ⟨some d, .binOp .eql t x y yt, ty, pos, aft, none⟩) :: l) k ρ df Γ :=
  reg_eq_gen hx hy (by rfl) (by rfl) (fun d w => by simp only [Op.equalIn, Sem.run_bind, run_underlying hT.und, Result.andThen_ok, Sem.run_pure]) h
theorem reg_subE {kd : IntKind} {u v r : Int} {t : TypeId} (hx : ev ρ x = .int kd u) (hy : ev ρ y = .int kd v) (hr : kd.wrap (u - v) = r) (h : Reg P w0 n sh Q ops l k (ρ.set d (.int kd r)) df Γ) :
    Reg P w0 n sh Q ops ((b, i, ⟨some d, .binOp .sub t x y yt, ty, pos, aft, none⟩) :: l) k ρ df Γ := reg_sub hx hy (by rw [hr]; exact h)
theorem reg_convE {src dst : TypeId} {sd : TypeDesc} {kd kd' : IntKind} {m r : Int} [hs : TUnd P src sd] [hd : TUnd P dst (.int kd')] (hx : ev ρ x = .int kd m) (hr : kd'.wrap m = r)
    (h : Reg P w0 n sh Q ops l k (ρ.set d (.int kd' r)) df Γ) : Reg P w0 n sh Q ops ((b, i, ⟨some d, .convert src dst x, ty, pos, aft, none⟩) :: l) k ρ df Γ := zca hx (by rw [hr]; exact h)
theorem wrap_u8 {x : Int} (h : 0 ≤ x ∧ x ≤ 255) : IntKind.u8.wrap x = x := by
  simp only [IntKind.wrap, IntKind.bits, IntKind.signed]
  simp
  omega
theorem wrap_u64 {x : Int} (h : 0 ≤ x ∧ x ≤ 18446744073709551615) : IntKind.u64.wrap x = x := by rw [IntKind.wrap_u64]; omega
variable {kt et : TypeId} {kd : IntKind} {zv : Value} {r : Nat} {ml : List (Int × Value)} {a : Int}
end
end Go.Vc

namespace Go.Vc
theorem str_eq (a b : ByteArray) : (a.toList == b.toList) = decide (a = b) := by
  by_cases h : a = b
  · subst h; simp
  · rw [decide_eq_false h, beq_eq_false_iff_ne]
    intro e
    refine h ?_
    rw [ByteArray.toList_eq, ByteArray.toList_eq] at e
    exact WideShapes.bytes_inj e
section
variable {P : Program} {w0 : World} {n : Nat} {sh : Shared} {Q : Exit → Env → List Deferred → List Asn → Prop} {k : List Item} {ρ : Env} {df : List Deferred} {Γ : List Asn}
variable {ops : Array Oper} {l : List (Fl × Nat × Oper)} {i : Nat} {ty yt t : TypeId} {pos : String} {aft : Array Edge}
variable {f : Fl} {x y : Operand} {d : Tmp} {a b : ByteArray}
theorem reg_eqS (hx : ev ρ x = .string a) (hy : ev ρ y = .string b) (h : Reg P w0 n sh Q ops l k (ρ.set d (.bool (decide (a = b)))) df Γ) :
    Reg P w0 n sh Q ops ((f, i, ⟨some d, .binOp .eql t x y yt, ty, pos, aft, none⟩) :: l) k ρ df Γ :=
  reg_quiet rfl (fun hF _ => quiet_of_run fun w => by simp [execOp, hx, hy, go_sem, str_eq]) h
theorem reg_neS (hx : ev ρ x = .string a) (hy : ev ρ y = .string b) (h : Reg P w0 n sh Q ops l k (ρ.set d (.bool (decide (a ≠ b)))) df Γ) :
    Reg P w0 n sh Q ops ((f, i, ⟨some d, .binOp .neq t x y yt, ty, pos, aft, none⟩) :: l) k ρ df Γ :=
  reg_quiet rfl (fun hF _ => quiet_of_run fun w => by simp [execOp, hx, hy, go_sem, str_eq]) h
theorem reg_ltS (hx : ev ρ x = .string a) (hy : ev ρ y = .string b) (h : Reg P w0 n sh Q ops l k (ρ.set d (.bool (Op.bytesLess a.toList b.toList))) df Γ) :
    Reg P w0 n sh Q ops ((f, i, ⟨some d, .binOp .lss t x y yt, ty, pos, aft, none⟩) :: l) k ρ df Γ :=
  reg_quiet rfl (fun hF _ => quiet_of_run fun w => by simp [execOp, hx, hy, go_sem]) h
theorem reg_addS (hx : ev ρ x = .string a) (hy : ev ρ y = .string b) (hb : a.size + b.size ≤ 9223372036854775807) (h : Reg P w0 n sh Q ops l k (ρ.set d (.string (a ++ b))) df Γ) :
    Reg P w0 n sh Q ops ((f, i, ⟨some d, .binOp .add t x y yt, ty, pos, aft, none⟩) :: l) k ρ df Γ :=
  reg_quiet rfl (fun hF _ => quiet_of_run fun w => by simp [execOp, hx, hy, go_sem, run_string_add_sum w a b hb]) h
theorem reg_lenS [hT : TUnd P t .string] (hx : ev ρ x = .string a) (h : Reg P w0 n sh Q ops l k (ρ.set d (.int .i64 a.size)) df Γ) :
    Reg P w0 n sh Q ops ((f, i, ⟨some d, .call ⟨.builtin .len, #[x], #[t]⟩, ty, pos, aft, none⟩) :: l) k ρ df Γ :=
  reg_quiet rfl (fun hF _ => quiet_of_run fun w => by
    simp [execOp, resolve, invoke, builtin, Builtin.len_, hx, run_underlying hT.und, goInt]) h
end
end Go.Vc

namespace Go.Vc
abbrev SM : Type := List (ByteArray × Value)
def EsOk (es : List MapEntry) (l : SM) : Prop := es.map (fun e => (e.key, e.val)) = l.map fun p => (.string p.1, p.2)
def lookS : SM → ByteArray → Option Value
  | [], _ => none
  | (a, v) :: r, x => if a = x then some v else lookS r x
def insS : SM → ByteArray → Value → SM
  | [], x, u => [(x, u)]
  | (a, v) :: r, x, u => if a = x then (a, u) :: r else (a, v) :: insS r x u
def delS : SM → ByteArray → SM
  | [], _ => []
  | (a, v) :: r, x => if a = x then r else (a, v) :: delS r x
def placeS : SM → ByteArray → Nat → Option Nat
  | [], _, _ => none
  | (a, _) :: r, x, i => if a = x then some i else placeS r x (i + 1)
def MapS (r : Nat) (l : SM) : Asn := fun h => ∃ es clock, h = Heap.one r (.map es.toArray clock) ∧ EsOk es l
theorem EsOk.cons {es : List MapEntry} {p : ByteArray × Value} {l : SM} (h : EsOk es (p :: l)) : ∃ e es', es = e :: es' ∧ e.key = .string p.1 ∧ e.val = p.2 ∧ EsOk es' l := by
  cases es with
  | nil => cases h
  | cons e es' =>
    unfold EsOk at h
    rw [List.map_cons, List.map_cons] at h
    injection h with h1 h2
    injection h1 with h3 h4
    exact ⟨e, es', rfl, h3, h4, h2⟩
theorem EsOk.nil {es : List MapEntry} (h : EsOk es []) : es = [] := by cases es with | nil => rfl | cons => cases h
theorem EsOk.len {es : List MapEntry} {l : SM} (h : EsOk es l) : es.length = l.length := by have := congrArg List.length h; simpa using this
theorem str_beq (a b : ByteArray) : (a == b) = decide (a = b) := by rw [beq_toListBytes, str_eq]
theorem findNow_S (x : ByteArray) : ∀ (l : SM) (es : List MapEntry) (j : Nat), EsOk es l →
    Instr.findNow .string (.string x) es j = some ((placeS l x j).bind fun m => (lookS l x).map fun v => (m, v))
  | [], es, j, h => by rw [h.nil]; rfl
  | (a, v) :: r, es, j, h => by
    obtain ⟨e, es', rfl, h1, h2, h3⟩ := h.cons
    have hs : Instr.sameNow .string (.string x) e.key = some (decide (a = x)) := by
      rw [h1]
      simp only [Instr.sameNow]
      rw [str_beq]
      congr 1
      by_cases e : a = x
      · subst e; rfl
      · rw [decide_eq_false e, decide_eq_false (fun h => e h.symm)]
    simp only [Instr.findNow, hs, placeS, lookS]
    by_cases e : a = x
    · rw [decide_eq_true e]
      simp only [if_pos e, Option.bind_some, Option.map_some, h2]
    · rw [decide_eq_false e]
      simp only [if_neg e]
      exact findNow_S x r es' (j + 1) h3
theorem placeS_some : ∀ (l : SM) (x : ByteArray) (i : Nat), (placeS l x i).isSome = (lookS l x).isSome
  | [], _, _ => rfl
  | (a, v) :: r, x, i => by
    simp only [placeS, lookS]
    by_cases h : a = x
    · simp [h]
    · simp only [if_neg h]; exact placeS_some r x (i + 1)
theorem placeS_spec (x : ByteArray) : ∀ (l : SM) (es : List MapEntry) (i m : Nat), EsOk es l → placeS l x i = some m → ∃ j, m = i + j ∧ (∃ e, es[j]? = some e ∧ e.key = .string x) ∧
    (∀ u, EsOk (es.modify j fun e => { e with key := .string x, val := u }) (insS l x u)) ∧ EsOk (es.eraseIdx j) (delS l x) ∧ j < es.length
  | [], _, _, _, _, h => by simp [placeS] at h
  | (a, v) :: r, es, i, m, hE, h => by
    obtain ⟨e, es', rfl, h1, h2, h3⟩ := hE.cons
    simp only [placeS] at h
    by_cases hx : a = x
    · subst hx
      simp at h
      refine ⟨0, by omega, ⟨e, rfl, h1⟩, fun u => ?_, ?_, by simp⟩
      · unfold EsOk at h3 ⊢
        simp only [List.modify_zero_cons, insS, if_true, List.map_cons, h3]
      · simp only [List.eraseIdx_cons_zero, delS, if_true]; exact h3
    · rw [if_neg hx] at h
      obtain ⟨j, g1, ⟨e2, g2, g2'⟩, g3, g4, g5⟩ := placeS_spec x r es' (i + 1) m h3 h
      refine ⟨j + 1, by omega, ⟨e2, by simpa using g2, g2'⟩, fun u => ?_, ?_, by simp; exact g5⟩
      · have := g3 u
        unfold EsOk at this ⊢
        simp only [List.modify_succ_cons, insS, if_neg hx, List.map_cons, this, h1, h2]
      · unfold EsOk at g4 ⊢
        simp only [List.eraseIdx_cons_succ, delS, if_neg hx, List.map_cons, g4, h1, h2]
theorem insS_none : ∀ (l : SM) (x : ByteArray) (u : Value), lookS l x = none → insS l x u = l ++ [(x, u)]
  | [], _, _, _ => rfl
  | (a, v) :: r, x, u, h => by
    simp only [lookS] at h
    split at h
    · cases h
    · rename_i hx; simp [insS, hx, insS_none r x u h]
theorem delS_none : ∀ (l : SM) (x : ByteArray), lookS l x = none → delS l x = l
  | [], _, _ => rfl
  | (a, v) :: r, x, h => by
    simp only [lookS] at h
    split at h
    · cases h
    · rename_i hx; simp [delS, hx, delS_none r x h]
theorem EsOk.push {es : List MapEntry} {l : SM} (h : EsOk es l) (x : ByteArray) (u : Value) (q : Nat) : EsOk (es ++ [{ key := .string x, val := u, born := q }]) (l ++ [(x, u)]) := by
  unfold EsOk at h ⊢
  rw [List.map_append, List.map_append, h]; rfl
section
variable {P : Program} {w0 : World} {n : Nat} {sh : Shared} {Q : Exit → Env → List Deferred → List Asn → Prop} {k : List Item} {ρ : Env} {df : List Deferred} {Γ : List Asn} {hF : Heap}
variable {ops : Array Oper} {l : List (Fl × Nat × Oper)} {b : Fl} {i d : Nat} {ty : TypeId} {pos : String} {aft : Array Edge}
variable {x y z : Operand} {t kt et : TypeId} {r : Nat} {a : ByteArray} {ml : SM} {zv : Value}
theorem run_getMap {w : World} {es : List MapEntry} {clock : Nat} (h : w.heap[r]? = some (.map es.toArray clock)) : (getObj r).run P w = .ok (.map es.toArray clock) w := by
  simp only [getObj, Sem.run, h]
theorem run_checkKeyS {w : World} (hk : P.underlying kt = some .string) (em : Bool) (d : Nat) : (Instr.checkKey em (d + 1) kt (.string a)).run P w = .ok () w := by
  simp only [Instr.checkKey, Sem.run_bind, run_underlying hk, Result.andThen_ok, Sem.run_pure]
theorem run_findKeyS {w : World} (hk : P.underlying kt = some .string) {es : List MapEntry} (hE : EsOk es ml) :
    (Instr.findKey kt (.string a) es).run P w = .ok ((placeS ml a 0).bind fun m => (lookS ml a).map fun v => (m, v)) w := by
  simp only [Instr.findKey, Sem.run_bind, run_underlying hk, Result.andThen_ok, findNow_S a ml es 0 hE, Sem.run_pure]
theorem lookupS_run {w : World} {ok : Bool} {es : List MapEntry} {clock : Nat} (hE : EsOk es ml) (hm : P.underlying t = some (.map kt et)) (hk : P.underlying kt = some .string) (hz : ∀ w, (zeroValue et).run P w = .ok zv w) (h : w.heap[r]? = some (.map es.toArray clock)) :
    (Instr.lookup t (.map (some r)) (.string a) ok).run P w = .ok (if ok then .tuple #[(lookS ml a).getD zv, .bool (lookS ml a).isSome] else (lookS ml a).getD zv) w := by
  have hck : ∀ em, (Instr.checkKey em 10000 kt (.string a)).run P w = .ok () w := fun em => run_checkKeyS hk em 9999
  have hp := placeS_some ml a 0
  simp only [Instr.lookup, Sem.run_bind, run_underlying hm, Result.andThen_ok, run_getMap h]
  simp only [Sem.run_pure, Result.andThen_ok, hck, run_findKeyS hk hE]
  cases hl : lookS ml a with
  | none =>
    rw [hl] at hp
    have : placeS ml a 0 = none := by cases hpp : placeS ml a 0 with | none => rfl | some m => rw [hpp] at hp; cases hp
    simp [this, hz]
  | some v =>
    rw [hl] at hp
    obtain ⟨m, hm'⟩ : ∃ m, placeS ml a 0 = some m := by cases hpp : placeS ml a 0 with | none => rw [hpp] at hp; cases hp | some m => exact ⟨m, rfl⟩
    simp [hm']
theorem mapUpdateS_run {w : World} {u : Value} {es : List MapEntry} {clock : Nat} (hE : EsOk es ml) (hm : P.underlying t = some (.map kt et)) (hk : P.underlying kt = some .string) (h : w.heap[r]? = some (.map es.toArray clock)) :
    ∃ es' clock', EsOk es' (insS ml a u) ∧ (Instr.mapUpdate t (.map (some r)) (.string a) u).run P w = .ok () { w with heap := w.heap.setIfInBounds r (.map es'.toArray clock') } := by
  have hck : ∀ em, (Instr.checkKey em 10000 kt (.string a)).run P w = .ok () w := fun em => run_checkKeyS hk em 9999
  have hp := placeS_some ml a 0
  have hset : ∀ (es2 : Array MapEntry) (c : Nat), (setObj r (.map es2 c)).run P w = .ok () { w with heap := w.heap.setIfInBounds r (.map es2 c) } := fun es2 c => by
    simp only [setObj, Sem.run, h]
  simp only [Instr.mapUpdate, Sem.run_bind, run_underlying hm, Result.andThen_ok, run_getMap h]
  simp only [Result.andThen_ok, hck, run_findKeyS hk hE]
  cases hl : lookS ml a with
  | none =>
    rw [hl] at hp
    have : placeS ml a 0 = none := by cases hpp : placeS ml a 0 with | none => rfl | some m => rw [hpp] at hp; cases hp
    refine ⟨es ++ [{ key := .string a, val := u, born := clock }], clock + 1, by rw [insS_none ml a u hl]; exact hE.push a u clock, ?_⟩
    simp only [this, Option.bind_none, hset]
    congr 2
    simp
  | some v =>
    rw [hl] at hp
    obtain ⟨m, hm'⟩ : ∃ m, placeS ml a 0 = some m := by cases hpp : placeS ml a 0 with | none => rw [hpp] at hp; cases hp | some m => exact ⟨m, rfl⟩
    obtain ⟨j, h1, ⟨e, h2, h2'⟩, h3, _⟩ := placeS_spec a ml es 0 m hE hm'
    simp only [Nat.zero_add] at h1
    subst h1
    have hstay : (Instr.keyThatStays (.string a) (.string a)).run P w = .ok (.string a) w := by
      simp [Instr.keyThatStays, Instr.sameBits, str_beq]
    refine ⟨_, clock, h3 u, ?_⟩
    simp only [hm', Option.bind_some, Option.map_some]
    simp only [List.getElem?_toArray, h2, Option.map_some, Option.getD_some, h2', Sem.run_bind, hstay, Result.andThen_ok, hset]
    rw [List.modify_toArray]
end
end Go.Vc

namespace Go.Vc
section
variable {P : Program} {w0 : World} {n : Nat} {sh : Shared} {Q : Exit → Env → List Deferred → List Asn → Prop} {k : List Item} {ρ : Env} {df : List Deferred} {Γ : List Asn} {hF : Heap}
variable {ops : Array Oper} {l : List (Fl × Nat × Oper)} {b : Fl} {i d : Nat} {ty : TypeId} {pos : String} {aft : Array Edge}
variable {x y z : Operand} {t kt et : TypeId} {r : Nat} {a : ByteArray} {ml : SM} {zv : Value}
theorem mapS_make (nb : Nat) : ∀ g, pt nb (mapI []) g → MapS nb [] g := fun _ hg => ⟨[], 0, hg, rfl⟩
theorem reg_lookupS (j : Nat) {ok : Bool} {v : Value} [hT : TUnd P t (.map kt et)] [hK : TUnd P kt .string] [hZ : TZeroV P et zv] (hx : ev ρ x = .map (some r)) (hy : ev ρ y = .string a)
    (hj : getAt j Γ = some (MapS r ml)) (hv : (if ok then .tuple #[(lookS ml a).getD zv, .bool (lookS ml a).isSome] else (lookS ml a).getD zv) = v)
    (h : Reg P w0 n sh Q ops l k (ρ.set d v) df Γ) (hb : notQuiet b = true := by rfl) : Reg P w0 n sh Q ops ((b, i, ⟨some d, .lookup t x y ok, ty, pos, aft, none⟩) :: l) k ρ df Γ := by
  refine reg_read rfl hb (fun hF _ w hst => ⟨w, ?_, hst⟩) h
  obtain ⟨rr, hp⟩ := getAt_perm hj
  obtain ⟨g, ⟨es, clock, hg, hE⟩, hB⟩ := (hst.perm hp).head
  have hm := (hB (pt r (.map es.toArray clock)) hg).get.2
  simp only [execOp, hx, hy, Sem.run_bind, lookupS_run hE hT.und hK.und hZ.zero_run hm, Sem.run_pure, Result.andThen_ok, hv]
theorem reg_mapUpdateS (j : Nat) {Γ' : List Asn} {u : Value} {dst : Option Tmp} [hT : TUnd P t (.map kt et)] [hK : TUnd P kt .string] (hx : ev ρ x = .map (some r)) (hy : ev ρ y = .string a) (hz : ev ρ z = u)
    (hj : getAt j Γ = some (MapS r ml)) (hput : putAt j (MapS r (insS ml a u)) Γ = some Γ')
    (h : Reg P w0 n sh Q ops l k (ρ.setO dst undef) df Γ') : Reg P w0 n sh Q ops ((Fl.loud, i, ⟨dst, .mapUpdate t x y z, ty, pos, aft, none⟩) :: l) k ρ df Γ := by
  refine reg_loud rfl (fun v' df' Γ'' => v' = undef ∧ df' = df ∧ Γ'' = Γ') (fun hF _ w hst => ?_) (fun v' df' Γ' ⟨h1, h2, h3⟩ => by subst h1; subst h2; subst h3; exact h)
  obtain ⟨rr, hp1, hp2⟩ := putAt_perm hj hput
  obtain ⟨g, ⟨es, clock, hg, hE⟩, hB⟩ := (hst.perm hp1).head
  have hst1 := hB (pt r (.map es.toArray clock)) hg
  obtain ⟨es', clock', hE', hrun⟩ := mapUpdateS_run (P := P) (a := a) (u := u) hE hT.und hK.und hst1.get.2
  simp only [execOp, hx, hy, hz, Sem.run_bind, hrun, Sem.run_pure, Result.andThen_ok]
  have hlt := hst1.lt
  refine ⟨Γ', ⟨rfl, rfl, rfl⟩, St.perm (St.exch (St.upd (w' := { w with heap := w.heap.setIfInBounds r (.map es'.toArray clock') }) hst1 rfl rfl rfl (by simp) (by simp [hlt]) (fun x hx => by simp [Array.getElem?_setIfInBounds_ne (Ne.symm hx)])) (fun g hg => ⟨es', clock', hg, hE'⟩)) hp2⟩
def RdM (w0 : World) (sh : Shared) (r : Nat) (ml : SM) : Prop := ∃ es clock, (∀ hF Γ w, Sh sh hF → St w0 hF Γ w → w.heap[r]? = some (.map es.toArray clock)) ∧ EsOk es ml
theorem RdM.mono {sh' : Shared} (h : RdM w0 sh r ml) (hs : ∀ p ∈ sh, p ∈ sh') : RdM w0 sh' r ml := by
  obtain ⟨es, clock, h1, h2⟩ := h
  exact ⟨es, clock, fun hF Γ w hsh hst => h1 hF Γ w (fun p hp => hsh p (hs p hp)) hst, h2⟩
theorem reg_lookupR {ok : Bool} {v : Value} [hT : TUnd P t (.map kt et)] [hK : TUnd P kt .string] [hZ : TZeroV P et zv] (hR : RdM w0 sh r ml) (hx : ev ρ x = .map (some r)) (hy : ev ρ y = .string a)
    (hv : (if ok then .tuple #[(lookS ml a).getD zv, .bool (lookS ml a).isSome] else (lookS ml a).getD zv) = v)
    (h : Reg P w0 n sh Q ops l k (ρ.set d v) df Γ) : Reg P w0 n sh Q ops ((b, i, ⟨some d, .lookup t x y ok, ty, pos, aft, none⟩) :: l) k ρ df Γ := by
  obtain ⟨es, clock, h1, h2⟩ := hR
  exact reg_quiet rfl (fun hF hsh w Γ' hst => ⟨w, by
    simp only [execOp, hx, hy, Sem.run_bind, lookupS_run h2 hT.und hK.und hZ.zero_run (h1 hF Γ' w hsh hst), Sem.run_pure, Result.andThen_ok, hv], hst⟩) h
theorem run_shareM (is : List Nat) {Γr : List Asn} (hp : pick is Γ = some ([MapS r ml], Γr))
    (h : ∀ sh', (∀ p ∈ sh, p ∈ sh') → RdM w0 sh' r ml → Run P w0 n sh' Q k ρ df Γr) : Run P w0 n sh Q k ρ df Γ := by
  refine ⟨?_⟩
  intro hF hsh a w ha hn hd hst
  have h1 : St w0 hF (Γr ++ [MapS r ml]) w := (hst.perm (pick_perm hp)).perm List.perm_append_comm
  obtain ⟨g, hg, hdj, hst2⟩ := h1.split
  obtain ⟨es, clock, hg1, hE⟩ := Stars.one.1 hg
  subst hg1
  have hsub : ∀ c oc, hF c = some oc → ((Heap.one r (.map es.toArray clock)).or hF) c = some oc := fun c oc hc => by
    rcases hdj c with e | e
    · simp [Heap.or, e, hc]
    · rw [e] at hc; cases hc
  refine RunAt.mono ((h ((r, .map es.toArray clock) :: sh) (fun p hp => List.mem_cons_of_mem _ hp) ⟨es, clock, fun hF Γ w h1 h2 => (h2.frame (h1 _ (.head _))).2, hE⟩).go _ (fun p hp => ?_)) hsub (fun _ _ _ _ h => h) ha hn hd hst2
  rcases List.mem_cons.1 hp with rfl | hp
  · simp [Heap.or, Heap.one]
  · exact hsub _ _ (hsh p hp)
end
end Go.Vc

namespace Sim
inductive PE where
  | mk (kind num : Int) (name meth : ByteArray) (args or : List PE)
inductive PS where
  | mk (kind : Int) (name : ByteArray) (num : Int) (expr : PE) (body els : List PS)
namespace PE
def kind : PE → Int | mk k _ _ _ _ _ => k
def num : PE → Int | mk _ k _ _ _ _ => k
def name : PE → ByteArray | mk _ _ k _ _ _ => k
def meth : PE → ByteArray | mk _ _ _ k _ _ => k
def args : PE → List PE | mk _ _ _ _ k _ => k
def or : PE → List PE | mk _ _ _ _ _ k => k
mutual
def size : PE → Nat
  | mk _ _ _ _ a o => 1 + sizeL a + sizeL o
def sizeL : List PE → Nat
  | [] => 0
  | e :: l => size e + sizeL l
end
theorem size_pos (e : PE) : 1 ≤ e.size := by cases e; unfold size; omega
theorem sizeL_mem : ∀ {l : List PE} {e : PE}, e ∈ l → e.size ≤ sizeL l
  | x :: l, e, h => by
    unfold sizeL
    rcases List.mem_cons.1 h with rfl | h
    · omega
    · have := sizeL_mem h; omega
theorem size_eq (e : PE) : e.size = 1 + sizeL e.args + sizeL e.or := by cases e; unfold size; rfl
theorem size_args {e x : PE} (h : x ∈ e.args) : x.size < e.size := by
  have := sizeL_mem h; rw [size_eq e]; omega
theorem size_or {e x : PE} (h : x ∈ e.or) : x.size < e.size := by
  have := sizeL_mem h; rw [size_eq e]; omega
end PE
namespace PS
def kind : PS → Int | mk k _ _ _ _ _ => k
def name : PS → ByteArray | mk _ k _ _ _ _ => k
def num : PS → Int | mk _ _ k _ _ _ => k
def expr : PS → PE | mk _ _ _ k _ _ => k
def body : PS → List PS | mk _ _ _ _ k _ => k
def els : PS → List PS | mk _ _ _ _ _ k => k
mutual
def size : PS → Nat
  | mk _ _ _ e a o => 1 + e.size + sizeL a + sizeL o
def sizeL : List PS → Nat
  | [] => 0
  | e :: l => size e + sizeL l
end
theorem size_pos (e : PS) : 1 ≤ e.size := by cases e; unfold size; omega
theorem sizeL_mem : ∀ {l : List PS} {e : PS}, e ∈ l → e.size ≤ sizeL l
  | x :: l, e, h => by
    unfold sizeL
    rcases List.mem_cons.1 h with rfl | h
    · omega
    · have := sizeL_mem h; omega
theorem size_body (e : PS) : sizeL e.body < e.size := by cases e; unfold size; simp only [body]; omega
theorem size_expr (e : PS) : e.expr.size < e.size := by cases e; unfold size; simp only [expr]; omega
theorem size_els (e : PS) : sizeL e.els < e.size := by cases e; unfold size; simp only [els]; omega
end PS
end Sim
namespace Go.Vc
open Sim
abbrev RdC (w0 : World) (sh : Shared) (m : Nat) (v : Value) (cl : List (List Value)) : Prop := RdSl w0 sh (fun c => c) m v cl
abbrev peC (kind num : Int) (name meth : ByteArray) (va vo : Value) : List Value := [.int .i64 kind, .int .i64 num, .string name, .string meth, va, vo]
mutual
def RdE (w0 : World) (sh : Shared) : PE → List Value → Prop
  | .mk kind num name meth args or, cs => ∃ va vo cl cl', cs = peC kind num name meth va vo ∧ RdC w0 sh 6 va cl ∧ RdEs w0 sh args cl ∧ RdC w0 sh 6 vo cl' ∧ RdEs w0 sh or cl'
def RdEs (w0 : World) (sh : Shared) : List PE → List (List Value) → Prop
  | [], cl => cl = []
  | e :: l, cl => ∃ c cl', cl = c :: cl' ∧ RdE w0 sh e c ∧ RdEs w0 sh l cl'
end
def RdEl (w0 : World) (sh : Shared) (v : Value) (l : List PE) : Prop := ∃ cl, RdC w0 sh 6 v cl ∧ RdEs w0 sh l cl
mutual
def RdS (w0 : World) (sh : Shared) : PS → List Value → Prop
  | .mk kind name num expr body els, cs => ∃ ce vb ve cl cl', cs = [.int .i64 kind, .string name, .int .i64 num] ++ ce ++ [vb, ve] ∧ RdE w0 sh expr ce ∧ RdC w0 sh 11 vb cl ∧ RdSs w0 sh body cl ∧ RdC w0 sh 11 ve cl' ∧ RdSs w0 sh els cl'
def RdSs (w0 : World) (sh : Shared) : List PS → List (List Value) → Prop
  | [], cl => cl = []
  | e :: l, cl => ∃ c cl', cl = c :: cl' ∧ RdS w0 sh e c ∧ RdSs w0 sh l cl'
end
def RdSt (w0 : World) (sh : Shared) (v : Value) (l : List PS) : Prop := ∃ cl, RdC w0 sh 11 v cl ∧ RdSs w0 sh l cl
section
variable {w0 : World} {sh sh' : Shared}
mutual
theorem RdE.mono (hs : ∀ p ∈ sh, p ∈ sh') : ∀ {e : PE} {cs : List Value}, RdE w0 sh e cs → RdE w0 sh' e cs
  | .mk _ _ _ _ _ _, _, h => by
    unfold RdE at h ⊢
    obtain ⟨va, vo, cl, cl', h1, h2, h3, h4, h5⟩ := h
    exact ⟨va, vo, cl, cl', h1, h2.mono hs, RdEs.mono hs h3, h4.mono hs, RdEs.mono hs h5⟩
theorem RdEs.mono (hs : ∀ p ∈ sh, p ∈ sh') : ∀ {l : List PE} {cl : List (List Value)}, RdEs w0 sh l cl → RdEs w0 sh' l cl
  | [], _, h => by unfold RdEs at h ⊢; exact h
  | _ :: _, _, h => by
    unfold RdEs at h ⊢
    obtain ⟨c, cl', h1, h2, h3⟩ := h
    exact ⟨c, cl', h1, RdE.mono hs h2, RdEs.mono hs h3⟩
end
theorem RdEl.mono {v : Value} {l : List PE} (h : RdEl w0 sh v l) (hs : ∀ p ∈ sh, p ∈ sh') : RdEl w0 sh' v l := let ⟨cl, h1, h2⟩ := h; ⟨cl, h1.mono hs, h2.mono hs⟩
mutual
theorem RdS.mono (hs : ∀ p ∈ sh, p ∈ sh') : ∀ {e : PS} {cs : List Value}, RdS w0 sh e cs → RdS w0 sh' e cs
  | .mk _ _ _ _ _ _, _, h => by
    unfold RdS at h ⊢
    obtain ⟨ce, vb, ve, cl, cl', h1, h0, h2, h3, h4, h5⟩ := h
    exact ⟨ce, vb, ve, cl, cl', h1, h0.mono hs, h2.mono hs, RdSs.mono hs h3, h4.mono hs, RdSs.mono hs h5⟩
theorem RdSs.mono (hs : ∀ p ∈ sh, p ∈ sh') : ∀ {l : List PS} {cl : List (List Value)}, RdSs w0 sh l cl → RdSs w0 sh' l cl
  | [], _, h => by unfold RdSs at h ⊢; exact h
  | _ :: _, _, h => by
    unfold RdSs at h ⊢
    obtain ⟨c, cl', h1, h2, h3⟩ := h
    exact ⟨c, cl', h1, RdS.mono hs h2, RdSs.mono hs h3⟩
end
theorem RdSt.mono {v : Value} {l : List PS} (h : RdSt w0 sh v l) (hs : ∀ p ∈ sh, p ∈ sh') : RdSt w0 sh' v l := let ⟨cl, h1, h2⟩ := h; ⟨cl, h1.mono hs, h2.mono hs⟩
theorem RdE.cs {e : PE} {cs : List Value} (h : RdE w0 sh e cs) : ∃ va vo, cs = peC e.kind e.num e.name e.meth va vo ∧ RdEl w0 sh va e.args ∧ RdEl w0 sh vo e.or := by
  cases e
  unfold RdE at h
  obtain ⟨va, vo, cl, cl', h1, h2, h3, h4, h5⟩ := h
  exact ⟨va, vo, h1, ⟨cl, h2, h3⟩, ⟨cl', h4, h5⟩⟩
theorem RdE.of {e : PE} {va vo : Value} (h1 : RdEl w0 sh va e.args) (h2 : RdEl w0 sh vo e.or) : RdE w0 sh e (peC e.kind e.num e.name e.meth va vo) := by
  cases e
  obtain ⟨cl, h3, h4⟩ := h1
  obtain ⟨cl', h5, h6⟩ := h2
  unfold RdE
  exact ⟨va, vo, cl, cl', rfl, h3, h4, h5, h6⟩
theorem RdS.cs {e : PS} {cs : List Value} (h : RdS w0 sh e cs) : ∃ va vo vb ve, cs = [.int .i64 e.kind, .string e.name, .int .i64 e.num, .int .i64 e.expr.kind, .int .i64 e.expr.num, .string e.expr.name, .string e.expr.meth, va, vo, vb, ve] ∧ RdE w0 sh e.expr (peC e.expr.kind e.expr.num e.expr.name e.expr.meth va vo) ∧ RdSt w0 sh vb e.body ∧ RdSt w0 sh ve e.els := by
  cases e
  unfold RdS at h
  obtain ⟨ce, vb, ve, cl, cl', h1, h0, h2, h3, h4, h5⟩ := h
  obtain ⟨va, vo, h6, h7, h8⟩ := h0.cs
  subst h6
  exact ⟨va, vo, vb, ve, h1, h0, ⟨cl, h2, h3⟩, ⟨cl', h4, h5⟩⟩
theorem RdEs.len : ∀ {l : List PE} {cl : List (List Value)}, RdEs w0 sh l cl → cl.length = l.length
  | [], _, h => by unfold RdEs at h; rw [h]; rfl
  | _ :: l, _, h => by
    unfold RdEs at h
    obtain ⟨c, cl', h1, h2, h3⟩ := h
    rw [h1, List.length_cons, List.length_cons, RdEs.len h3]
theorem RdEs.at : ∀ {l : List PE} {cl : List (List Value)}, RdEs w0 sh l cl → ∀ {i : Nat} {e : PE}, l[i]? = some e → ∃ c, cl[i]? = some c ∧ RdE w0 sh e c
  | [], _, _, i, e, he => by simp at he
  | _ :: l, _, h, i, e, he => by
    unfold RdEs at h
    obtain ⟨c, cl', h1, h2, h3⟩ := h
    subst h1
    cases i with
    | zero => simp at he; subst he; exact ⟨c, rfl, h2⟩
    | succ i => rw [List.getElem?_cons_succ] at he ⊢; exact RdEs.at h3 he
theorem RdSs.len : ∀ {l : List PS} {cl : List (List Value)}, RdSs w0 sh l cl → cl.length = l.length
  | [], _, h => by unfold RdSs at h; rw [h]; rfl
  | _ :: l, _, h => by
    unfold RdSs at h
    obtain ⟨c, cl', h1, h2, h3⟩ := h
    rw [h1, List.length_cons, List.length_cons, RdSs.len h3]
theorem RdSs.at : ∀ {l : List PS} {cl : List (List Value)}, RdSs w0 sh l cl → ∀ {i : Nat} {e : PS}, l[i]? = some e → ∃ c, cl[i]? = some c ∧ RdS w0 sh e c
  | [], _, _, i, e, he => by simp at he
  | _ :: l, _, h, i, e, he => by
    unfold RdSs at h
    obtain ⟨c, cl', h1, h2, h3⟩ := h
    subst h1
    cases i with
    | zero => simp at he; subst he; exact ⟨c, rfl, h2⟩
    | succ i => rw [List.getElem?_cons_succ] at he ⊢; exact RdSs.at h3 he
theorem RdEl.len {v : Value} {l : List PE} (h : RdEl w0 sh v l) : ∃ a cap, v = .slice a l.length cap ∧ l.length ≤ cap := by
  obtain ⟨cl, h1, h2⟩ := h
  obtain ⟨a, cap, e, hc, _⟩ := id h1
  rw [h2.len] at e hc
  exact ⟨a, cap, e, hc⟩
theorem RdSt.len {v : Value} {l : List PS} (h : RdSt w0 sh v l) : ∃ a cap, v = .slice a l.length cap ∧ l.length ≤ cap := by
  obtain ⟨cl, h1, h2⟩ := h
  obtain ⟨a, cap, e, hc, _⟩ := id h1
  rw [h2.len] at e hc
  exact ⟨a, cap, e, hc⟩
theorem RdEl.at {a : Option Addr} {len cap : Nat} {l : List PE} (h : RdEl w0 sh (.slice a len cap) l) {i : Nat} {e : PE} (he : l[i]? = some e) :
    ∃ b off c T fr cs, a = some ⟨b, off, none⟩ ∧ (∀ hF Γ w, Sh sh hF → St w0 hF Γ w → w.heap[b]? = some (.cells c T fr)) ∧ (∀ o, o = off + i * 6 → rd true 6 c.toList o = some (.agg (List.toArray cs))) ∧ RdE w0 sh e cs ∧ (∀ k u, cs[k]? = some u → ∀ o, o = off + i * 6 + k → rd false 1 c.toList o = some u) := by
  obtain ⟨cl, h1, h2⟩ := h
  obtain ⟨c0, h3, h4⟩ := h2.at he
  obtain ⟨b, off, c, T, fr, e1, e2, e3, e4⟩ := h1.cells h3
  exact ⟨b, off, c, T, fr, c0, e1, e2, e3, h4, e4⟩
theorem RdSt.at {a : Option Addr} {len cap : Nat} {l : List PS} (h : RdSt w0 sh (.slice a len cap) l) {i : Nat} {e : PS} (he : l[i]? = some e) :
    ∃ b off c T fr cs, a = some ⟨b, off, none⟩ ∧ (∀ hF Γ w, Sh sh hF → St w0 hF Γ w → w.heap[b]? = some (.cells c T fr)) ∧ (∀ o, o = off + i * 11 → rd true 11 c.toList o = some (.agg (List.toArray cs))) ∧ RdS w0 sh e cs ∧ (∀ k u, cs[k]? = some u → ∀ o, o = off + i * 11 + k → rd false 1 c.toList o = some u) := by
  obtain ⟨cl, h1, h2⟩ := h
  obtain ⟨c0, h3, h4⟩ := h2.at he
  obtain ⟨b, off, c, T, fr, e1, e2, e3, e4⟩ := h1.cells h3
  exact ⟨b, off, c, T, fr, c0, e1, e2, e3, h4, e4⟩
end
end Go.Vc

namespace Go.Vc
def Rds (φ : Shared → Prop) : Asn := fun g => ∃ bl : Shared, (∀ p ∈ bl, g p.1 = some p.2) ∧ φ bl
theorem Rds.mono {φ ψ : Shared → Prop} (h : ∀ bl, φ bl → ψ bl) (g : Heap) (hg : Rds φ g) : Rds ψ g := let ⟨bl, h1, h2⟩ := hg; ⟨bl, h1, h bl h2⟩
theorem or_left {g1 g2 : Heap} {p : Nat × Obj} (h : g1 p.1 = some p.2) : (g1.or g2) p.1 = some p.2 := by unfold Heap.or; rw [h]
theorem or_right {g1 g2 : Heap} (hd : Disj g1 g2) {p : Nat × Obj} (h : g2 p.1 = some p.2) : (g1.or g2) p.1 = some p.2 := by
  unfold Heap.or
  rcases hd p.1 with e | e
  · rw [e]; exact h
  · rw [e] at h; cases h
theorem Rds.join {φ ψ χ : Shared → Prop} (h : ∀ b1 b2, φ b1 → ψ b2 → χ (b1 ++ b2)) (g : Heap) (hg : Stars [Rds φ, Rds ψ] g) : Rds χ g := by
  obtain ⟨g1, g2, hd, rfl, ⟨b1, h1, h2⟩, hs⟩ := hg
  obtain ⟨b2, h3, h4⟩ := Stars.one.1 hs
  refine ⟨b1 ++ b2, fun p hp => ?_, h b1 b2 h2 h4⟩
  rcases List.mem_append.1 hp with hp | hp
  · exact or_left (h1 p hp)
  · exact or_right hd (h3 p hp)
theorem Rds.of_pt {b : Nat} {o : Obj} (g : Heap) (hg : pt b o g) : Rds (fun bl => (b, o) ∈ bl) g := ⟨[(b, o)], fun p hp => by rw [List.mem_singleton.1 hp]; simp only [pt] at hg; subst hg; simp [Heap.one], .head _⟩
theorem Rds.emp {φ : Shared → Prop} (h : φ []) : Rds φ Heap.emp := ⟨[], fun _ hp => absurd hp List.not_mem_nil, h⟩
section
variable {P : Program} {w0 : World} {n : Nat} {sh : Shared} {Q : Exit → Env → List Deferred → List Asn → Prop} {k : List Item} {ρ : Env} {df : List Deferred} {Γ : List Asn} {φ : Shared → Prop}
theorem run_shareR (is : List Nat) {Γr : List Asn} (hp : pick is Γ = some ([Rds φ], Γr))
    (h : ∀ sh' bl, (∀ p ∈ sh, p ∈ sh') → (∀ p ∈ bl, p ∈ sh') → φ bl → Run P w0 n sh' Q k ρ df Γr) : Run P w0 n sh Q k ρ df Γ := by
  refine ⟨?_⟩
  intro hF hsh a w ha hn hd hst
  have h1 : St w0 hF (Γr ++ [Rds φ]) w := (hst.perm (pick_perm hp)).perm List.perm_append_comm
  obtain ⟨g, hg, hdj, hst2⟩ := h1.split
  obtain ⟨bl, hb1, hb2⟩ := Stars.one.1 hg
  have hsub : ∀ c oc, hF c = some oc → (g.or hF) c = some oc := fun c oc hc => by
    rcases hdj c with e | e
    · simp [Heap.or, e, hc]
    · rw [e] at hc; cases hc
  refine RunAt.mono ((h (bl ++ sh) bl (fun p hp => List.mem_append_right _ hp) (fun p hp => List.mem_append_left _ hp) hb2).go _ (fun p hp => ?_)) hsub (fun _ _ _ _ h => h) ha hn hd hst2
  rcases List.mem_append.1 hp with hp | hp
  · exact or_left (hb1 p hp)
  · exact hsub _ _ (hsh p hp)
theorem run_joinR (is : List Nat) {ψ χ : Shared → Prop} {Γr : List Asn} (hp : pick is Γ = some ([Rds φ, Rds ψ], Γr)) (hj : ∀ b1 b2, φ b1 → ψ b2 → χ (b1 ++ b2))
    (h : Run P w0 n sh Q k ρ df (Rds χ :: Γr)) : Run P w0 n sh Q k ρ df Γ := run_close is hp (fun g hg => Rds.join hj g hg) h
end
theorem Rds.ofSl {α : Type} {w0 : World} {encE : α → List Value} {q : Nat} {T : TypeId} {a : Option Addr} {len cap : Nat} {l : List α} (hq : ∀ x ∈ l, (encE x).length = q) (hl : l.length = len) (g : Heap) (hg : SlA T q a len cap (l.flatMap encE) g) :
    Rds (fun bl => RdSl w0 bl encE q (.slice a len cap) l) g := by
  subst hl
  cases a with
  | none =>
    obtain ⟨e1, e2, e3, e4⟩ := SlA.none_iff.1 hg
    subst e4
    have hl : l = [] := List.length_eq_zero_iff.1 e1
    subst hl
    exact Rds.emp RdSl.nil
  | some ad =>
    obtain ⟨b', spare, e1, e2, e3, e4, e5⟩ := SlA.some_iff.1 hg
    refine Rds.mono (fun bl hb => ?_) g (Rds.of_pt g e5)
    rw [e1]
    exact RdSl.flatS hq hb e3
end Go.Vc

namespace Go.Vc
def ofB (l : List UInt8) : ByteArray := ⟨l.toArray⟩
theorem ofB_data (b : ByteArray) : ofB b.data.toList = b := rfl
theorem ofB_inj {a b : List UInt8} (h : ofB a = ofB b) : a = b := by
  have := congrArg (fun x : ByteArray => x.data.toList) h
  simpa [ofB] using this
def strsV (l : List (List UInt8)) : List Value := l.map fun x => .string (ofB x)
section
variable {P : Program} {w0 : World} {n : Nat} {sh : Shared} {Q : Exit → Env → List Deferred → List Asn → Prop} {k : List Item} {ρ : Env} {df : List Deferred} {Γ : List Asn} {hF : Heap}
variable {ops : Array Oper} {l : List (Fl × Nat × Oper)} {b : Fl} {i d : Nat} {ty : TypeId} {pos : String} {aft : Array Edge}
variable {x y : Operand} {t e : TypeId} {N cap bb : Nat} {D : Array (List UInt8)} {z : Int} {v : List UInt8}
def DatS (e : TypeId) (bb N cap : Nat) (D : Array (List UInt8)) : Asn := SlA e 1 (some ⟨bb, 0, none⟩) N cap (strsV D.toList)
theorem DatS.size {h : Heap} (hA : DatS e bb N cap D h) : D.size = N := by
  have := (SlA_len hA).1
  simpa [strsV] using this
theorem strsV_get {o : Nat} (h : o < D.size) : (strsV D.toList)[o]? = some (.string (ofB D[o]!)) := by
  simp [strsV, h]
theorem reg_load_ds (j : Nat) [hT : TShape P t false 1] (hx : ev ρ x = .pointer (some ⟨bb, 0 + z.toNat * 1, none⟩)) (hj : getAt j Γ = some (DatS e bb N cap D)) (hz : 0 ≤ z ∧ z < N)
    (h : Reg P w0 n sh Q ops l k (ρ.set d (.string (ofB D[z.toNat]!))) df Γ) (hb : notQuiet b = true := by rfl) : Reg P w0 n sh Q ops ((b, i, ⟨some d, .load t x, ty, pos, aft, none⟩) :: l) k ρ df Γ := by
  refine reg_read rfl hb (fun hF _ w hst => ?_) h
  obtain ⟨r, hp⟩ := getAt_perm hj
  obtain ⟨g, hA, hB⟩ := (hst.perm hp).head
  have hs := hA.size
  obtain ⟨b', spare, h1, h2, h3, h4, h5⟩ := SlA.some_iff.1 hA
  have hb : bb = b' := by injection h1
  subst hb
  refine ⟨w, load_of hT hx (hB _ h5).get.2 ?_, hst⟩
  have hr : rd false 1 (strsV D.toList) (0 + z.toNat * 1) = some (.string (ofB D[z.toNat]!)) := by
    show nth _ _ = _
    rw [nth_eq, Nat.zero_add, Nat.mul_one]; exact strsV_get (by omega)
  simpa using rd_append (sp := spare) hr (fun h => by cases h)
theorem reg_store_ds (j : Nat) {Γ' : List Asn} {dst : Option Tmp} [hT : TShape P t false 1] (hx : ev ρ x = .pointer (some ⟨bb, 0 + z.toNat * 1, none⟩)) (hv : ev ρ y = .string (ofB v)) (hj : getAt j Γ = some (DatS e bb N cap D)) (hz : 0 ≤ z ∧ z < N)
    (hput : putAt j (DatS e bb N cap (D.setIfInBounds z.toNat v)) Γ = some Γ')
    (h : Reg P w0 n sh Q ops l k (ρ.setO dst undef) df Γ') : Reg P w0 n sh Q ops ((Fl.loud, i, ⟨dst, .store t x y, ty, pos, aft, none⟩) :: l) k ρ df Γ := by
  refine reg_loud rfl (fun v' df' Γ'' => v' = undef ∧ df' = df ∧ Γ'' = Γ') (fun hF _ w hst => ?_) (fun v' df' Γ'' ⟨h1, h2, h3⟩ => by subst h1; subst h2; subst h3; exact h)
  obtain ⟨r, hst1, hback⟩ := hst.at hj
  obtain ⟨g, hA, hB⟩ := hst1.head
  have hs := hA.size
  obtain ⟨b', spare, h1, h2, h3, h4, h5⟩ := SlA.some_iff.1 hA
  have hb : bb = b' := by injection h1
  subst hb
  have hst2 := hB _ h5
  have hw : wr [.string (ofB v)] (0 + z.toNat * 1) (strsV D.toList) = some (strsV (D.setIfInBounds z.toNat v).toList) := by
    rw [wr_one_at _ _ _ (by simp [strsV]; omega), Nat.zero_add, Nat.mul_one]
    simp [strsV, List.map_set]
  obtain ⟨w', g1, g2, g3, g4, g5, g6, g7⟩ := run_storeVar (P := P) (off := 0 + z.toNat * 1) (v := ev ρ y) (t := t) (vs := [.string (ofB v)]) (n := 1) hst2.get.2 (by rw [hv]; rfl) rfl rfl (by have := wr_append (sp := spare) hw; simpa using this)
  simp only [execOp, hx, Instr.storeAt, Instr.sureAddr, Sem.run_bind, Sem.run_pure, Result.andThen_ok, g1]
  have hl' : (strsV (D.setIfInBounds z.toNat v).toList).length = (strsV D.toList).length := by simp [strsV]
  obtain ⟨Γ'', h7, h8⟩ := hback (DatS e bb N cap (D.setIfInBounds z.toNat v)) w' ((hst2.upd g5 g6 g7 g3 g2 g4).exch fun g hg => SlA.some_iff.2 ⟨bb, spare, rfl, by rw [hl']; exact h2, h3, by rw [hl']; exact h4, by rw [Array.toList_setIfInBounds]; exact hg⟩)
  rw [hput] at h7
  cases h7
  exact ⟨Γ', ⟨rfl, rfl, rfl⟩, h8⟩
theorem run_dats (j : Nat) (hj : getAt j Γ = some (DatS e bb N cap D)) (h : D.size = N → Run P w0 n sh Q k ρ df Γ) : Run P w0 n sh Q k ρ df Γ :=
  run_know (fun hF w _ hst => by
    obtain ⟨r, hp⟩ := getAt_perm hj
    obtain ⟨g, hA, _⟩ := (hst.perm hp).head
    exact hA.size) h
theorem bytesLess_dec : ∀ x y : List UInt8, Op.bytesLess x y = decide (x < y)
  | [], [] => by simp [Op.bytesLess]
  | a :: x, [] => by simp [Op.bytesLess]
  | [], b :: y => by simp [Op.bytesLess]
  | a :: x, b :: y => by
    rw [Op.bytesLess, bytesLess_dec x y]
    by_cases h : a < b
    · simp [h, List.cons_lt_cons_iff]
    · by_cases e : a = b
      · subst e; simp
      · simp [h, e, List.cons_lt_cons_iff]
theorem bytesLess_ltStr (a b : List UInt8) : Op.bytesLess (ofB a).toList (ofB b).toList = Go.Sort.ltStr a b := by
  rw [ByteArray.toList_eq, ByteArray.toList_eq, bytesLess_dec]; rfl
theorem reg_ltB {yt : TypeId} {u v : List UInt8} (hx : ev ρ x = .string (ofB u)) (hy : ev ρ y = .string (ofB v)) (h : Reg P w0 n sh Q ops l k (ρ.set d (.bool (Go.Sort.ltStr u v))) df Γ) :
    Reg P w0 n sh Q ops ((b, i, ⟨some d, .binOp .lss t x y yt, ty, pos, aft, none⟩) :: l) k ρ df Γ :=
  reg_ltS hx hy (by rw [bytesLess_ltStr]; exact h)
theorem reg_neB {yt : TypeId} {u : ByteArray} (hx : ev ρ x = .string u) (hy : ev ρ y = .string u) (h : Reg P w0 n sh Q ops l k (ρ.set d (.bool false)) df Γ) :
    Reg P w0 n sh Q ops ((b, i, ⟨some d, .binOp .neq t x y yt, ty, pos, aft, none⟩) :: l) k ρ df Γ :=
  reg_neS hx hy (by simpa using h)
theorem ofB_iff {u v : List UInt8} : ofB u = ofB v ↔ u = v := ⟨ofB_inj, fun h => h ▸ rfl⟩
theorem reg_eqY {yt : TypeId} {u v : List UInt8} (hx : ev ρ x = .string (ofB u)) (hy : ev ρ y = .string (ofB v)) (h : Reg P w0 n sh Q ops l k (ρ.set d (.bool (decide (u = v)))) df Γ) :
    Reg P w0 n sh Q ops ((b, i, ⟨some d, .binOp .eql t x y yt, ty, pos, aft, none⟩) :: l) k ρ df Γ :=
  reg_eqS hx hy (by rw [show decide (ofB u = ofB v) = decide (u = v) from by simp only [ofB_iff]]; exact h)
theorem reg_neqY {yt : TypeId} {u v : List UInt8} (hx : ev ρ x = .string (ofB u)) (hy : ev ρ y = .string (ofB v)) (h : Reg P w0 n sh Q ops l k (ρ.set d (.bool (decide (u ≠ v)))) df Γ) :
    Reg P w0 n sh Q ops ((b, i, ⟨some d, .binOp .neq t x y yt, ty, pos, aft, none⟩) :: l) k ρ df Γ :=
  reg_neS hx hy (by rw [show decide (ofB u ≠ ofB v) = decide (u ≠ v) from by simp only [ne_eq, ofB_iff]]; exact h)
end
end Go.Vc

namespace Go.Vc
section
variable {P : Program} {w0 : World} {n : Nat} {sh : Shared} {Q : Exit → Env → List Deferred → List Asn → Prop} {k : List Item} {ρ : Env} {df : List Deferred} {Γ : List Asn} {hF : Heap}
variable {ops : Array Oper} {l : List (Fl × Nat × Oper)} {b : Fl} {i d : Nat} {ty : TypeId} {pos : String} {aft : Array Edge}
variable {x y : Operand} {t T e t2 : TypeId} {agg : Bool} {sz bytes : Nat}
theorem reg_append_mk {dst : Option Tmp} {N : Nat} {ik kd : IntKind} {zv : Value} [hT : TUnd P t (.slice e)] [hS : TShape P e agg sz] [hZ : TZeroV P e zv] [hI : TInfo P e bytes] [hT2 : TUnd P t2 (.int ik)]
    (hx : ev ρ x = .slice none 0 0) (hy : ev ρ y = .int kd (N : Int)) (hN : 0 < N) (hzs : zv.cells.size = sz) (hsmall : (2 * N + 192) * bytes ≤ 281474976710656) (hbig : N ≤ 4611686018427387904)
    (h : ∀ nb cap, Reg P w0 n sh Q ops l k (ρ.setO dst (.slice (some ⟨nb, 0, none⟩) N cap)) df (SlA e sz (some ⟨nb, 0, none⟩) 0 cap [] :: Γ)) :
    Reg P w0 n sh Q ops ((Fl.loud, i, ⟨dst, .call ⟨.builtin .append, #[x, y], #[t, t2]⟩, ty, pos, aft, none⟩) :: l) k ρ df Γ := by
  refine reg_loud rfl (fun v' df' Γ'' => ∃ nb cap, v' = .slice (some ⟨nb, 0, none⟩) N cap ∧ df' = df ∧ Γ'' = SlA e sz (some ⟨nb, 0, none⟩) 0 cap [] :: Γ) (fun hF _ w hst => ?_) (fun v' df' Γ'' ⟨nb, cap, h1, h2, h3⟩ => by subst h1; subst h2; subst h3; exact h nb cap)
  obtain ⟨ti, hti, hbytes⟩ := hI.info_run w
  have hmax : ¬ ((0 + N : Nat) : Int) > IntKind.i64.max := by rw [IntKind.max_i64]; omega
  have hwrap : IntKind.i64.wrap (N : Int) = N := by rw [IntKind.wrap_i64]; omega
  have hneg : ¬ ((N : Int) < 0) := by omega
  have hbytes2 : ¬ ((N : Int) * (bytes : Int) > 2 ^ 48) := by
    have h1 : N * bytes ≤ (2 * N + 192) * bytes := Nat.mul_le_mul_right _ (by omega)
    have h2 : ((N * bytes : Nat) : Int) = (N : Int) * (bytes : Int) := by simp
    rw [← h2]; omega
  have hfit : ¬ 0 + N ≤ 0 := by omega
  have hcap : ¬ Builtin.nextslicecap (0 + N) 0 * bytes > 2 ^ 48 := by
    have := nextslicecap_le (m := 0 + N) (c := 0) (by omega)
    have h2 := Nat.mul_le_mul_right bytes this
    rw [Nat.zero_add] at h2 ⊢
    omega
  simp only [execOp, resolve, invoke, builtin, Builtin.append_]
  simp only [List.map_toArray, List.map_cons, List.map_nil, hx, hy, Sem.run_bind, Sem.run_pure, Result.andThen_ok]
  simp only [List.getElem?_toArray, List.getElem?_cons_zero, List.getElem?_cons_succ, Sem.run_bind, Sem.run_pure, Result.andThen_ok, run_underlying hT.und, run_underlying hT2.und, hS.size_run, if_true, asInt, asIntOf, hwrap, hneg, if_false, hti, hbytes, hbytes2, Int.toNat_natCast, Bool.not_true, Bool.false_eq_true, hfit, hmax, hcap, true_or, and_true]
  simp only [run_choose, Question.forced, Bool.false_eq_true, if_false, Result.andThen_ok, Question.cut, run_askRoom, hZ.zero_run]
  generalize hq : 0 + N + w.tape w.drawn (.appendCap (0 + N) 0 e) % (2 ^ 63 - (0 + N)) = newCap
  have hge : 0 + N ≤ newCap := by omega
  obtain ⟨ti2, hti2, _⟩ := hI.info_run { w with drawn := w.drawn + 1 }
  simp only [hti2, Builtin.firstCells, Sem.run_pure, Result.andThen_ok, newRow, run_newObj, Sem.run_bind]
  have key : ∀ new : Array Value, new.size = N * sz → OpRes P w0 hF df (fun v' df' Γ'' => ∃ nb cap, v' = .slice (some ⟨nb, 0, none⟩) N cap ∧ df' = df ∧ Γ'' = SlA e sz (some ⟨nb, 0, none⟩) 0 cap [] :: Γ)
      (.ok (.value (.slice (some ⟨w.heap.size, 0, none⟩) (0 + N) newCap)) { w with drawn := w.drawn + 1, heap := w.heap.push (.cells (#[] ++ new ++ Builtin.zeroCells zv.cells (newCap - (0 + N))) e (0, 0)) }) := by
    intro new hnew
    have hst2 := (hst.drew (w.drawn + 1)).alloc (.cells (#[] ++ new ++ Builtin.zeroCells zv.cells (newCap - (0 + N))) e (0, 0))
    refine ⟨_, ⟨w.heap.size, newCap, by rw [Nat.zero_add], rfl, rfl⟩, hst2.exch fun g hg => SlA.some_iff.2 ⟨w.heap.size, (#[] ++ new ++ Builtin.zeroCells zv.cells (newCap - (0 + N))).toList, rfl, by simp, Nat.zero_le _, ?_, by rw [List.nil_append, Array.toArray_toList]; exact hg⟩⟩
    have e2 : newCap * sz = N * sz + (newCap - (0 + N)) * sz := by rw [← Nat.add_mul]; congr 1; omega
    simp [hnew, size_zeroCells, hzs, e2]
  by_cases h0 : N * sz = 0
  · simp only [h0, if_true, Sem.run_pure, Result.andThen_ok]
    exact key #[] (by simpa using h0.symm)
  · simp only [h0, if_false, Sem.run_bind, hZ.zero_run, Sem.run_pure, Result.andThen_ok]
    exact key _ (by rw [size_zeroCells, hzs])
end
end Go.Vc

namespace Go.Vc
abbrev encY (b : ByteArray) : List Value := [.string b]
theorem RdSl.conv {α β : Type} {encE : α → List Value} {encF : β → List Value} {m : Nat} {w0 : World} {sh : Shared} {v : Value} {l : List α} (f : α → β) (hf : ∀ x, encF (f x) = encE x) (h : RdSl w0 sh encE m v l) : RdSl w0 sh encF m v (l.map f) := by
  obtain ⟨a, cap, h1, h2, h3⟩ := h
  refine ⟨a, cap, by rw [List.length_map]; exact h1, by rw [List.length_map]; exact h2, ?_⟩
  rcases h3 with h3 | ⟨b, off, c, T, fr, e, hh, hc⟩
  · exact .inl (by rw [h3]; rfl)
  · refine .inr ⟨b, off, c, T, fr, e, hh, fun i x hx => ?_⟩
    rw [List.getElem?_map] at hx
    cases hy : l[i]? with
    | none => rw [hy] at hx; cases hx
    | some y =>
      rw [hy] at hx
      cases hx
      rw [hf]
      exact hc i y hy
abbrev encB (x : List UInt8) : List Value := [.string (ofB x)]
def unB (l : List ByteArray) : List (List UInt8) := l.map fun b => b.data.toList
theorem unB_map (l : List ByteArray) : (unB l).map ofB = l := by
  induction l with
  | nil => rfl
  | cons x l ih => simp only [unB, List.map_cons, List.map_map] at ih ⊢; rw [ih, ofB_data]
theorem unB_len (l : List ByteArray) : (unB l).length = l.length := List.length_map ..
theorem unB_append (l m : List ByteArray) : unB (l ++ m) = unB l ++ unB m := List.map_append ..
theorem RdSl.toB {w0 : World} {sh : Shared} {v : Value} {l : List ByteArray} (h : RdSl w0 sh encY 1 v l) : RdSl w0 sh encB 1 v (unB l) := h.conv _ fun _ => rfl
theorem strsV_y (l : List (List UInt8)) : strsV l = (l.map ofB).flatMap encY := by
  induction l with
  | nil => rfl
  | cons x l ih => simp only [strsV, List.map_cons, List.flatMap_cons] at ih ⊢; rw [ih]; rfl
theorem strsV_flat (l : List (List UInt8)) : l.flatMap encB = strsV l := by
  induction l with
  | nil => rfl
  | cons x l ih => simp [List.flatMap_cons, ih, strsV]
theorem strsV_one : ∀ l : List (List UInt8), allOne (strsV l) = true
  | [] => rfl
  | _ :: l => strsV_one l
theorem strsV_append (l m : List (List UInt8)) : strsV (l ++ m) = strsV l ++ strsV m := List.map_append ..
abbrev encV (x : Value) : List Value := [x]
section
variable {P : Program} {w0 : World} {n : Nat} {sh : Shared} {Q : Exit → Env → List Deferred → List Asn → Prop} {k : List Item} {ρ : Env} {df : List Deferred} {Γ : List Asn} {φ : Shared → Prop}
theorem run_emptyR (φ : Shared → Prop) (hφ : φ []) (h : Run P w0 n sh Q k ρ df (Rds φ :: Γ)) : Run P w0 n sh Q k ρ df Γ := by
  refine ⟨?_⟩
  intro hF hsh a w ha hn hd hst
  exact h.go hF hsh a w ha hn hd (St.emp_head (Rds.emp hφ) hst)
theorem run_slR {α : Type} (encE : α → List Value) (i : Nat) {q : Nat} {T : TypeId} {a : Option Addr} {len cap : Nat} {l : List α} {cs : List Value} {Γ' : List Asn} (hi : getAt i Γ = some (SlA T q a len cap cs)) (hcs : cs = l.flatMap encE) (hq : ∀ x ∈ l, (encE x).length = q) (hl : l.length = len)
    (hput : putAt i (Rds fun bl => RdSl w0 bl encE q (.slice a len cap) l) Γ = some Γ') (h : Run P w0 n sh Q k ρ df Γ') : Run P w0 n sh Q k ρ df Γ := by
  subst hcs
  exact run_exch i _ hi (fun g hg => Rds.ofSl hq hl g hg) hput h
theorem reg_cap_slice {ops : Array Oper} {l : List (Fl × Nat × Oper)} {b : Fl} {i d : Nat} {ty : TypeId} {pos : String} {aft : Array Edge} {x : Operand} {t e : TypeId} {len cap : Nat} {a : Option Addr} [hT : TUnd P t (.slice e)] (hx : ev ρ x = .slice a len cap) (h : Reg P w0 n sh Q ops l k (ρ.set d (.int .i64 cap)) df Γ) :
    Reg P w0 n sh Q ops ((b, i, ⟨some d, .call ⟨.builtin .cap, #[x], #[t]⟩, ty, pos, aft, none⟩) :: l) k ρ df Γ :=
  reg_quiet rfl (fun hF _ => quiet_of_run fun w => by
    simp [execOp, resolve, invoke, builtin, Builtin.cap_, hx, run_underlying hT.und, goInt]) h
section
variable {ops : Array Oper} {l : List (Fl × Nat × Oper)} {b : Fl} {i d : Nat} {ty yt t : TypeId} {pos : String} {aft : Array Edge} {x y : Operand}
theorem reg_eqYT {u : ByteArray} (hx : ev ρ x = .string u) (hy : ev ρ y = .string u) (h : Reg P w0 n sh Q ops l k (ρ.set d (.bool true)) df Γ) :
    Reg P w0 n sh Q ops ((b, i, ⟨some d, .binOp .eql t x y yt, ty, pos, aft, none⟩) :: l) k ρ df Γ := reg_eqS hx hy (by simpa using h)
theorem reg_eqYF {u v : List UInt8} (hx : ev ρ x = .string (ofB u)) (hy : ev ρ y = .string (ofB v)) (hne : ¬ u = v) (h : Reg P w0 n sh Q ops l k (ρ.set d (.bool false)) df Γ) :
    Reg P w0 n sh Q ops ((b, i, ⟨some d, .binOp .eql t x y yt, ty, pos, aft, none⟩) :: l) k ρ df Γ := reg_eqY hx hy (by rw [decide_eq_false hne]; exact h)
theorem reg_neqYT {u v : List UInt8} (hx : ev ρ x = .string (ofB u)) (hy : ev ρ y = .string (ofB v)) (hne : ¬ u = v) (h : Reg P w0 n sh Q ops l k (ρ.set d (.bool true)) df Γ) :
    Reg P w0 n sh Q ops ((b, i, ⟨some d, .binOp .neq t x y yt, ty, pos, aft, none⟩) :: l) k ρ df Γ := reg_neqY hx hy (by rw [decide_eq_true hne]; exact h)
end
end
end Go.Vc

namespace Go.Vc
def bytesV (s : ByteArray) : List Value := s.data.toList.map fun b => .int .u8 b.toNat
theorem bytesV_rd {s : ByteArray} {spare : List Value} {i : Nat} {b : UInt8} (h : s.data.toList[i]? = some b) (o : Nat) (ho : o = 0 + i * 1) : rd false 1 (List.toArray (bytesV s ++ spare)).toList o = some (.int .u8 (b.toNat : Int)) := by
  refine rd_one (o := i) ?_ o (by omega)
  have h1 : (bytesV s)[i]? = some (.int .u8 (b.toNat : Int)) := by simp only [bytesV, List.getElem?_map, h]; rfl
  have h2 : i < (bytesV s).length := (List.getElem?_eq_some_iff.1 h1).1
  simp only [List.getElem?_toArray]
  rw [List.getElem?_append_left h2]
  exact h1
section
variable {P : Program} {w0 : World} {n : Nat} {sh : Shared} {Q : Exit → Env → List Deferred → List Asn → Prop} {k : List Item} {ρ : Env} {df : List Deferred} {Γ : List Asn}
variable {ops : Array Oper} {l : List (Fl × Nat × Oper)} {b : Fl} {i d : Nat} {ty : TypeId} {pos : String} {aft : Array Edge}
variable {x y : Operand} {src dst t e : TypeId} {s : ByteArray}
theorem reg_bytesS [hs : TUnd P src .string] [hd : TUnd P dst (.slice e)] [he : TUnd P e (.int .u8)] (hx : ev ρ x = .string s)
    (h : ∀ nb cap spare fr, Reg P w0 n sh Q ops l k (ρ.set d (.slice (some ⟨nb, 0, none⟩) s.size cap)) df (pt nb (.cells (List.toArray (bytesV s ++ spare)) e fr) :: Γ)) :
    Reg P w0 n sh Q ops ((Fl.loud, i, ⟨some d, .convert src dst x, ty, pos, aft, none⟩) :: l) k ρ df Γ := by
  refine reg_loud rfl (fun v' df' Γ'' => ∃ nb cap spare fr, v' = .slice (some ⟨nb, 0, none⟩) s.size cap ∧ df' = df ∧ Γ'' = pt nb (.cells (List.toArray (bytesV s ++ spare)) e fr) :: Γ) (fun hF _ w hst => ?_)
    (fun v' df' Γ'' ⟨nb, cap, spare, fr, h1, h2, h3⟩ => by subst h1; subst h2; subst h3; exact h nb cap spare fr)
  have hr := Lib.run_convert_string_bytes (P := P) w src dst e s hs.und hd.und he.und
  simp only [execOp, hx, Sem.run_bind, hr, Result.andThen_ok, Sem.run_pure]
  have e1 : Lib.bytesCells w e s = List.toArray (bytesV s ++ List.replicate (grownCap w s.size 0 e - s.size) (.int .u8 0)) := by
    simp only [Lib.bytesCells, bytesV]
    apply Array.ext'
    simp
  have hst1 := hst.alloc (.cells (List.toArray (bytesV s ++ List.replicate (grownCap w s.size 0 e - s.size) (.int .u8 0))) e ((Lib.bytesCells w e s).size, (Lib.bytesCells w e s).size + 1))
  refine ⟨_, ⟨w.heap.size, _, _, _, rfl, rfl, rfl⟩, hst1.same rfl rfl rfl ?_⟩
  apply Array.ext_getElem?
  intro j
  show (Lib.bytesWorld w e s).heap[j]? = (w.heap.push _)[j]?
  rcases Nat.lt_trichotomy j w.heap.size with hj | hj | hj
  · rw [Lib.bytesWorld_at_old w e s j hj, Array.getElem?_push, if_neg (by omega)]
  · subst hj
    rw [Lib.bytesWorld_at_new, Array.getElem?_push, if_pos rfl, e1]
  · rw [Array.getElem?_eq_none (by rw [Lib.bytesWorld_size]; omega), Array.getElem?_eq_none (by simp; omega)]
theorem reg_slice_arr {agg : Bool} {m sz bb : Nat} [hT : TUnd P t (.array m e)] [hS : TShape P e agg sz] (hx : ev ρ x = .pointer (some ⟨bb, 0, none⟩)) (hm : 0 < m)
    (h : Reg P w0 n sh Q ops l k (ρ.set d (.slice (some ⟨bb, 0, none⟩) m m)) df Γ) :
    Reg P w0 n sh Q ops ((b, i, ⟨some d, .slice t x none none none, ty, pos, aft, none⟩) :: l) k ρ df Γ :=
  reg_quiet rfl (fun hF _ => quiet_of_run fun w => by
    have hne : ¬ m = 0 := by omega
    simp only [execOp, hx, Option.map_none, Instr.sliceAt, Instr.sureAddr, Sem.run_bind, run_underlying hT.und, Result.andThen_ok, Instr.sliceBounds, Sem.run_pure, hS.size_run, hne, if_false, Nat.zero_mul, Nat.sub_zero]
    rfl) h
end
end Go.Vc

namespace Go.Vc
section
variable {P : Program} {w0 : World} {n : Nat} {sh : Shared} {Q : Exit → Env → List Deferred → List Asn → Prop} {k : List Item} {ρ : Env} {df : List Deferred} {Γ : List Asn}
variable {ops : Array Oper} {l : List (Fl × Nat × Oper)} {b : Fl} {i d : Nat} {ty : TypeId} {pos : String} {aft : Array Edge}
variable {x y : Operand} {t yt : TypeId} {u v : ByteArray}
theorem reg_eqST (hx : ev ρ x = .string u) (hy : ev ρ y = .string v) (he : u = v) (h : Reg P w0 n sh Q ops l k (ρ.set d (.bool true)) df Γ) :
    Reg P w0 n sh Q ops ((b, i, ⟨some d, .binOp .eql t x y yt, ty, pos, aft, none⟩) :: l) k ρ df Γ := reg_eqS hx hy (by rw [decide_eq_true he]; exact h)
theorem reg_eqSF (hx : ev ρ x = .string u) (hy : ev ρ y = .string v) (he : ¬ u = v) (h : Reg P w0 n sh Q ops l k (ρ.set d (.bool false)) df Γ) :
    Reg P w0 n sh Q ops ((b, i, ⟨some d, .binOp .eql t x y yt, ty, pos, aft, none⟩) :: l) k ρ df Γ := reg_eqS hx hy (by rw [decide_eq_false he]; exact h)
theorem reg_neSF (hx : ev ρ x = .string u) (hy : ev ρ y = .string v) (he : u = v) (h : Reg P w0 n sh Q ops l k (ρ.set d (.bool false)) df Γ) :
    Reg P w0 n sh Q ops ((b, i, ⟨some d, .binOp .neq t x y yt, ty, pos, aft, none⟩) :: l) k ρ df Γ := reg_neS hx hy (by rw [decide_eq_false (by simpa using he)]; exact h)
theorem Fn.lendR {f : FuncId} {args : List Value} {φ : Shared → Prop} {R : Value → List Asn → Prop} (hen : Enters P f) (h : ∀ sh' bl, (∀ p ∈ sh, p ∈ sh') → (∀ p ∈ bl, p ∈ sh') → φ bl → Fn P w0 sh' f args Γ R) :
    Fn P w0 sh f args (Rds φ :: Γ) fun r Γ' => ∃ Γ'', R r Γ'' ∧ Γ' = Γ'' ++ [Rds φ] := by
  refine ⟨hen, fun hF w hsh hst => ?_⟩
  have h1 : St w0 hF (Γ ++ [Rds φ]) w := hst.perm (List.perm_append_comm (l₁ := [_]))
  obtain ⟨g, hg, hdj, hst2⟩ := h1.split
  obtain ⟨bl, hb1, hb2⟩ := Stars.one.1 hg
  have hsub : ∀ c oc, hF c = some oc → (g.or hF) c = some oc := fun c oc hc => by
    rcases hdj c with e | e
    · simp [Heap.or, e, hc]
    · rw [e] at hc; cases hc
  refine ((h (bl ++ sh) bl (fun p hp => List.mem_append_right _ hp) (fun p hp => List.mem_append_left _ hp) hb2).calls _ w (fun p hp => ?_) hst2).mono ?_
  · rcases List.mem_append.1 hp with hp | hp
    · exact or_left (hb1 p hp)
    · exact hsub _ _ (hsh p hp)
  · rintro e w' ⟨r, Γ', he, h4, h5⟩
    exact ⟨r, _, he, ⟨Γ', h4, rfl⟩, h5.join (Stars.one.2 ⟨bl, hb1, hb2⟩) hdj⟩
end
end Go.Vc
namespace Sim
theorem size_bs {s : ByteArray} : s.size = 0 ↔ s = ⟨#[]⟩ := by
  constructor
  · intro h
    obtain ⟨a⟩ := s
    have : a.size = 0 := h
    rw [Array.eq_empty_of_size_eq_zero this]
  · intro h; subst h; rfl
end Sim
namespace Go.Vc
section
variable {P : Program} {w0 : World} {n : Nat} {sh : Shared} {Q : Exit → Env → List Deferred → List Asn → Prop} {k : List Item} {ρ : Env} {df : List Deferred} {Γ : List Asn}
variable {ops : Array Oper} {l : List (Fl × Nat × Oper)} {b : Fl} {i d : Nat} {ty : TypeId} {pos : String} {aft : Array Edge}
variable {x y : Operand} {t yt : TypeId} {u : ByteArray}
theorem reg_eqS0 (hx : ev ρ x = .string u) (hy : ev ρ y = .string ⟨#[]⟩) (h : Reg P w0 n sh Q ops l k (ρ.set d (.bool (decide (u.size = 0)))) df Γ) :
    Reg P w0 n sh Q ops ((b, i, ⟨some d, .binOp .eql t x y yt, ty, pos, aft, none⟩) :: l) k ρ df Γ := reg_eqS hx hy (by rw [show decide (u = ⟨#[]⟩) = decide (u.size = 0) from by simp only [Sim.size_bs]]; exact h)
theorem reg_neS0 (hx : ev ρ x = .string u) (hy : ev ρ y = .string ⟨#[]⟩) (h : Reg P w0 n sh Q ops l k (ρ.set d (.bool (decide (¬ u.size = 0)))) df Γ) :
    Reg P w0 n sh Q ops ((b, i, ⟨some d, .binOp .neq t x y yt, ty, pos, aft, none⟩) :: l) k ρ df Γ := reg_neS hx hy (by rw [show decide (u ≠ ⟨#[]⟩) = decide (¬ u.size = 0) from by simp only [Sim.size_bs, ne_eq]]; exact h)
end
end Go.Vc
namespace Go.Vc
theorem Fn.know {P : Program} {w0 : World} {sh : Shared} {f : FuncId} {args : List Value} {Γ : List Asn} {R R' : Value → List Asn → Prop} (h : Fn P w0 sh f args Γ R)
    (hr : ∀ v Γ', R v Γ' → (∃ hF w, St w0 hF Γ' w) → R' v Γ') : Fn P w0 sh f args Γ R' :=
  ⟨h.enters, fun hF w hsh hst => (h.calls hF w hsh hst).mono fun _ _ ⟨v, Γ', h1, h2, h3⟩ => ⟨v, Γ', h1, hr _ _ h2 ⟨_, _, h3⟩, h3⟩⟩
theorem Rds.st {w0 : World} {φ : Shared → Prop} {Γ : List Asn} (h : ∃ hF w, St w0 hF (Rds φ :: Γ) w) : ∃ bl, φ bl := by
  obtain ⟨hF, w, h⟩ := h
  obtain ⟨g, ⟨bl, _, hb⟩, _⟩ := h.head
  exact ⟨bl, hb⟩
end Go.Vc

namespace Go.Vc
section
variable {P : Program} {w0 : World} {n : Nat} {sh : Shared} {Q : Exit → Env → List Deferred → List Asn → Prop} {k : List Item} {ρ : Env} {df : List Deferred} {Γ : List Asn}
variable {ops : Array Oper} {l : List (Fl × Nat × Oper)} {b : Fl} {i d : Nat} {ty : TypeId} {pos : String} {aft : Array Edge}
variable {x y z : Operand} {t kt et : TypeId} {kd : IntKind} {r : Nat} {a : Int} {ml : List (Int × Value)}
theorem reg_insert (j : Nat) {Γ' : List Asn} {u : Value} {dst : Option Tmp} [hT : TUnd P t (.map kt et)] [hK : TUnd P kt (.int kd)] (hx : ev ρ x = .map (some r)) (hy : ev ρ y = .int .i64 a) (hz : ev ρ z = u)
    (hj : getAt j Γ = some (pt r (mapI ml))) (hput : putAt j (pt r (mapI (ins ml a u))) Γ = some Γ')
    (h : Reg P w0 n sh Q ops l k (ρ.setO dst undef) df Γ') : Reg P w0 n sh Q ops ((Fl.loud, i, ⟨dst, .insert t x y z, ty, pos, aft, none⟩) :: l) k ρ df Γ := by
  refine reg_loud rfl (fun v' df' Γ'' => v' = undef ∧ df' = df ∧ Γ'' = Γ') (fun hF _ w hst => ?_) (fun v' df' Γ' ⟨h1, h2, h3⟩ => by subst h1; subst h2; subst h3; exact h)
  obtain ⟨rr, hp1, hp2⟩ := putAt_perm hj hput
  have hst1 := hst.perm hp1
  simp only [execOp, hx, hy, hz, Sem.run_bind, mapUpdate_run hT.und hK.und hst1.get.2, Sem.run_pure, Result.andThen_ok]
  have hlt := hst1.lt
  exact ⟨Γ', ⟨rfl, rfl, rfl⟩, (St.upd (w' := { w with heap := w.heap.setIfInBounds r (mapI (ins ml a u)) }) hst1 rfl rfl rfl (by simp) (by simp [hlt]) (fun x hx => by simp [Array.getElem?_setIfInBounds_ne (Ne.symm hx)])).perm hp2⟩
end
end Go.Vc

namespace Go.Vc
section
variable {P : Program} {w0 : World} {n : Nat} {sh : Shared} {Q : Exit → Env → List Deferred → List Asn → Prop} {k : List Item} {ρ : Env} {df : List Deferred} {Γ : List Asn} {φ : Shared → Prop}
theorem run_sub {sh' : Shared} (hs : ∀ p ∈ sh, p ∈ sh') (h : Run P w0 n sh Q k ρ df Γ) : Run P w0 n sh' Q k ρ df Γ := ⟨fun hF hsh => h.go hF fun p hp => hsh p (hs p hp)⟩
theorem run_shareB (is : List Nat) {Γr : List Asn} (hp : pick is Γ = some ([Rds φ], Γr)) (h : ∀ bl, φ bl → Run P w0 n (sh ++ bl) Q k ρ df Γr) : Run P w0 n sh Q k ρ df Γ :=
  run_shareR is hp fun _ bl h1 h2 h3 => run_sub (fun p hp => (List.mem_append.1 hp).elim (h1 p) (h2 p)) (h bl h3)
end
end Go.Vc
namespace Go.Vc
end Go.Vc

namespace Go.Vc
section
variable {H : Type} {enc : TypeId × Value → H} {P : Program} {w : World} {base : Nat} {spare : Nat → Bool} {held : Bool} {t e : TypeId}
theorem in_sliceT {α : Type} (encE : α → List Value) (φ : α → Prop) {m : Nat} (ht : P.underlying t = some (.slice e)) (hm : P.cellsOf e = m) (hm0 : 0 < m)
    (hE : ∀ (n : Nat) (cs : List Value) (y : DataW H × List MemPlace), DataW.trod enc P w base spare held n e cs = some y → ∃ x, φ x ∧ cs = encE x) {fuel : Nat} {cs0 : List Value} {y0 : DataW H × List MemPlace} (hf : DataW.trod enc P w base spare held fuel t cs0 = some y0) :
    ∃ v l, cs0 = [v] ∧ InSl w encE m v l ∧ (∀ x ∈ l, φ x) ∧ ((∀ q ∈ y0.1.weights P t, q ≤ reachBytes) → l.length * P.bytesOf e ≤ reachBytes) := by
  rcases DataW.trod_slice ht hf with ⟨hcs, _⟩ | ⟨a, len, cap, elems, rest, n, _, hcs, hy0, _, hle, hcap, hlen, hel, _, _⟩
  · exact ⟨_, [], hcs, ⟨none, 0, rfl, by simp, .inl rfl⟩, by simp, fun _ => by simp⟩
  · have key : ∀ i, i < len → ∃ x, φ x ∧ (encE x).length = m ∧ ∀ k, k < m → w.cell? ((a.add (i * m)).add k) = (encE x)[k]? := fun i hi => by
      have h1 := hel i hi
      have h2 : (elems[i]?).isSome := by simp; omega
      rw [← h1, hm] at h2
      cases hc : w.cells? base (a.add (i * m)) m with
      | none => rw [hc] at h2; simp at h2
      | some cs =>
        rw [hc] at h2
        simp only [Option.bind_some] at h2
        obtain ⟨y, hy⟩ := Option.isSome_iff_exists.1 h2
        obtain ⟨x, hx1, hx2⟩ := hE n cs y hy
        subst hx2
        obtain ⟨h3, h4⟩ := cells_inv hc
        exact ⟨x, hx1, h3, h4⟩
    obtain ⟨l, hl1, hl2⟩ := choose_list len key
    refine ⟨_, l, hcs, ⟨some a, cap, by rw [hl1], ⟨by omega, by omega⟩, ?_⟩, fun x hx => ?_, fun hq => ?_⟩
    · cases l with
      | nil => exact .inl rfl
      | cons x0 l0 =>
        right
        obtain ⟨_, hx1, hx2⟩ := hl2 0 x0 rfl
        have h0 := hx2 0 hm0
        rw [List.getElem?_eq_getElem (by omega)] at h0
        have ha : (a.add (0 * m)).add 0 = a := by simp [Addr.add]
        rw [ha] at h0
        obtain ⟨c, T, fr, ea, hh, _⟩ := cell_inv h0
        refine ⟨a.block, a.off, c, T, fr, congrArg some ea, hh, fun i x hx => ?_⟩
        obtain ⟨_, h5, h6⟩ := hl2 i x hx
        refine ⟨h5, fun k u hu => ?_⟩
        have hk := (List.getElem?_eq_some_iff.1 hu).1
        have h7 := h6 k (by omega)
        rw [hu] at h7
        have e2 : (a.add (i * m)).add k = ⟨a.block, a.off + (i * m + k), none⟩ := by
          rw [ea]
          simp only [Addr.add]
          split <;> split <;> simp <;> omega
        rw [e2] at h7
        obtain ⟨c2, T2, fr2, _, hh2, hc2⟩ := cell_inv h7
        simp only at hh2 hc2
        rw [hh] at hh2
        cases hh2
        exact hc2
    · obtain ⟨i, hi⟩ := List.mem_iff_getElem?.1 hx
      exact (hl2 i x hi).1
    · have h1 := hq ((elems.length + rest.length) * P.bytesOf e) (by rw [hy0]; simp [DataW.weights, ht])
      have h2 : l.length * P.bytesOf e ≤ (elems.length + rest.length) * P.bytesOf e := Nat.mul_le_mul_right _ (by omega)
      exact Nat.le_trans h2 h1

def szP (s : ByteArray) : Prop := s.size ≤ maxLen
theorem in_strsT (ht : P.underlying t = some (.slice e)) (he : P.underlying e = some .string) (hm : P.cellsOf e = 1) {fuel : Nat} {cs0 : List Value} {y0 : DataW H × List MemPlace} (hf : DataW.trod enc P w base spare held fuel t cs0 = some y0) :
    ∃ v l, cs0 = [v] ∧ InSl w encY 1 v l ∧ (∀ x ∈ l, szP x) ∧ ((∀ q ∈ y0.1.weights P t, q ≤ reachBytes) → l.length * P.bytesOf e ≤ reachBytes) :=
  in_sliceT encY szP ht hm (by decide) (fun n cs y hy => by
    obtain ⟨s, h1, _, h2⟩ := DataW.trod_string he hy
    exact ⟨s, h2, h1⟩) hf
end
end Go.Vc

namespace Go.Vc
section
variable {P : Program} {w0 : World} {n : Nat} {sh : Shared} {Q : Exit → Env → List Deferred → List Asn → Prop} {k : List Item} {ρ : Env} {df : List Deferred} {Γ : List Asn}
variable {ops : Array Oper} {l : List (Fl × Nat × Oper)} {b : Fl} {i d : Nat} {ty : TypeId} {pos : String} {aft : Array Edge}
variable {x y : Operand} {t yt : TypeId} {u v : ByteArray}
end
end Go.Vc

namespace Go.Vc
theorem weightsAll_mem {H : Type} {P : Program} {e : TypeId} {d : DataW H} {q : Nat} : ∀ {l : List (DataW H)}, d ∈ l → q ∈ d.weights P e → q ∈ DataW.weightsAll P e l
  | [], h, _ => by simp at h
  | x :: l, h, hq => by
    unfold DataW.weightsAll
    rcases List.mem_cons.1 h with rfl | h
    · exact List.mem_append_left _ hq
    · exact List.mem_append_right _ (weightsAll_mem h hq)
section
variable {H : Type} {enc : TypeId × Value → H} {P : Program} {w : World} {base : Nat} {spare : Nat → Bool} {held : Bool} {t e : TypeId}
theorem in_sliceF {α : Type} (encE : α → List Value) (φ : α → Prop) {m : Nat} (ht : P.underlying t = some (.slice e)) (hm : P.cellsOf e = m) (hm0 : 0 < m)
    {fuel : Nat} {cs0 : List Value} {y0 : DataW H × List MemPlace} (hf : DataW.trod enc P w base spare held fuel t cs0 = some y0) (hq : ∀ q ∈ y0.1.weights P t, q ≤ reachBytes)
    (hE : ∀ (n : Nat), n < fuel → ∀ (cs : List Value) (y : DataW H × List MemPlace), DataW.trod enc P w base spare held n e cs = some y → (∀ q ∈ y.1.weights P e, q ≤ reachBytes) → ∃ x, φ x ∧ cs = encE x) :
    ∃ v l, cs0 = [v] ∧ InSl w encE m v l ∧ (∀ x ∈ l, φ x) ∧ l.length * P.bytesOf e ≤ reachBytes := by
  rcases DataW.trod_slice ht hf with ⟨hcs, _⟩ | ⟨a, len, cap, elems, rest, n, hfu, hcs, hy0, _, hle, hcap, hlen, hel, _, _⟩
  · exact ⟨_, [], hcs, ⟨none, 0, rfl, by simp, .inl rfl⟩, by simp, by simp⟩
  · have key : ∀ i, i < len → ∃ x, φ x ∧ (encE x).length = m ∧ ∀ k, k < m → w.cell? ((a.add (i * m)).add k) = (encE x)[k]? := fun i hi => by
      have h1 := hel i hi
      have h2 : (elems[i]?).isSome := by simp; omega
      rw [← h1, hm] at h2
      cases hc : w.cells? base (a.add (i * m)) m with
      | none => rw [hc] at h2; simp at h2
      | some cs =>
        rw [hc] at h2
        simp only [Option.bind_some] at h2
        obtain ⟨y, hy⟩ := Option.isSome_iff_exists.1 h2
        obtain ⟨x, hx1, hx2⟩ := hE n (by omega) cs y hy (fun q hqq => hq q (by
          rw [hm, hc, Option.bind_some, hy] at h1
          rw [hy0]
          simp only [DataW.weights, ht]
          exact List.mem_cons_of_mem _ (List.mem_append_left _ (weightsAll_mem (List.mem_map_of_mem (List.mem_iff_getElem?.2 ⟨i, h1.symm⟩)) hqq))))
        subst hx2
        obtain ⟨h3, h4⟩ := cells_inv hc
        exact ⟨x, hx1, h3, h4⟩
    obtain ⟨l, hl1, hl2⟩ := choose_list len key
    refine ⟨_, l, hcs, ⟨some a, cap, by rw [hl1], ⟨by omega, by omega⟩, ?_⟩, fun x hx => ?_, ?_⟩
    · cases l with
      | nil => exact .inl rfl
      | cons x0 l0 =>
        right
        obtain ⟨_, hx1, hx2⟩ := hl2 0 x0 rfl
        have h0 := hx2 0 hm0
        rw [List.getElem?_eq_getElem (by omega)] at h0
        have ha : (a.add (0 * m)).add 0 = a := by simp [Addr.add]
        rw [ha] at h0
        obtain ⟨c, T, fr, ea, hh, _⟩ := cell_inv h0
        refine ⟨a.block, a.off, c, T, fr, congrArg some ea, hh, fun i x hx => ?_⟩
        obtain ⟨_, h5, h6⟩ := hl2 i x hx
        refine ⟨h5, fun k u hu => ?_⟩
        have hk := (List.getElem?_eq_some_iff.1 hu).1
        have h7 := h6 k (by omega)
        rw [hu] at h7
        have e2 : (a.add (i * m)).add k = ⟨a.block, a.off + (i * m + k), none⟩ := by
          rw [ea]
          simp only [Addr.add]
          split <;> split <;> simp <;> omega
        rw [e2] at h7
        obtain ⟨c2, T2, fr2, _, hh2, hc2⟩ := cell_inv h7
        simp only at hh2 hc2
        rw [hh] at hh2
        cases hh2
        exact hc2
    · obtain ⟨i, hi⟩ := List.mem_iff_getElem?.1 hx
      exact (hl2 i x hi).1
    · have h1 := hq ((elems.length + rest.length) * P.bytesOf e) (by rw [hy0]; simp [DataW.weights, ht])
      have h2 : l.length * P.bytesOf e ≤ (elems.length + rest.length) * P.bytesOf e := Nat.mul_le_mul_right _ (by omega)
      exact Nat.le_trans h2 h1

theorem in_strW (ht : P.underlying t = some .string) {fuel : Nat} {cs : List Value} {y : DataW H × List MemPlace} (h : DataW.trod enc P w base spare held fuel t cs = some y) (hq : ∀ q ∈ y.1.weights P t, q ≤ reachBytes) : ∃ s : ByteArray, cs = [.string s] ∧ s.size ≤ reachBytes := by
  obtain ⟨s, h1, h2, _⟩ := DataW.trod_string ht h
  refine ⟨s, h1, hq _ ?_⟩
  rw [h2]
  simp [DataW.weights]
end
end Go.Vc

namespace Go.Vc
section
variable {P : Program} {w0 : World} {n : Nat} {sh : Shared} {Q : Exit → Env → List Deferred → List Asn → Prop} {k : List Item} {ρ : Env} {df : List Deferred} {Γ : List Asn}
variable {ops : Array Oper} {rest : List (Fl × Nat × Oper)} {b : Fl} {i d : Nat} {ty : TypeId} {pos : String} {aft : Array Edge} {x : Operand}
variable {α : Type} {encE : α → List Value} {m : Nat} {l : List α}
theorem RdSl.head {a : Option Addr} {cap q : Nat} (h : RdSl w0 sh encE m (.slice a l.length cap) l) (hq : q ≤ l.length) : RdSl w0 sh encE m (.slice a q cap) (l.take q) := by
  obtain ⟨a', cap', h1, h0, h2⟩ := h
  cases h1
  have hl : (l.take q).length = q := by rw [List.length_take]; omega
  refine ⟨a, cap, by rw [hl], by omega, ?_⟩
  rcases h2 with rfl | ⟨b, off, c, T, fr, e, hh, hc⟩
  · exact .inl (by simp)
  · refine .inr ⟨b, off, c, T, fr, e, hh, fun i x hx => ?_⟩
    rw [List.getElem?_take] at hx
    split at hx
    · exact hc i x hx
    · cases hx
def midV (a : Option Addr) (cap sz q r : Nat) : Value := .slice (if cap = q then a else a.map (·.add (q * sz))) r (cap - q)
theorem RdSl.mid {a : Option Addr} {cap q r : Nat} (h : RdSl w0 sh encE m (.slice a l.length cap) l) (hq : q + r ≤ l.length) : RdSl w0 sh encE m (midV a cap m q r) ((l.drop q).take r) := by
  have h1 := h.tail (q := q) (by omega)
  unfold tailV at h1
  rw [show l.length - q = (l.drop q).length by rw [List.length_drop]] at h1
  exact h1.head (by rw [List.length_drop]; omega)
end
end Go.Vc

namespace Go.Vc
def BornOk (es : List MapEntry) (clock : Nat) : Prop := (es.map (·.born)).Nodup ∧ ∀ e ∈ es, e.born < clock
def MapB (r : Nat) (l : SM) : Asn := fun h => ∃ es clock, h = Heap.one r (.map es.toArray clock) ∧ EsOk es l ∧ BornOk es clock
theorem mapB_make (nb : Nat) : ∀ g, pt nb (mapI []) g → MapB nb [] g := fun _ hg => ⟨[], 0, hg, rfl, List.nodup_nil, fun _ h => by cases h⟩
theorem modify_born {f : MapEntry → MapEntry} (hf : ∀ e, (f e).born = e.born) : ∀ (es : List MapEntry) (j : Nat), (es.modify j f).map (·.born) = es.map (·.born)
  | [], j => by simp
  | e :: es, 0 => by simp [hf]
  | e :: es, j + 1 => by simp [modify_born hf es j]
theorem BornOk.modify {es : List MapEntry} {clock j : Nat} {f : MapEntry → MapEntry} (h : BornOk es clock) (hf : ∀ e, (f e).born = e.born) : BornOk (es.modify j f) clock := by
  have hm := modify_born hf es j
  refine ⟨by rw [hm]; exact h.1, fun e he => ?_⟩
  have : e.born ∈ (es.modify j f).map (·.born) := List.mem_map_of_mem he
  rw [hm] at this
  obtain ⟨e', h1, h2⟩ := List.mem_map.1 this
  rw [← h2]; exact h.2 e' h1
theorem BornOk.push {es : List MapEntry} {clock : Nat} (h : BornOk es clock) (k v : Value) : BornOk (es ++ [{ key := k, val := v, born := clock }]) (clock + 1) := by
  refine ⟨?_, fun e he => ?_⟩
  · rw [List.map_append, List.nodup_append]
    refine ⟨h.1, by simp, fun a ha b hb e => ?_⟩
    rw [List.map_singleton, List.mem_singleton] at hb
    have hb : b = clock := hb
    obtain ⟨x, hx, rfl⟩ := List.mem_map.1 ha
    have := h.2 x hx
    omega
  · rcases List.mem_append.1 he with he | he
    · have := h.2 e he; omega
    · rw [List.mem_singleton.1 he]; exact Nat.lt_succ_self _
theorem BornOk.erase {es : List MapEntry} {clock j : Nat} (h : BornOk es clock) : BornOk (es.eraseIdx j) clock := by
  have hs := List.eraseIdx_sublist es j
  exact ⟨(hs.map (·.born)).nodup h.1, fun e he => h.2 e (hs.subset he)⟩
theorem modify_congr {f g : MapEntry → MapEntry} : ∀ {es : List MapEntry} {j : Nat}, (∀ e, es[j]? = some e → f e = g e) → es.modify j f = es.modify j g
  | [], j, _ => by simp
  | e :: es, 0, h => by simp only [List.modify_zero_cons]; rw [h e rfl]
  | e :: es, j + 1, h => by simp only [List.modify_succ_cons]; rw [modify_congr fun e' he => h e' (by simpa using he)]
theorem modify_keep {f : MapEntry → MapEntry} : ∀ {es : List MapEntry} {j : Nat}, (∀ e, es[j]? = some e → f e = e) → es.modify j f = es
  | [], j, _ => by simp
  | e :: es, 0, h => by simp only [List.modify_zero_cons]; rw [h e rfl]
  | e :: es, j + 1, h => by simp only [List.modify_succ_cons]; rw [modify_keep fun e' he => h e' (by simpa using he)]
theorem modify_last {f : MapEntry → MapEntry} (x : MapEntry) : ∀ (es : List MapEntry), (es ++ [x]).modify es.length f = es ++ [f x]
  | [] => rfl
  | e :: es => by simp [modify_last x es]
theorem findBorn : ∀ {es : List MapEntry} {j : Nat} {e : MapEntry}, (es.map (·.born)).Nodup → es[j]? = some e → es.findIdx? (fun x => ((x.born : Int) == (e.born : Int))) = some j
  | [], j, e, _, h => by simp at h
  | x :: es, 0, e, _, h => by
    simp at h; subst h
    rw [List.findIdx?_cons, if_pos (beq_iff_eq.2 rfl)]
  | x :: es, j + 1, e, hn, h => by
    rw [List.map_cons, List.nodup_cons] at hn
    have hm : e.born ∈ es.map (·.born) := List.mem_map_of_mem (List.mem_of_getElem? (by simpa using h))
    have hne : ¬ x.born = e.born := fun q => hn.1 (q ▸ hm)
    have ih := findBorn hn.2 (show es[j]? = some e by simpa using h)
    rw [List.findIdx?_cons, if_neg (fun q => hne (by have h2 := beq_iff_eq.1 q; omega)), ih]
    rfl
def MapE (r : Nat) (l : SM) (a : ByteArray) (st : Nat) : Asn := fun h => ∃ es clock j e, h = Heap.one r (.map es.toArray clock) ∧ BornOk es clock ∧ es[j]? = some e ∧ e.born = st ∧ ∀ u, EsOk (es.modify j fun x => { x with val := u }) (insS l a u)
section
variable {P : Program} {w0 : World} {n : Nat} {sh : Shared} {Q : Exit → Env → List Deferred → List Asn → Prop} {k : List Item} {ρ : Env} {df : List Deferred} {Γ : List Asn} {hF : Heap}
variable {ops : Array Oper} {l : List (Fl × Nat × Oper)} {b : Fl} {i d : Nat} {ty : TypeId} {pos : String} {aft : Array Edge}
variable {x y z : Operand} {t kt et : TypeId} {r : Nat} {a : ByteArray} {ml : SM} {zv : Value}
theorem mapEntry_run {w : World} {es : List MapEntry} {clock : Nat} (hE : EsOk es ml) (hB : BornOk es clock) (hm : P.underlying t = some (.map kt et)) (hk : P.underlying kt = some .string) (hz : ∀ w, (zeroValue et).run P w = .ok zv w) (h : w.heap[r]? = some (.map es.toArray clock)) :
    ∃ (es' : List MapEntry) (clock' st : Nat), BornOk es' clock' ∧ (∃ j e, es'[j]? = some e ∧ e.born = st ∧ ∀ u, EsOk (es'.modify j fun x => { x with val := u }) (insS ml a u)) ∧
      (Instr.mapEntry t (.map (some r)) (.string a)).run P w = .ok (.tuple #[(lookS ml a).getD zv, goInt st]) { w with heap := w.heap.setIfInBounds r (.map es'.toArray clock') } := by
  have hck : ∀ em, (Instr.checkKey em 10000 kt (.string a)).run P w = .ok () w := fun em => run_checkKeyS hk em 9999
  have hp := placeS_some ml a 0
  have hset : ∀ (es2 : Array MapEntry) (c : Nat), (setObj r (.map es2 c)).run P w = .ok () { w with heap := w.heap.setIfInBounds r (.map es2 c) } := fun es2 c => by
    simp only [setObj, Sem.run, h]
  simp only [Instr.mapEntry, Sem.run_bind, run_underlying hm, Result.andThen_ok, run_getMap h]
  simp only [Result.andThen_ok, hck, run_findKeyS hk hE]
  cases hl : lookS ml a with
  | none =>
    rw [hl] at hp
    have : placeS ml a 0 = none := by cases hpp : placeS ml a 0 with | none => rfl | some m => rw [hpp] at hp; cases hp
    refine ⟨es ++ [{ key := .string a, val := zv, born := clock }], clock + 1, clock, hB.push _ _, ⟨es.length, { key := .string a, val := zv, born := clock }, by simp, rfl, fun u => ?_⟩, ?_⟩
    · rw [modify_last, insS_none ml a u hl]
      exact hE.push a u clock
    · simp only [this, Option.bind_none, hset, Sem.run_bind, hz, Result.andThen_ok, Sem.run_pure, Option.getD_none]
      congr 2
      simp
  | some v =>
    rw [hl] at hp
    obtain ⟨m, hm'⟩ : ∃ m, placeS ml a 0 = some m := by cases hpp : placeS ml a 0 with | none => rw [hpp] at hp; cases hp | some m => exact ⟨m, rfl⟩
    obtain ⟨j, h1, ⟨e, h2, h2'⟩, h3, _⟩ := placeS_spec a ml es 0 m hE hm'
    simp only [Nat.zero_add] at h1
    subst h1
    have hstay : (Instr.keyThatStays (.string a) (.string a)).run P w = .ok (.string a) w := by
      simp [Instr.keyThatStays, Instr.sameBits, str_beq]
    have hkeep : es.modify m (fun e => { e with key := .string a }) = es := modify_keep fun e' he' => by
      rw [h2] at he'; injection he' with he'; subst he'
      rw [← h2']
    refine ⟨es, clock, e.born, hB, ⟨m, e, h2, rfl, fun u => ?_⟩, ?_⟩
    · rw [modify_congr (g := fun x => { x with key := .string a, val := u }) fun e' he' => ?_]
      · exact h3 u
      · rw [h2] at he'; injection he' with he'; subst he'
        rw [← h2']
    · simp only [hm', Option.bind_some, Option.map_some]
      simp only [List.getElem?_toArray, h2, Option.map_some, Option.getD_some, h2', Sem.run_bind, hstay, Result.andThen_ok, hset, Sem.run_pure, List.modify_toArray, hkeep]
theorem entryStore_run {w : World} {es : List MapEntry} {clock j : Nat} {e : MapEntry} {u : Value} (hB : BornOk es clock) (hj : es[j]? = some e) (h : w.heap[r]? = some (.map es.toArray clock)) :
    (Instr.entryStore t (.map (some r)) (goInt e.born) u).run P w = .ok () { w with heap := w.heap.setIfInBounds r (.map (es.modify j fun x => { x with val := u }).toArray clock) } := by
  have hset : ∀ (es2 : Array MapEntry) (c : Nat), (setObj r (.map es2 c)).run P w = .ok () { w with heap := w.heap.setIfInBounds r (.map es2 c) } := fun es2 c => by
    simp only [setObj, Sem.run, h]
  have hf : es.toArray.findIdx? (fun x => ((x.born : Int) == (e.born : Int))) = some j := by
    rw [List.findIdx?_toArray]; exact findBorn hB.1 hj
  simp only [Instr.entryStore, Sem.run_bind, run_getMap h, Result.andThen_ok, goInt, asInt, asIntOf, Sem.run_pure, hf, hset, List.modify_toArray]
theorem reg_mapEntryB (j : Nat) {Γ2 : Nat → List Asn} [hT : TUnd P t (.map kt et)] [hK : TUnd P kt .string] [hZ : TZeroV P et zv] (hx : ev ρ x = .map (some r)) (hy : ev ρ y = .string a)
    (hj : getAt j Γ = some (MapB r ml)) (hput : ∀ st, putAt j (MapE r ml a st) Γ = some (Γ2 st))
    (h : ∀ st : Nat, Reg P w0 n sh Q ops l k (ρ.set d (.tuple #[(lookS ml a).getD zv, goInt st])) df (Γ2 st)) : Reg P w0 n sh Q ops ((Fl.loud, i, ⟨some d, .mapEntry t x y, ty, pos, aft, none⟩) :: l) k ρ df Γ := by
  refine reg_loud rfl (fun v' df' Γ'' => ∃ st : Nat, v' = .tuple #[(lookS ml a).getD zv, goInt st] ∧ df' = df ∧ Γ'' = Γ2 st) (fun hF _ w hst => ?_) (fun v' df' Γ' ⟨st, h1, h2, h3⟩ => by subst h1; subst h2; subst h3; exact h st)
  obtain ⟨rr, hp⟩ := getAt_perm hj
  obtain ⟨g, ⟨es, clock, hg, hE, hB0⟩, hB⟩ := (hst.perm hp).head
  have hst1 := hB (pt r (.map es.toArray clock)) hg
  obtain ⟨es', clock', st, hB', ⟨q, e, hq, he, hins⟩, hrun⟩ := mapEntry_run (P := P) (a := a) hE hB0 hT.und hK.und hZ.zero_run hst1.get.2
  simp only [execOp, hx, hy, Sem.run_bind, hrun, Sem.run_pure, Result.andThen_ok]
  have hlt := hst1.lt
  obtain ⟨rr2, hp1, hp2⟩ := putAt_perm hj (hput st)
  have hrr : rr.Perm rr2 := (hp.symm.trans hp1).cons_inv
  refine ⟨Γ2 st, ⟨st, rfl, rfl, rfl⟩, St.perm (St.exch (St.upd (w' := { w with heap := w.heap.setIfInBounds r (.map es'.toArray clock') }) hst1 rfl rfl rfl (by simp) (by simp [hlt]) (fun x hx => by simp [Array.getElem?_setIfInBounds_ne (Ne.symm hx)])) (fun g hg => ⟨es', clock', q, e, hg, hB', hq, he, hins⟩)) ((hrr.cons _).trans hp2)⟩
theorem reg_entryStoreB (j : Nat) {st : Nat} {Γ' : List Asn} {u : Value} {dst : Option Tmp} (hx : ev ρ x = .map (some r)) (hy : ev ρ y = goInt st) (hz : ev ρ z = u)
    (hj : getAt j Γ = some (MapE r ml a st)) (hput : putAt j (MapB r (insS ml a u)) Γ = some Γ')
    (h : Reg P w0 n sh Q ops l k (ρ.setO dst undef) df Γ') : Reg P w0 n sh Q ops ((Fl.loud, i, ⟨dst, .entryStore t x y z, ty, pos, aft, none⟩) :: l) k ρ df Γ := by
  refine reg_loud rfl (fun v' df' Γ'' => v' = undef ∧ df' = df ∧ Γ'' = Γ') (fun hF _ w hst => ?_) (fun v' df' Γ' ⟨h1, h2, h3⟩ => by subst h1; subst h2; subst h3; exact h)
  obtain ⟨rr, hp1, hp2⟩ := putAt_perm hj hput
  obtain ⟨g, ⟨es, clock, q, e, hg, hB0, hq, rfl, hins⟩, hB⟩ := (hst.perm hp1).head
  have hst1 := hB (pt r (.map es.toArray clock)) hg
  have hrun := entryStore_run (P := P) (t := t) (u := u) hB0 hq hst1.get.2
  simp only [execOp, hx, hy, hz, Sem.run_bind, hrun, Sem.run_pure, Result.andThen_ok]
  have hlt := hst1.lt
  exact ⟨Γ', ⟨rfl, rfl, rfl⟩, St.perm (St.exch (St.upd (w' := { w with heap := w.heap.setIfInBounds r (.map (es.modify q fun x => { x with val := u }).toArray clock) }) hst1 rfl rfl rfl (by simp) (by simp [hlt]) (fun x hx => by simp [Array.getElem?_setIfInBounds_ne (Ne.symm hx)])) (fun g hg => ⟨_, clock, hg, hins u, hB0.modify fun _ => rfl⟩)) hp2⟩
theorem mapUpdateB_run {w : World} {u : Value} {es : List MapEntry} {clock : Nat} (hE : EsOk es ml) (hB : BornOk es clock) (hm : P.underlying t = some (.map kt et)) (hk : P.underlying kt = some .string) (h : w.heap[r]? = some (.map es.toArray clock)) :
    ∃ es' clock', EsOk es' (insS ml a u) ∧ BornOk es' clock' ∧ (Instr.mapUpdate t (.map (some r)) (.string a) u).run P w = .ok () { w with heap := w.heap.setIfInBounds r (.map es'.toArray clock') } := by
  have hck : ∀ em, (Instr.checkKey em 10000 kt (.string a)).run P w = .ok () w := fun em => run_checkKeyS hk em 9999
  have hp := placeS_some ml a 0
  have hset : ∀ (es2 : Array MapEntry) (c : Nat), (setObj r (.map es2 c)).run P w = .ok () { w with heap := w.heap.setIfInBounds r (.map es2 c) } := fun es2 c => by
    simp only [setObj, Sem.run, h]
  simp only [Instr.mapUpdate, Sem.run_bind, run_underlying hm, Result.andThen_ok, run_getMap h]
  simp only [Result.andThen_ok, hck, run_findKeyS hk hE]
  cases hl : lookS ml a with
  | none =>
    rw [hl] at hp
    have : placeS ml a 0 = none := by cases hpp : placeS ml a 0 with | none => rfl | some m => rw [hpp] at hp; cases hp
    refine ⟨es ++ [{ key := .string a, val := u, born := clock }], clock + 1, by rw [insS_none ml a u hl]; exact hE.push a u clock, hB.push _ _, ?_⟩
    simp only [this, Option.bind_none, hset]
    congr 2
    simp
  | some v =>
    rw [hl] at hp
    obtain ⟨m, hm'⟩ : ∃ m, placeS ml a 0 = some m := by cases hpp : placeS ml a 0 with | none => rw [hpp] at hp; cases hp | some m => exact ⟨m, rfl⟩
    obtain ⟨j, h1, ⟨e, h2, h2'⟩, h3, _⟩ := placeS_spec a ml es 0 m hE hm'
    simp only [Nat.zero_add] at h1
    subst h1
    have hstay : (Instr.keyThatStays (.string a) (.string a)).run P w = .ok (.string a) w := by
      simp [Instr.keyThatStays, Instr.sameBits, str_beq]
    refine ⟨_, clock, h3 u, hB.modify fun _ => rfl, ?_⟩
    simp only [hm', Option.bind_some, Option.map_some]
    simp only [List.getElem?_toArray, h2, Option.map_some, Option.getD_some, h2', Sem.run_bind, hstay, Result.andThen_ok, hset]
    rw [List.modify_toArray]
theorem reg_mapUpdateB (j : Nat) {Γ' : List Asn} {u : Value} {dst : Option Tmp} [hT : TUnd P t (.map kt et)] [hK : TUnd P kt .string] (hx : ev ρ x = .map (some r)) (hy : ev ρ y = .string a) (hz : ev ρ z = u)
    (hj : getAt j Γ = some (MapB r ml)) (hput : putAt j (MapB r (insS ml a u)) Γ = some Γ')
    (h : Reg P w0 n sh Q ops l k (ρ.setO dst undef) df Γ') : Reg P w0 n sh Q ops ((Fl.loud, i, ⟨dst, .mapUpdate t x y z, ty, pos, aft, none⟩) :: l) k ρ df Γ := by
  refine reg_loud rfl (fun v' df' Γ'' => v' = undef ∧ df' = df ∧ Γ'' = Γ') (fun hF _ w hst => ?_) (fun v' df' Γ' ⟨h1, h2, h3⟩ => by subst h1; subst h2; subst h3; exact h)
  obtain ⟨rr, hp1, hp2⟩ := putAt_perm hj hput
  obtain ⟨g, ⟨es, clock, hg, hE, hB0⟩, hB⟩ := (hst.perm hp1).head
  have hst1 := hB (pt r (.map es.toArray clock)) hg
  obtain ⟨es', clock', hE', hB', hrun⟩ := mapUpdateB_run (P := P) (a := a) (u := u) hE hB0 hT.und hK.und hst1.get.2
  simp only [execOp, hx, hy, hz, Sem.run_bind, hrun, Sem.run_pure, Result.andThen_ok]
  have hlt := hst1.lt
  refine ⟨Γ', ⟨rfl, rfl, rfl⟩, St.perm (St.exch (St.upd (w' := { w with heap := w.heap.setIfInBounds r (.map es'.toArray clock') }) hst1 rfl rfl rfl (by simp) (by simp [hlt]) (fun x hx => by simp [Array.getElem?_setIfInBounds_ne (Ne.symm hx)])) (fun g hg => ⟨es', clock', hg, hE', hB'⟩)) hp2⟩
theorem reg_insertS (j : Nat) {Γ' : List Asn} {u : Value} {dst : Option Tmp} [hT : TUnd P t (.map kt et)] [hK : TUnd P kt .string] (hx : ev ρ x = .map (some r)) (hy : ev ρ y = .string a) (hz : ev ρ z = u)
    (hj : getAt j Γ = some (MapS r ml)) (hput : putAt j (MapS r (insS ml a u)) Γ = some Γ')
    (h : Reg P w0 n sh Q ops l k (ρ.setO dst undef) df Γ') : Reg P w0 n sh Q ops ((Fl.loud, i, ⟨dst, .insert t x y z, ty, pos, aft, none⟩) :: l) k ρ df Γ := by
  refine reg_loud rfl (fun v' df' Γ'' => v' = undef ∧ df' = df ∧ Γ'' = Γ') (fun hF _ w hst => ?_) (fun v' df' Γ' ⟨h1, h2, h3⟩ => by subst h1; subst h2; subst h3; exact h)
  obtain ⟨rr, hp1, hp2⟩ := putAt_perm hj hput
  obtain ⟨g, ⟨es, clock, hg, hE⟩, hB⟩ := (hst.perm hp1).head
  have hst1 := hB (pt r (.map es.toArray clock)) hg
  obtain ⟨es', clock', hE', hrun⟩ := mapUpdateS_run (P := P) (a := a) (u := u) hE hT.und hK.und hst1.get.2
  simp only [execOp, hx, hy, hz, Sem.run_bind, hrun, Sem.run_pure, Result.andThen_ok]
  have hlt := hst1.lt
  refine ⟨Γ', ⟨rfl, rfl, rfl⟩, St.perm (St.exch (St.upd (w' := { w with heap := w.heap.setIfInBounds r (.map es'.toArray clock') }) hst1 rfl rfl rfl (by simp) (by simp [hlt]) (fun x hx => by simp [Array.getElem?_setIfInBounds_ne (Ne.symm hx)])) (fun g hg => ⟨es', clock', hg, hE'⟩)) hp2⟩
theorem reg_lookupB (j : Nat) {ok : Bool} {v : Value} [hT : TUnd P t (.map kt et)] [hK : TUnd P kt .string] [hZ : TZeroV P et zv] (hx : ev ρ x = .map (some r)) (hy : ev ρ y = .string a)
    (hj : getAt j Γ = some (MapB r ml)) (hv : (if ok then .tuple #[(lookS ml a).getD zv, .bool (lookS ml a).isSome] else (lookS ml a).getD zv) = v)
    (h : Reg P w0 n sh Q ops l k (ρ.set d v) df Γ) (hb : notQuiet b = true := by rfl) : Reg P w0 n sh Q ops ((b, i, ⟨some d, .lookup t x y ok, ty, pos, aft, none⟩) :: l) k ρ df Γ := by
  refine reg_read rfl hb (fun hF _ w hst => ⟨w, ?_, hst⟩) h
  obtain ⟨rr, hp⟩ := getAt_perm hj
  obtain ⟨g, ⟨es, clock, hg, hE, _⟩, hB⟩ := (hst.perm hp).head
  have hm := (hB (pt r (.map es.toArray clock)) hg).get.2
  simp only [execOp, hx, hy, Sem.run_bind, lookupS_run hE hT.und hK.und hZ.zero_run hm, Sem.run_pure, Result.andThen_ok, hv]
theorem deleteB_run {w : World} {es : List MapEntry} {clock : Nat} {t2 : TypeId} {ats : Array TypeId} (hE : EsOk es ml) (hB : BornOk es clock) (ha : ats[0]? = some t) (hm : P.underlying t = some (.map kt et)) (hk : P.underlying kt = some .string) (h : w.heap[r]? = some (.map es.toArray clock)) :
    ∃ es', EsOk es' (delS ml a) ∧ BornOk es' clock ∧ (Builtin.delete_ ats t2 #[.map (some r), .string a]).run P w = .ok (.tuple #[]) { w with heap := w.heap.setIfInBounds r (.map es'.toArray clock) } := by
  have hck : ∀ em, (Instr.checkKey em 10000 kt (.string a)).run P w = .ok () w := fun em => run_checkKeyS hk em 9999
  have hp := placeS_some ml a 0
  have hset : ∀ (es2 : Array MapEntry) (c : Nat), (setObj r (.map es2 c)).run P w = .ok () { w with heap := w.heap.setIfInBounds r (.map es2 c) } := fun es2 c => by
    simp only [setObj, Sem.run, h]
  simp only [Builtin.delete_, ha, List.getElem?_toArray, List.getElem?_cons_zero, List.getElem?_cons_succ, Sem.run_bind, run_underlying hm, Result.andThen_ok, run_getMap h]
  simp only [Result.andThen_ok, hck, run_findKeyS hk hE]
  cases hl : lookS ml a with
  | none =>
    rw [hl] at hp
    have : placeS ml a 0 = none := by cases hpp : placeS ml a 0 with | none => rfl | some m => rw [hpp] at hp; cases hp
    refine ⟨es, by rw [delS_none ml a hl]; exact hE, hB, ?_⟩
    simp only [this, Option.bind_none, hset, Sem.run_bind, Result.andThen_ok, Sem.run_pure]
  | some v =>
    rw [hl] at hp
    obtain ⟨m, hm'⟩ : ∃ m, placeS ml a 0 = some m := by cases hpp : placeS ml a 0 with | none => rw [hpp] at hp; cases hp | some m => exact ⟨m, rfl⟩
    obtain ⟨j, h1, _, _, h4, h5⟩ := placeS_spec a ml es 0 m hE hm'
    simp only [Nat.zero_add] at h1
    subst h1
    refine ⟨_, h4, hB.erase, ?_⟩
    simp only [hm', Option.bind_some, Option.map_some, hset, Sem.run_bind, Result.andThen_ok, Sem.run_pure]
    congr 4
    simp [Array.eraseIdxIfInBounds, h5]
theorem reg_deleteB (j : Nat) {Γ' : List Asn} {dst : Option Tmp} {t2 : TypeId} [hT : TUnd P t (.map kt et)] [hK : TUnd P kt .string] (hx : ev ρ x = .map (some r)) (hy : ev ρ y = .string a)
    (hj : getAt j Γ = some (MapB r ml)) (hput : putAt j (MapB r (delS ml a)) Γ = some Γ')
    (h : Reg P w0 n sh Q ops l k (ρ.setO dst (.tuple #[])) df Γ') : Reg P w0 n sh Q ops ((Fl.loud, i, ⟨dst, .call ⟨.builtin .delete, #[x, y], #[t, t2]⟩, ty, pos, aft, none⟩) :: l) k ρ df Γ := by
  refine reg_loud rfl (fun v' df' Γ'' => v' = .tuple #[] ∧ df' = df ∧ Γ'' = Γ') (fun hF _ w hst => ?_) (fun v' df' Γ' ⟨h1, h2, h3⟩ => by subst h1; subst h2; subst h3; exact h)
  obtain ⟨rr, hp1, hp2⟩ := putAt_perm hj hput
  obtain ⟨g, ⟨es, clock, hg, hE, hB0⟩, hB⟩ := (hst.perm hp1).head
  have hst1 := hB (pt r (.map es.toArray clock)) hg
  obtain ⟨es', hE', hB', hrun⟩ := deleteB_run (P := P) (a := a) (t2 := ty) (ats := #[t, t2]) hE hB0 rfl hT.und hK.und hst1.get.2
  have : (execOp (ev ρ) ⟨dst, .call ⟨.builtin .delete, #[x, y], #[t, t2]⟩, ty, pos, aft, none⟩).run P w = .ok (.value (.tuple #[])) { w with heap := w.heap.setIfInBounds r (.map es'.toArray clock) } := by
    simp [execOp, resolve, invoke, builtin, hx, hy, hrun]
  rw [this]
  have hlt := hst1.lt
  refine ⟨Γ', ⟨rfl, rfl, rfl⟩, St.perm (St.exch (St.upd (w' := { w with heap := w.heap.setIfInBounds r (.map es'.toArray clock) }) hst1 rfl rfl rfl (by simp) (by simp [hlt]) (fun x hx => by simp [Array.getElem?_setIfInBounds_ne (Ne.symm hx)])) (fun g hg => ⟨es', clock, hg, hE', hB'⟩)) hp2⟩
end
end Go.Vc

namespace Go.Vc
section
variable {P : Program} {w0 : World} {n : Nat} {sh : Shared} {Q : Exit → Env → List Deferred → List Asn → Prop} {k : List Item} {ρ : Env} {df : List Deferred} {Γ : List Asn} {hF : Heap}
variable {r : Nat} {ml : SM}
theorem Fn.lendB {f : FuncId} {args : List Value} {R : Value → List Asn → Prop} (hen : Enters P f) (h : ∀ sh', (∀ p ∈ sh, p ∈ sh') → RdM w0 sh' r ml → Fn P w0 sh' f args Γ R) :
    Fn P w0 sh f args (MapB r ml :: Γ) fun v Γ' => ∃ Γ'', R v Γ'' ∧ Γ' = Γ'' ++ [MapB r ml] := by
  refine ⟨hen, fun hF w hsh hst => ?_⟩
  have h1 : St w0 hF (Γ ++ [MapB r ml]) w := hst.perm (List.perm_append_comm (l₁ := [_]))
  obtain ⟨g, hg, hdj, hst2⟩ := h1.split
  obtain ⟨es, clock, hg1, hE, hB⟩ := Stars.one.1 hg
  subst hg1
  have hsub : ∀ c oc, hF c = some oc → ((Heap.one r (.map es.toArray clock)).or hF) c = some oc := fun c oc hc => by
    rcases hdj c with e | e
    · simp [Heap.or, e, hc]
    · rw [e] at hc; cases hc
  refine ((h ((r, .map es.toArray clock) :: sh) (fun p hp => List.mem_cons_of_mem _ hp) ⟨es, clock, fun hF Γ w h1 h2 => (h2.frame (h1 _ (.head _))).2, hE⟩).calls _ w (fun p hp => ?_) hst2).mono ?_
  · rcases List.mem_cons.1 hp with rfl | hp
    · simp [Heap.or, Heap.one]
    · exact hsub _ _ (hsh p hp)
  · rintro e w' ⟨v, Γ', he, h4, h5⟩
    exact ⟨v, _, he, ⟨Γ', h4, rfl⟩, h5.join (Stars.one.2 ⟨es, clock, rfl, hE, hB⟩) hdj⟩
end
end Go.Vc

namespace Go.Vc
section
variable {P : Program} {w0 : World} {n : Nat} {sh : Shared} {Q : Exit → Env → List Deferred → List Asn → Prop} {k : List Item} {ρ : Env} {df : List Deferred} {Γ : List Asn} {hF : Heap}
theorem run_lendSl {α : Type} (encE : α → List Value) (is : List Nat) {q : Nat} {T : TypeId} {a : Option Addr} {len cap : Nat} {l : List α} {Γr : List Asn} (hp : pick is Γ = some ([SlA T q a len cap (l.flatMap encE)], Γr)) (hq : ∀ x ∈ l, (encE x).length = q) (hl : l.length = len)
    (h : ∀ sh', (∀ p ∈ sh, p ∈ sh') → RdSl w0 sh' encE q (.slice a len cap) l → Run P w0 n sh' (fun e ρ df Γ' => Q e ρ df (Γ' ++ [SlA T q a len cap (l.flatMap encE)])) k ρ df Γr) : Run P w0 n sh Q k ρ df Γ := by
  refine ⟨?_⟩
  intro hF hsh w1 w ha hn hd hst
  have h1 : St w0 hF (Γr ++ [SlA T q a len cap (l.flatMap encE)]) w := (hst.perm (pick_perm hp)).perm List.perm_append_comm
  obtain ⟨g, hg, hdj, hst2⟩ := h1.split
  have hS := Stars.one.1 hg
  subst hl
  cases a with
  | none =>
    obtain ⟨e1, e2, e3, e4⟩ := SlA.none_iff.1 hS
    subst e4
    have hl : l = [] := List.length_eq_zero_iff.1 e1
    subst hl
    refine ((h sh (fun _ h => h) RdSl.nil).go hF hsh w1 w ha hn hd ?_).mono ?_
    · simpa [Heap.emp_or] using hst2
    · rintro e a' w' ⟨h3, Γ', h4, h5⟩
      exact ⟨h3, _, h4, (St.emp_head (A := SlA T q none 0 cap ([].flatMap encE)) hS h5).perm (List.perm_append_comm (l₁ := [_]))⟩
  | some ad =>
    obtain ⟨b', spare, e1, e2, e3, e4, e5⟩ := SlA.some_iff.1 hS
    have hg1 := e5
    simp only [pt] at hg1
    subst hg1
    have hsub : ∀ c oc, hF c = some oc → ((Heap.one b' (.cells (List.toArray (l.flatMap encE ++ spare)) T (0, 0))).or hF) c = some oc := fun c oc hc => by
      rcases hdj c with e | e
      · simp [Heap.or, e, hc]
      · rw [e] at hc; cases hc
    refine ((h ((b', .cells (List.toArray (l.flatMap encE ++ spare)) T (0, 0)) :: sh) (fun p hp => List.mem_cons_of_mem _ hp) (by rw [e1]; exact RdSl.flatS hq (List.mem_cons_self ..) e3)).go _ (fun p hp => ?_) w1 w ha hn hd hst2).mono ?_
    · rcases List.mem_cons.1 hp with rfl | hp
      · simp [Heap.or, Heap.one]
      · exact hsub _ _ (hsh p hp)
    · rintro e a' w' ⟨h3, Γ', h4, h5⟩
      exact ⟨h3, _, h4, h5.join hg hdj⟩
end
end Go.Vc

namespace Go.Vc
section
variable {P : Program} {w0 : World} {n : Nat} {sh : Shared} {Q : Exit → Env → List Deferred → List Asn → Prop} {k : List Item} {ρ : Env} {df : List Deferred} {Γ : List Asn} {hF : Heap}
variable {ops : Array Oper} {l : List (Fl × Nat × Oper)} {b : Fl} {i d : Nat} {ty : TypeId} {pos : String} {aft : Array Edge}
variable {x : Operand} {t kt et : TypeId} {r clock : Nat} {ml : SM} {es : List MapEntry}
structure RdX (w0 : World) (sh : Shared) (r : Nat) (es : List MapEntry) (clock : Nat) (ml : SM) : Prop where
  h : ∀ hF Γ w, Sh sh hF → St w0 hF Γ w → w.heap[r]? = some (.map es.toArray clock)
  ok : EsOk es ml
  born : BornOk es clock
theorem RdX.rd (h : RdX w0 sh r es clock ml) : RdM w0 sh r ml := ⟨es, clock, h.h, h.ok⟩
theorem RdX.mono {sh' : Shared} (h : RdX w0 sh r es clock ml) (hs : ∀ p ∈ sh, p ∈ sh') : RdX w0 sh' r es clock ml :=
  ⟨fun hF Γ w hsh hst => h.h hF Γ w (fun p hp => hsh p (hs p hp)) hst, h.ok, h.born⟩
end
end Go.Vc

namespace Go.Vc
section
variable {P : Program} {w0 : World} {sh : Shared} {Γ : List Asn}
theorem Fn.lendSl {α : Type} (encE : α → List Value) {q : Nat} {T : TypeId} {a : Option Addr} {len cap : Nat} {l : List α} {f : FuncId} {args : List Value} {R : Value → List Asn → Prop} (hen : Enters P f) (hq : ∀ x ∈ l, (encE x).length = q) (hl : l.length = len)
    (h : ∀ sh', (∀ p ∈ sh, p ∈ sh') → RdSl w0 sh' encE q (.slice a len cap) l → Fn P w0 sh' f args Γ R) :
    Fn P w0 sh f args (SlA T q a len cap (l.flatMap encE) :: Γ) fun v Γ' => ∃ Γ'', R v Γ'' ∧ Γ' = Γ'' ++ [SlA T q a len cap (l.flatMap encE)] := by
  refine ⟨hen, fun hF w hsh hst => ?_⟩
  have h1 : St w0 hF (Γ ++ [SlA T q a len cap (l.flatMap encE)]) w := hst.perm (List.perm_append_comm (l₁ := [_]))
  obtain ⟨g, hg, hdj, hst2⟩ := h1.split
  have hS := Stars.one.1 hg
  subst hl
  cases a with
  | none =>
    obtain ⟨e1, e2, e3, e4⟩ := SlA.none_iff.1 hS
    subst e4
    have hl : l = [] := List.length_eq_zero_iff.1 e1
    subst hl
    refine ((h sh (fun _ h => h) RdSl.nil).calls hF w hsh ?_).mono ?_
    · simpa [Heap.emp_or] using hst2
    · rintro e w' ⟨v, Γ', he, h4, h5⟩
      exact ⟨v, _, he, ⟨Γ', h4, rfl⟩, (St.emp_head (A := SlA T q none 0 cap ([].flatMap encE)) hS h5).perm (List.perm_append_comm (l₁ := [_]))⟩
  | some ad =>
    obtain ⟨b', spare, e1, e2, e3, e4, e5⟩ := SlA.some_iff.1 hS
    have hg1 := e5
    simp only [pt] at hg1
    subst hg1
    have hsub : ∀ c oc, hF c = some oc → ((Heap.one b' (.cells (List.toArray (l.flatMap encE ++ spare)) T (0, 0))).or hF) c = some oc := fun c oc hc => by
      rcases hdj c with e | e
      · simp [Heap.or, e, hc]
      · rw [e] at hc; cases hc
    refine ((h ((b', .cells (List.toArray (l.flatMap encE ++ spare)) T (0, 0)) :: sh) (fun p hp => List.mem_cons_of_mem _ hp) (by rw [e1]; exact RdSl.flatS hq (List.mem_cons_self ..) e3)).calls _ w (fun p hp => ?_) hst2).mono ?_
    · rcases List.mem_cons.1 hp with rfl | hp
      · simp [Heap.or, Heap.one]
      · exact hsub _ _ (hsh p hp)
    · rintro e w' ⟨v, Γ', he, h4, h5⟩
      exact ⟨v, _, he, ⟨Γ', h4, rfl⟩, h5.join hg hdj⟩
end
end Go.Vc

namespace Go.Vc
section
variable {P : Program} {w0 : World} {n : Nat} {sh : Shared} {Q : Exit → Env → List Deferred → List Asn → Prop} {k : List Item} {ρ : Env} {df : List Deferred} {Γ : List Asn}
variable {ops : Array Oper} {rest : List (Fl × Nat × Oper)} {b : Fl} {i d : Nat} {ty : TypeId} {pos : String} {aft : Array Edge} {x lo hi : Operand} {t : TypeId} {s : ByteArray}
end
end Go.Vc

namespace Go.Vc
section
variable {P : Program} {w0 : World} {n : Nat} {sh : Shared} {Q : Exit → Env → List Deferred → List Asn → Prop} {k : List Item} {ρ : Env} {df : List Deferred} {Γ : List Asn} {hF : Heap}
variable {ops : Array Oper} {l : List (Fl × Nat × Oper)} {b : Fl} {i d : Nat} {ty : TypeId} {pos : String} {aft : Array Edge}
variable {x y : Operand} {t T e : TypeId} {agg : Bool} {sz bytes : Nat} {cs new : List Value}
theorem strCells_one (s : ByteArray) : allOne (Lib.strCells s) = true := by
  unfold Lib.strCells
  induction s.data.toList with
  | nil => rfl
  | cons c r ih => exact ih
theorem opW_appendS {dst : Option Tmp} {a : Option Addr} {len cap m : Nat} {s : ByteArray} {j : Nat} {ats : Array TypeId} {zv : Value}
    [hT : TUnd P t (.slice e)] [hS : TShape P e agg sz] [hZ : TZeroV P e zv] [hI : TInfo P e bytes] {t2 : TypeId} [hT2 : TUnd P t2 .string]
    (hats : ats = #[t, t2]) (hx : ev ρ x = .slice a len cap) (hy : ev ρ y = .string s) (hj : getAt j Γ = some (SlA e sz a len cap cs))
    (hs1 : sz = 1) (hm0 : s.size = m) (hnew : Lib.strCells s = new) (hone : allOne new = true)
    (hzs : zv.cells.size = sz) (hsmall : (2 * (len + m) + 192) * bytes ≤ 281474976710656) (hbig : len + m ≤ 9223372036854775807) :
    OpW P w0 hF ⟨dst, .call ⟨.builtin .append, #[x, y], ats⟩, ty, pos, aft, none⟩ ρ df Γ fun v df' Γ' => ∃ a' cap', v = .slice a' (len + m) cap' ∧ df' = df ∧ putAt j (SlA e sz a' (len + m) cap' (cs ++ new)) Γ = some Γ' := by
  subst hats
  intro w hst
  have hlen : new.length = m * sz := by rw [← hnew, Lib.strCells_length, hs1, hm0, Nat.mul_one]
  obtain ⟨r, hst1, hback⟩ := hst.at hj
  obtain ⟨ti, hti, hbytes⟩ := hI.info_run w
  have hfirst : ∀ w, (Builtin.firstCells sz m (.string s)).run P w = .ok new.toArray w := fun w => by
    rw [← hnew, ← hm0]; exact Lib.run_firstCells_string (P := P) w sz s
  have hmax : ¬ ((len + m : Nat) : Int) > IntKind.i64.max := by rw [IntKind.max_i64]; omega
  simp only [execOp, resolve, invoke, builtin, Builtin.append_, Builtin.lenOf]
  simp only [List.map_toArray, List.map_cons, List.map_nil, hx, hy, Sem.run_bind, Sem.run_pure, Result.andThen_ok]
  simp only [List.getElem?_toArray, List.getElem?_cons_zero, List.getElem?_cons_succ, Sem.run_bind, Sem.run_pure, Result.andThen_ok, run_underlying hT.und, run_underlying hT2.und, hS.size_run, Bool.false_eq_true, if_false, Bool.not_false, if_true, hm0]
  by_cases hfit : len + m ≤ cap
  · simp only [hfit, if_true, Sem.run_bind, hfirst w, Result.andThen_ok]
    cases a with
    | none =>
      obtain ⟨g, hA, hB⟩ := hst1.head
      obtain ⟨h1, h2, h3, h4⟩ := SlA.none_iff.1 hA
      subst h1; subst h2; subst h3
      have hm : m = 0 := by omega
      subst hm
      have hn : new = [] := by simpa using hlen
      subst hn
      obtain ⟨Γ', h5, h6⟩ := hback _ w (hB (SlA e sz none (0 + 0) 0 ([] ++ [])) (SlA.none_iff.2 ⟨rfl, rfl, rfl, h4⟩))
      simp only [Sem.run_pure, Result.andThen_ok]
      exact ⟨Γ', ⟨none, 0, rfl, rfl, h5⟩, h6⟩
    | some ad =>
      obtain ⟨g, hA, hB⟩ := hst1.head
      obtain ⟨bb, spare, h1, h2, h3, h4, h5⟩ := SlA.some_iff.1 hA
      subst h1
      have hst2 := hB _ h5
      have hwr : wr new (0 + len * sz) (cs ++ spare) = some (cs ++ new ++ spare.drop (m * sz)) := by
        have hfl : (len + m) * sz ≤ cap * sz := Nat.mul_le_mul_right _ hfit
        rw [Nat.add_mul] at hfl
        have key : ∀ (cs : List Value) (spare : List Value), new.length ≤ spare.length → wr new cs.length (cs ++ spare) = some (cs ++ new ++ spare.drop new.length) := by
          intro cs
          induction cs with
          | nil =>
            intro spare hs
            simp only [List.length_nil, wr, List.nil_append]
            clear hnew hone hlen hfirst
            induction new generalizing spare with
            | nil => simp [over]
            | cons v vs ih =>
              cases spare with
              | nil => simp at hs
              | cons u us =>
                simp only [over]
                rw [ih us (by simpa using hs)]
                simp
          | cons c cs ih =>
            intro spare hs
            simp only [List.length_cons, wr, List.cons_append]
            rw [ih spare hs]
        rw [Nat.zero_add, ← h2, ← hlen]
        exact key cs spare (by omega)
      obtain ⟨w', c', g1, g2, g3, g4, g5, g6, g7, g8⟩ := run_storeCells (P := P) (off := len * sz) new 0 _ w hst2.get.2 hone (by
        have hfl : (len + m) * sz ≤ cap * sz := Nat.mul_le_mul_right _ hfit
        rw [Nat.add_mul] at hfl
        simp <;> omega)
      have e1 : (Addr.add ⟨bb, 0, none⟩ (len * sz)) = ⟨bb, len * sz, none⟩ := by rw [Addr.add_lit]; simp
      simp only [e1, Sem.run_bind, g1, Result.andThen_ok, Sem.run_pure]
      have hc' : c' = (cs ++ new ++ spare.drop (m * sz)).toArray := by
        apply Array.ext'
        rw [g3]
        simp [← h2, ← hlen]
      rw [hc'] at g2
      have hst3 := hst2.upd g6 g7 g8 g4 g2 g5
      obtain ⟨Γ', h7, h8⟩ := hback (SlA e sz (some ⟨bb, 0, none⟩) (len + m) cap (cs ++ new)) w' (hst3.exch fun g hg => SlA.some_iff.2 ⟨bb, spare.drop (m * sz), rfl, by simp [h2, hlen, Nat.add_mul], hfit, by
        have hfl : (len + m) * sz ≤ cap * sz := Nat.mul_le_mul_right _ hfit
        rw [Nat.add_mul] at hfl
        simp; omega, hg⟩)
      exact ⟨Γ', ⟨_, cap, rfl, rfl, h7⟩, h8⟩
  · have hcap : ¬ Builtin.nextslicecap (len + m) cap * bytes > 2 ^ 48 := by
      have := nextslicecap_le (m := len + m) (c := cap) (by omega)
      have h2 := Nat.mul_le_mul_right bytes this
      omega
    simp only [hfit, if_false, Sem.run_bind, hti, Result.andThen_ok, hbytes, hmax, false_and, hcap]
    simp only [run_choose, Question.forced, Bool.false_eq_true, if_false, Result.andThen_ok, Question.cut, run_askRoom, hZ.zero_run]
    generalize hq : len + m + w.tape w.drawn (.appendCap (len + m) cap e) % (2 ^ 63 - (len + m)) = newCap
    have hge : len + m ≤ newCap := by omega
    have hold : ∀ w' : World, (∀ (bb : Nat) (o : Obj), w.heap[bb]? = some o → w'.heap[bb]? = some o) → ∃ old : Array Value, (Builtin.firstCells sz len (.slice a len cap)).run P w' = .ok old w' ∧ old.toList = cs := by
      intro w' hw'
      obtain ⟨g, hA, hB⟩ := hst1.head
      cases a with
      | none =>
        obtain ⟨h1, h2, h3, h4⟩ := SlA.none_iff.1 hA
        subst h3
        exact ⟨#[], by simp [Builtin.firstCells], rfl⟩
      | some ad =>
        obtain ⟨bb, spare, h1, h2, h3, h4, h5⟩ := SlA.some_iff.1 hA
        subst h1
        have hg := (hB _ h5).get.2
        refine ⟨_, run_firstCells (hw' _ _ hg) (by simp; omega), ?_⟩
        simp [← h2]
    obtain ⟨old, ho1, ho2⟩ := hold { w with drawn := w.drawn + 1 } (fun _ _ h => h)
    obtain ⟨ti2, hti2, _⟩ := hI.info_run { w with drawn := w.drawn + 1 }
    simp only [hti2, ho1, Result.andThen_ok, hfirst { w with drawn := w.drawn + 1 }, newRow, run_newObj, Sem.run_bind, Sem.run_pure]
    have hst2 := ((hst1.drew (w.drawn + 1)).drop).alloc (.cells (old ++ new.toArray ++ Builtin.zeroCells zv.cells (newCap - (len + m))) e (0, 0))
    obtain ⟨Γ', h7, h8⟩ := hback (SlA e sz (some ⟨w.heap.size, 0, none⟩) (len + m) newCap (cs ++ new)) _ (hst2.exch fun g hg => SlA.some_iff.2 ⟨w.heap.size, (Builtin.zeroCells zv.cells (newCap - (len + m))).toList, rfl, by
      obtain ⟨g, hA, _⟩ := hst1.head
      cases a with
      | none =>
        obtain ⟨h1, h2, h3, h4⟩ := SlA.none_iff.1 hA
        subst h1; subst h3; simp [hlen]
      | some ad =>
        obtain ⟨bb, spare, h1, h2, h3, h4, h5⟩ := SlA.some_iff.1 hA
        simp [h2, hlen, Nat.add_mul], hge, by
      obtain ⟨g, hA, _⟩ := hst1.head
      have hcs : cs.length = len * sz := by
        cases a with
        | none =>
          obtain ⟨h1, h2, h3, h4⟩ := SlA.none_iff.1 hA
          subst h1; subst h3; simp
        | some ad => exact (SlA.some_iff.1 hA).choose_spec.choose_spec.2.1
      have e2 : newCap * sz = (len + m) * sz + (newCap - (len + m)) * sz := by rw [← Nat.add_mul]; congr 1; omega
      simp [hcs, hlen, size_zeroCells, hzs, e2, Nat.add_mul], by
      have : (cs ++ new ++ (Builtin.zeroCells zv.cells (newCap - (len + m))).toList).toArray = old ++ new.toArray ++ Builtin.zeroCells zv.cells (newCap - (len + m)) := by
        apply Array.ext'; simp [ho2]
      rw [this]; exact hg⟩)
    exact ⟨Γ', ⟨_, newCap, rfl, rfl, h7⟩, h8⟩
theorem reg_appendS (j : Nat) {G : Option Addr → Nat → List Asn} {dst : Option Tmp} {a : Option Addr} {len cap : Nat} {s : ByteArray} {zv : Value} {t2 : TypeId}
    [hT : TUnd P t (.slice e)] [hS : TShape P e agg 1] [hZ : TZeroV P e zv] [hI : TInfo P e bytes] [hT2 : TUnd P t2 .string]
    (hx : ev ρ x = .slice a len cap) (hy : ev ρ y = .string s) (hj : getAt j Γ = some (SlA e 1 a len cap cs))
    (hzs : zv.cells.size = 1) (hsmall : (2 * (len + s.size) + 192) * bytes ≤ 281474976710656 ∧ len + s.size ≤ 9223372036854775807)
    (hput : ∀ a' cap', putAt j (SlA e 1 a' (len + s.size) cap' (cs ++ Lib.strCells s)) Γ = some (G a' cap'))
    (h : ∀ a' cap', Reg P w0 n sh Q ops l k (ρ.setO dst (.slice a' (len + s.size) cap')) df (G a' cap')) :
    Reg P w0 n sh Q ops ((Fl.loud, i, ⟨dst, .call ⟨.builtin .append, #[x, y], #[t, t2]⟩, ty, pos, aft, none⟩) :: l) k ρ df Γ := by
  refine reg_loud rfl (fun v df' Γ' => ∃ a' cap', v = .slice a' (len + s.size) cap' ∧ df' = df ∧ putAt j (SlA e 1 a' (len + s.size) cap' (cs ++ Lib.strCells s)) Γ = some Γ') (fun hF hsh => ?_) ?_
  · exact opW_appendS (hT := hT) (hS := hS) (hZ := hZ) (hI := hI) (hT2 := hT2) rfl hx hy hj rfl rfl rfl (strCells_one s) hzs hsmall.1 hsmall.2
  · rintro v df' Γ' ⟨a', cap', h3, h4, h5⟩
    subst h3; subst h4
    rw [hput] at h5
    cases h5
    exact h a' cap'
theorem reg_sliceData {ats : Array TypeId} {a : Option Addr} {len cap : Nat} (hx : ev ρ x = .slice a len cap) (hc : a ≠ none → cap ≠ 0) (h : Reg P w0 n sh Q ops l k (ρ.set d (.pointer a)) df Γ) :
    Reg P w0 n sh Q ops ((b, i, ⟨some d, .call ⟨.builtin .unsafeSliceData, #[x], ats⟩, ty, pos, aft, none⟩) :: l) k ρ df Γ :=
  reg_quiet rfl (fun hF _ => quiet_of_run fun w => by
    simp only [execOp, resolve, invoke, builtin, List.map_toArray, List.map_cons, List.map_nil, hx, Sem.run_bind, Sem.run_pure, Result.andThen_ok]
    cases a with
    | none => rw [Lib.run_unsafeSliceData_nil]; rfl
    | some ad => rw [Lib.run_unsafeSliceData_row _ _ _ _ _ _ (hc (by simp))]; rfl) h
theorem reg_unsafeString (j : Nat) {Γr : List Asn} {dst : Option Tmp} {a : Option Addr} {cap : Nat} {bl : List UInt8} {t2 : TypeId} [hT : TUnd P t (.pointer e)] [TShape P e false 1]
    (hc : P.cellsOf e = 1) (hx : ev ρ x = .pointer a) (hy : ev ρ y = .int .i64 bl.length) (hp : takeAt j Γ = some (SlA e 1 a bl.length cap (Lib.byteCells bl), Γr)) (hb : bl.length ≤ 9223372036854775807)
    (h : Reg P w0 n sh Q ops l k (ρ.setO dst (.string ⟨bl.toArray⟩)) df Γr) :
    Reg P w0 n sh Q ops ((Fl.loud, i, ⟨dst, .call ⟨.builtin .unsafeString, #[x, y], #[t, t2]⟩, ty, pos, aft, none⟩) :: l) k ρ df Γ := by
  refine reg_loud rfl (fun v df' Γ' => v = .string ⟨bl.toArray⟩ ∧ df' = df ∧ Γ' = Γr) (fun hF hsh => ?_) (fun v df' Γ' ⟨h1, h2, h3⟩ => by subst h1; subst h2; subst h3; exact h)
  intro w hst
  have hst1 := hst.perm (takeAt_perm hp)
  simp only [execOp, resolve, invoke, builtin, List.map_toArray, List.map_cons, List.map_nil, hx, hy, Sem.run_bind, Sem.run_pure, Result.andThen_ok]
  by_cases h0 : bl = []
  · subst h0
    have := Lib.run_unsafeString_none (P := P) w t t2 ty a
    simp only [List.length_nil, Int.natCast_zero] at this ⊢
    rw [this]
    exact ⟨Γr, ⟨rfl, rfl, rfl⟩, hst1.drop⟩
  · cases a with
    | none =>
      obtain ⟨g, hA, _⟩ := hst1.head
      obtain ⟨h1, _⟩ := SlA.none_iff.1 hA
      exact absurd (List.length_eq_zero_iff.1 h1) h0
    | some ad =>
      obtain ⟨g, hA, hB⟩ := hst1.head
      obtain ⟨bb, spare, h1, h2, h3, h4, h5⟩ := SlA.some_iff.1 hA
      subst h1
      have hst2 := hB _ h5
      have hbk := hst2.get.2
      rw [Lib.run_unsafeString_row w t t2 ty e hT.und hc bb ((Lib.byteCells bl ++ spare).length) (by simp [World.shape?, hbk]) bl h0 (by simp [Lib.byteCells_length]) hb (by
        intro q u hu
        have hq := (List.getElem?_eq_some_iff.1 hu).1
        have hadd : (Addr.add ⟨bb, 0, none⟩ q) = ⟨bb, q, none⟩ := by rw [Addr.add_lit]; simp
        rw [hadd]
        have hx1 : (Lib.byteCells bl ++ spare)[q]? = some (.int .u8 (u.toNat : Nat)) := by
          rw [List.getElem?_append_left (by rw [Lib.byteCells_length]; exact hq)]
          simp [Lib.byteCells, hu]
        simp [World.cell?, hbk, hx1])]
      have hlt : bb < w.heap.size := hst2.lt
      refine ⟨Γr, ⟨rfl, rfl, rfl⟩, ?_⟩
      have hnz : bl.length ≠ 0 := fun q => h0 (List.length_eq_zero_iff.1 q)
      refine St.drop (A := pt bb (.cells (List.toArray (Lib.byteCells bl ++ spare)) e (0, 0 + bl.length))) ?_
      unfold World.freeze
      rw [if_neg hnz]
      refine hst2.upd rfl rfl rfl (by simp) ?_ (fun z hz => ?_)
      · simp only [Array.getElem?_modify, if_true, hbk, Option.map_some]
        rfl
      · simp only [Array.getElem?_modify]
        rw [if_neg (fun q => hz q.symm)]
theorem reg_addE {kd : IntKind} {u v r : Int} {yt : TypeId} (hx : ev ρ x = .int kd u) (hy : ev ρ y = .int kd v) (hr : kd.wrap (u + v) = r) (h : Reg P w0 n sh Q ops l k (ρ.set d (.int kd r)) df Γ) :
    Reg P w0 n sh Q ops ((b, i, ⟨some d, .binOp .add t x y yt, ty, pos, aft, none⟩) :: l) k ρ df Γ := reg_add hx hy (by rw [hr]; exact h)
theorem reg_quoE {kd : IntKind} {u v r : Int} {yt : TypeId} (hx : ev ρ x = .int kd u) (hy : ev ρ y = .int kd v) (hv : v ≠ 0) (hr : kd.wrap (u.tdiv v) = r) (h : Reg P w0 n sh Q ops l k (ρ.set d (.int kd r)) df Γ) :
    Reg P w0 n sh Q ops ((b, i, ⟨some d, .binOp .quo t x y yt, ty, pos, aft, none⟩) :: l) k ρ df Γ := reg_quo hx hy hv (by rw [hr]; exact h)
theorem reg_remE {kd : IntKind} {u v r : Int} {yt : TypeId} (hx : ev ρ x = .int kd u) (hy : ev ρ y = .int kd v) (hv : v ≠ 0) (hr : u.tmod v = r) (h : Reg P w0 n sh Q ops l k (ρ.set d (.int kd r)) df Γ) :
    Reg P w0 n sh Q ops ((b, i, ⟨some d, .binOp .rem t x y yt, ty, pos, aft, none⟩) :: l) k ρ df Γ := reg_rem hx hy hv (by rw [hr]; exact h)
theorem reg_bytesStr (j : Nat) {src dst e T : TypeId} {fr : Nat × Nat} {nb cap m : Nat} {cs : List Value} (bl : List UInt8) [hs : TUnd P src (.slice e)] [he : TUnd P e (.int .u8)] [hd : TUnd P dst .string]
    (hb : notQuiet b = true) (hx : ev ρ x = .slice (some ⟨nb, 0, none⟩) m cap) (hj : getAt j Γ = some (pt nb (.cells (List.toArray cs) T fr))) (hm : bl.length = m) (hcs : cs = Lib.byteCells bl)
    (h : Reg P w0 n sh Q ops l k (ρ.set d (.string ⟨bl.toArray⟩)) df Γ) : Reg P w0 n sh Q ops ((b, i, ⟨some d, .convert src dst x, ty, pos, aft, none⟩) :: l) k ρ df Γ := by
  subst hm; subst hcs
  refine reg_read rfl hb (fun hF hsh w hst => ?_) h
  obtain ⟨r, hst1, _⟩ := hst.at hj
  have hbk := hst1.get.2
  refine ⟨w, ?_, hst⟩
  simp only [execOp, hx, Sem.run_bind]
  rw [run_convert_bytes_back w src dst e ⟨nb, 0, none⟩ cap bl hs.und he.und hd.und (fun q hq => by
    have hadd : (Addr.add ⟨nb, 0, none⟩ q) = ⟨nb, q, none⟩ := by rw [Addr.add_lit]; simp
    rw [hadd]
    have hx1 : (Lib.byteCells bl)[q]? = some (.int .u8 (bl[q].toNat : Nat)) := by simp [Lib.byteCells, List.getElem?_eq_getElem hq]
    simp [World.cell?, hbk, hx1])]
  rfl
end
theorem St.push {w0 : World} {hF : Heap} {Γ : List Asn} : ∀ (os : List Obj) {w : World}, St w0 hF Γ w → St w0 hF Γ { w with heap := w.heap ++ os.toArray }
  | [], w, h => by simpa using h
  | o :: os, w, h => by
    have h1 := St.push os (h.alloc o).drop
    simpa using h1
theorem St.grow {w0 w : World} {hF : Heap} {Γ : List Asn} (h : St w0 hF Γ w) (n : Nat) (os : Array Obj) : St w0 hF Γ (Go.Sort.grow (w.drewN n) os) := by
  have h1 := St.push os.toList (h.drew (w.drawn + n))
  have e : w.heap ++ os.toList.toArray = w.heap ++ os := by simp
  rw [show (Go.Sort.grow (w.drewN n) os) = { w with heap := w.heap ++ os, drawn := w.drawn + n } from rfl, ← e]
  exact h1
end Go.Vc

