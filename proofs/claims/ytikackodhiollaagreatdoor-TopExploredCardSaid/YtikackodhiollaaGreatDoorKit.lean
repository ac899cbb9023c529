import Derived.Laws.Strings
import Derived.Laws.Strings2
import Derived.Laws.Cover1
import Derived.Laws.Concat
import Derived.Laws.Slices
import Derived.Laws.StructEq
import Derived.Sort.AssemblyPlain
import Derived.Lib.ConvBytes
import Derived.Lib.UnsafeStr
import Derived.Sort.Grow
import Derived.Deep.Draws
import Derived.Laws.IdiomStrings
import Derived.RangeFuncIn
import Derived.RangeFuncRecord
import Derived.Laws.Externs
import GoSem.Extern.MapsClone
import Derived.Lib.Bytealg
import Derived.Test.YtikackodhiollaaGreatDoorKitA
/- Own work: lemmas of this claim. -/
namespace Go.Vc
theorem RdSl.cells {α : Type} {encE : α → List Value} {q : Nat} {w0 : World} {sh : Shared} {l : List α} {a : Option Addr} {cap len : Nat} (h : RdSl w0 sh encE q (.slice a len cap) l) {i : Nat} {x : α} (hx : l[i]? = some x) :
   ∃ b off c T fr, a = some ⟨b, off, none⟩ ∧ (∀ hF Γ w, Sh sh hF → St w0 hF Γ w → w.heap[b]? = some (.cells c T fr)) ∧ (∀ o, o = off + i * q → rd true q c.toList o = some (.agg (List.toArray (encE x)))) ∧ ∀ k u, (encE x)[k]? = some u → ∀ o, o = off + i * q + k → rd false 1 c.toList o = some u := by
 obtain ⟨a', cap', h1, _, h2⟩ := h
 cases h1
 have hne : l ≠ [] := by intro e; subst e; simp at hx
 obtain ⟨b, off, c, T, fr, e, hh, hc⟩ := h2.resolve_left hne
 exact ⟨b, off, c, T, fr, e, hh, rd_cells (hc i x hx).1 (fun k u hu => by rw [Nat.add_assoc]; exact (hc i x hx).2 k u hu), fun k u hu o ho => rd_one ((hc i x hx).2 k u hu) o (by omega)⟩
theorem flat_at {α : Type} {encE : α → List Value} {q : Nat} : ∀ (l : List α), (∀ x ∈ l, (encE x).length = q) → ∀ (i : Nat) (x : α), l[i]? = some x → ∀ k u, (encE x)[k]? = some u → (l.flatMap encE)[i * q + k]? = some u
 | [], _, i, x, hx, _, _, _ => by simp at hx
 | y :: l, hq, i, x, hx, k, u, hu => by
   have hy := hq y (by simp)
   have hk := (List.getElem?_eq_some_iff.1 hu).1
   rw [List.flatMap_cons]
   cases i with
   | zero =>
     simp only [List.getElem?_cons_zero, Option.some.injEq] at hx
     subst hx
     rw [List.getElem?_append_left (by omega), show 0 * q + k = k by omega]
     exact hu
   | succ i =>
     rw [List.getElem?_cons_succ] at hx
     have e : (i + 1) * q + k = q + (i * q + k) := by rw [Nat.succ_mul]; omega
     rw [List.getElem?_append_right (by omega), e, hy, Nat.add_sub_cancel_left]
     exact flat_at l (fun z hz => hq z (by simp [hz])) i x hx k u hu
theorem flat_len {α : Type} {encE : α → List Value} {q : Nat} : ∀ (l : List α), (∀ x ∈ l, (encE x).length = q) → (l.flatMap encE).length = l.length * q
 | [], _ => by simp
 | y :: l, hq => by
   rw [List.flatMap_cons, List.length_append, hq y (by simp), flat_len l (fun z hz => hq z (by simp [hz])), List.length_cons, Nat.succ_mul]; omega
theorem RdSl.flatS {α : Type} {encE : α → List Value} {q b cap : Nat} {w0 : World} {sh : Shared} {l : List α} {spare : List Value} {T : TypeId} {fr : Nat × Nat} (hq : ∀ x ∈ l, (encE x).length = q) (hm : (b, Obj.cells (List.toArray (l.flatMap encE ++ spare)) T fr) ∈ sh) (hcap : l.length ≤ cap) :
   RdSl w0 sh encE q (.slice (some ⟨b, 0, none⟩) l.length cap) l := by
 refine ⟨_, _, rfl, hcap, .inr ⟨b, 0, _, T, fr, rfl, fun hF Γ w hsh hst => (hst.frame (hsh _ hm)).2, fun i x hx => ⟨hq x (List.mem_of_getElem? hx), fun k u hu => ?_⟩⟩⟩
 have h1 := flat_at l hq i x hx k u hu
 rw [List.getElem?_toArray, Nat.zero_add, List.getElem?_append_left (List.getElem?_eq_some_iff.1 h1).1]
 exact h1
theorem Fn.owned {P : Program} {w0 : World} {sh : Shared} {f : FuncId} {args : List Value} {Γ : List Asn} {R : Value → List Asn → Prop} {b : Nat} {o : Obj} (h : Fn P w0 ((b, o) :: sh) f args Γ R) :
   Fn P w0 sh f args (pt b o :: Γ) fun r Γ' => ∃ Γ'', R r Γ'' ∧ Γ' = Γ'' ++ [pt b o] := by
 refine ⟨h.enters, fun hF w hsh hst => ?_⟩
 have h1 : St w0 hF (Γ ++ [pt b o]) w := hst.perm (List.perm_append_comm (l₁ := [_]))
 obtain ⟨g, hg, hdj, hst2⟩ := h1.split
 have hg1 : pt b o g := Stars.one.1 hg
 simp only [pt] at hg1
 subst hg1
 have hsub : ∀ c oc, hF c = some oc → ((Heap.one b o).or hF) c = some oc := fun c oc hc => by
   rcases hdj c with e | e
   · simp [Heap.or, e, hc]
   · rw [e] at hc; cases hc
 refine (h.calls _ w (fun p hp => ?_) hst2).mono ?_
 · rcases List.mem_cons.1 hp with rfl | hp
   · simp [Heap.or, Heap.one]
   · exact hsub _ _ (hsh p hp)
 · rintro e w' ⟨r, Γ', he, h4, h5⟩
   exact ⟨r, _, he, ⟨Γ', h4, rfl⟩, h5.join hg hdj⟩
section
variable {P : Program} {w0 : World} {n : Nat} {sh : Shared} {Q : Exit → Env → List Deferred → List Asn → Prop} {k : List Item} {ρ : Env} {df : List Deferred} {Γ : List Asn} {hF : Heap}
variable {α : Type} {encE : α → List Value} {m : Nat} {v : Value} {l : List α}
variable {ops : Array Oper} {rest : List (Fl × Nat × Oper)} {b : Fl} {i d : Nat} {ty : TypeId} {pos : String} {aft : Array Edge} {x y : Operand}
theorem RdSl.pre {a : Option Addr} {cap q : Nat} (h : RdSl w0 sh encE m (.slice a l.length cap) l) (hq : q ≤ l.length) : RdSl w0 sh encE m (.slice a q cap) (l.take q) := by
 obtain ⟨a', cap', h1, h0, h2⟩ := h
 cases h1
 refine ⟨a, cap, by rw [List.length_take, Nat.min_eq_left hq], by rw [List.length_take]; omega, ?_⟩
 rcases h2 with rfl | ⟨b, off, c, T, fr, e, hh, hc⟩
 · exact .inl (by simp)
 · refine .inr ⟨b, off, c, T, fr, e, hh, fun i x hx => hc i x ?_⟩
   rw [List.getElem?_take] at hx
   split at hx
   · exact hx
   · cases hx
def tailV (a : Option Addr) (len cap sz q : Nat) : Value := .slice (if cap = q then a else a.map (·.add (q * sz))) (len - q) (cap - q)
theorem RdSl.tail {a : Option Addr} {cap q : Nat} (h : RdSl w0 sh encE m (.slice a l.length cap) l) (hq : q ≤ l.length) : RdSl w0 sh encE m (tailV a l.length cap m q) (l.drop q) := by
 obtain ⟨a', cap', h1, h0, h2⟩ := h
 cases h1
 unfold tailV
 refine ⟨_, _, by rw [List.length_drop], by rw [List.length_drop]; omega, ?_⟩
 by_cases hz : q = l.length
 · exact .inl (by rw [hz]; simp)
 rcases h2 with rfl | ⟨b, off, c, T, fr, e, hh, hc⟩
 · exact .inl (by simp)
 · refine .inr ⟨b, off + q * m, c, T, fr, ?_, hh, fun i x hx => ?_⟩
   · rw [if_neg (by omega), e]; simp [Addr.add_lit]
   · rw [List.getElem?_drop] at hx
     obtain ⟨g1, g2⟩ := hc _ x hx
     exact ⟨g1, fun k u hu => by rw [← g2 k u hu]; congr 1; rw [Nat.add_mul]; omega⟩
theorem reg_sliceT {t e : TypeId} {agg : Bool} {sz : Nat} {a : Option Addr} {len cap : Nat} {lo : Operand} {q : Int} [hT : TUnd P t (.slice e)] [hS : TShape P e agg sz] (hx : ev ρ x = .slice a len cap) (hl : ev ρ lo = .int .i64 q) (hb : 0 ≤ q ∧ q ≤ len)
   (h : Reg P w0 n sh Q ops rest k (ρ.set d (tailV a len cap sz q.toNat)) df Γ) : Reg P w0 n sh Q ops ((b, i, ⟨some d, .slice t x (some lo) none none, ty, pos, aft, none⟩) :: rest) k ρ df Γ :=
 reg_quiet rfl (fun hF _ => quiet_of_run fun w => by
   obtain ⟨h0, h1⟩ := hb
   simp only [execOp, hx, Option.map_some, Option.map_none, hl, Instr.sliceAt, Instr.slice, Sem.run_bind, run_underlying hT.und, Result.andThen_ok, Instr.sliceBounds, Instr.sliceBound, asIntOf, Sem.run_pure]
   simp only [h0, h1, and_self, if_true, Sem.run_pure, Result.andThen_ok, hS.size_run]
   rfl) h
theorem RdSl.blk {b off cap len : Nat} (h : RdSl w0 sh encE m (.slice (some ⟨b, off, none⟩) len cap) l) (hne : l ≠ []) (hm : 0 < m) :
   ∃ c T fr, (∀ hF Γ w, Sh sh hF → St w0 hF Γ w → w.heap[b]? = some (.cells (List.toArray c) T fr)) ∧ (c.drop off).take (l.length * m) = l.flatMap encE ∧ off + l.length * m ≤ c.length := by
 obtain ⟨a', cap', h1, _, h2⟩ := h
 obtain ⟨b', off', c, T, fr, e, hh, hc⟩ := h2.resolve_left hne
 cases h1
 cases e
 have hq : ∀ x ∈ l, (encE x).length = m := fun x hx => by
   obtain ⟨i, hi⟩ := List.mem_iff_getElem?.1 hx
   exact (hc i x hi).1
 have key : ∀ j, j < l.length * m → c.toList[off + j]? = (l.flatMap encE)[j]? := fun j hj => by
   have hi : j / m < l.length := Nat.div_lt_of_lt_mul (by rw [Nat.mul_comm]; exact hj)
   have hx : l[j / m]? = some l[j / m] := List.getElem?_eq_getElem hi
   have hk : j % m < (encE l[j / m]).length := by rw [hq _ (List.getElem_mem hi)]; exact Nat.mod_lt _ hm
   have hu : (encE l[j / m])[j % m]? = some (encE l[j / m])[j % m] := List.getElem?_eq_getElem hk
   have g1 := (hc _ _ hx).2 _ _ hu
   have g2 := flat_at l hq _ _ hx _ _ hu
   have e : j / m * m + j % m = j := by rw [Nat.mul_comm]; exact Nat.div_add_mod j m
   rw [e] at g1 g2
   rw [g2, ← g1]; simp
 have hlen : (l.flatMap encE).length = l.length * m := flat_len l hq
 have hle : off + l.length * m ≤ c.toList.length := by
   cases hl : l.length * m with
   | zero =>
     have : 0 < l.length := List.length_pos_iff.2 hne
     have := Nat.mul_pos this hm
     omega
   | succ q =>
     have h3 := key q (by omega)
     rw [List.getElem?_eq_getElem (show q < (l.flatMap encE).length by omega)] at h3
     have := (List.getElem?_eq_some_iff.1 h3).1
     omega
 refine ⟨c.toList, T, fr, fun hF Γ w h1 h2 => by simpa using hh hF Γ w h1 h2, ?_, hle⟩
 apply List.ext_getElem?
 intro j
 by_cases hj : j < l.length * m
 · rw [List.getElem?_take, if_pos hj, List.getElem?_drop, key j hj]
 · rw [List.getElem?_eq_none (by rw [List.length_take]; omega), List.getElem?_eq_none (by omega)]
theorem reg_append_rdE (j : Nat) {G : Option Addr → Nat → List Asn} {dst : Option Tmp} {a : Option Addr} {len cap bytes : Nat} {agg : Bool} {t e t2 e2 : TypeId} {cs : List Value} {zv : Value}
   [hT : TUnd P t (.slice e)] [hS : TShape P e agg m] [hZ : TZeroV P e zv] [hI : TInfo P e bytes] [hT2 : TUnd P t2 (.slice e2)]
   (hx : ev ρ x = .slice a len cap) (hy : ev ρ y = v) (hv : RdSl w0 sh encE m v l) (hm : 0 < m) (hone : allOne (l.flatMap encE) = true) (hj : getAt j Γ = some (SlA e m a len cap cs))
   (hzs : zv.cells.size = m) (hsmall : (2 * (len + l.length) + 192) * bytes ≤ 281474976710656 ∧ len + l.length ≤ 9223372036854775807)
   (hput : ∀ a' cap', putAt j (SlA e m a' (len + l.length) cap' (cs ++ l.flatMap encE)) Γ = some (G a' cap'))
   (h : ∀ a' cap', Reg P w0 n sh Q ops rest k (ρ.setO dst (.slice a' (len + l.length) cap')) df (G a' cap')) :
   Reg P w0 n sh Q ops ((Fl.loud, i, ⟨dst, .call ⟨.builtin .append, #[x, y], #[t, t2]⟩, ty, pos, aft, none⟩) :: rest) k ρ df Γ := by
 refine reg_loud rfl (fun v df' Γ' => ∃ a' cap', v = .slice a' (len + l.length) cap' ∧ df' = df ∧ putAt j (SlA e m a' (len + l.length) cap' (cs ++ l.flatMap encE)) Γ = some Γ') (fun hF hsh => ?_) ?_
 · by_cases hne : l = []
   · subst hne
     obtain ⟨a2, cap2, h1, _, _⟩ := hv
     exact opW_append0 (sz := m) (e2 := e2) hx (hy.trans h1) hj (by simpa using hsmall.2)
   · obtain ⟨a2, cap2, h1, _, h2⟩ := id hv
     obtain ⟨b', off', _, _, _, e', _⟩ := h2.resolve_left hne
     subst e'
     rw [h1] at hv
     obtain ⟨c, T, fr, g1, g2, g3⟩ := hv.blk hne hm
     exact opW_append (T2 := T) (fr := fr) (c2 := c) (hT := hT) (hS := hS) (hZ := hZ) (hI := hI) (hT2 := hT2) (new := l.flatMap encE) rfl hx (hy.trans h1) hj (fun w hst => g1 hF _ w hsh hst) g2 g3 hone hzs hsmall.1 hsmall.2
 · rintro v df' Γ' ⟨a', cap', h3, h4, h5⟩
   subst h3; subst h4
   rw [hput] at h5
   cases h5
   exact h a' cap'
def LstE (encE : α → List Value) (q : Nat) (T : TypeId) (v : Value) (l : List α) : Asn := fun h => (∀ x ∈ l, (encE x).length = q) ∧ ∃ a cap, v = .slice a l.length cap ∧ SlA T q a l.length cap (l.flatMap encE) h
theorem LstE.ofSl {q : Nat} {T : TypeId} {a : Option Addr} {len cap : Nat} (hq : ∀ x ∈ l, (encE x).length = q) (hl : l.length = len) (g : Heap) (hg : SlA T q a len cap (l.flatMap encE) g) : LstE encE q T (.slice a len cap) l g := by
 subst hl; exact ⟨hq, a, cap, rfl, hg⟩
theorem LstE.nil {q : Nat} {T : TypeId} : LstE encE q T (.slice none 0 0) ([] : List α) Heap.emp := ⟨fun x hx => by simp at hx, none, 0, rfl, SlA_nil⟩
end
end Go.Vc
namespace Go.Vc
section
variable {P : Program} {w0 : World} {n : Nat} {sh : Shared} {Q : Exit → Env → List Deferred → List Asn → Prop} {k : List Item} {ρ : Env} {df : List Deferred} {Γ : List Asn}
variable {ops : Array Oper} {l : List (Fl × Nat × Oper)} {i : Nat} {ty yt : TypeId} {pos : String} {aft : Array Edge}
variable {b : Fl} {x y : Operand} {d : Tmp}
theorem reg_eq_nilI {t u : TypeId} {v : Value} {ms : Array (String × TypeId)} [hT : TUnd P t (.interface ms)] (hx : ev ρ x = .iface u v) (hy : ev ρ y = .nilIface) (h : Reg P w0 n sh Q ops l k (ρ.set d (.bool false)) df Γ) :
   Reg P w0 n sh Q ops ((b, i, ⟨some d, .binOp .eql t x y yt, ty, pos, aft, none⟩) :: l) k ρ df Γ :=
 reg_eq_gen hx hy (by rfl) (by rfl) (fun d w => by simp only [Op.equalIn, Sem.run_bind, run_underlying hT.und, Result.andThen_ok, Sem.run_pure]) h
theorem reg_mkI {t : TypeId} {v : Value} (hs : ∀ w, (Instr.makeInterface t v).run P w = .ok (.iface t v) w) (hx : ev ρ x = v) (h : Reg P w0 n sh Q ops l k (ρ.set d (.iface t v)) df Γ) :
   Reg P w0 n sh Q ops ((b, i, ⟨some d, .makeInterface t x, ty, pos, aft, none⟩) :: l) k ρ df Γ :=
 reg_quiet rfl (fun hF _ => quiet_of_run fun w => by
   simp only [execOp, hx, Sem.run_bind, hs, Result.andThen_ok]; rfl) h
theorem reg_eq_sl0 {t e : TypeId} {n1 c1 n2 c2 : Nat} [hT : TUnd P t (.slice e)] (hx : ev ρ x = .slice none n1 c1) (hy : ev ρ y = .slice none n2 c2) (h : Reg P w0 n sh Q ops l k (ρ.set d (.bool true)) df Γ) :
   Reg P w0 n sh Q ops ((b, i, ⟨some d, .binOp .eql t x y yt, ty, pos, aft, none⟩) :: l) k ρ df Γ :=
 reg_eq_gen hx hy (by rfl) (by rfl) (fun d w => by simp only [Op.equalIn, Sem.run_bind, run_underlying hT.und, Result.andThen_ok, Sem.run_pure, Option.isNone_none]) h
theorem reg_eq_sl1 {t e : TypeId} {a : Addr} {n1 c1 n2 c2 : Nat} [hT : TUnd P t (.slice e)] (hx : ev ρ x = .slice (some a) n1 c1) (hy : ev ρ y = .slice none n2 c2) (h : Reg P w0 n sh Q ops l k (ρ.set d (.bool false)) df Γ) :
   Reg P w0 n sh Q ops ((b, i, ⟨some d, .binOp .eql t x y yt, ty, pos, aft, none⟩) :: l) k ρ df Γ :=
 reg_eq_gen hx hy (by rfl) (by rfl) (fun d w => by simp only [Op.equalIn, Sem.run_bind, run_underlying hT.und, Result.andThen_ok, Sem.run_pure]) h
theorem reg_andE {kd : IntKind} {u v r : Int} {t2 t : TypeId} (hx : ev ρ x = .int kd u) (hy : ev ρ y = .int kd v) (hr : kd.wrap ((BitVec.ofInt kd.bits u &&& BitVec.ofInt kd.bits v).toNat : Nat) = r) (h : Reg P w0 n sh Q ops l k (ρ.set d (.int kd r)) df Γ) :
   Reg P w0 n sh Q ops ((b, i, ⟨some d, .binOp .and t x y t2, ty, pos, aft, none⟩) :: l) k ρ df Γ :=
 reg_quiet rfl (fun hF _ => quiet_of_run fun w => by
   simp only [execOp, hx, hy, eqGuard, binOp, Op.intBits, Sem.run_bind, Sem.run_pure, Result.andThen_ok, Bool.not_false, if_true, ne_eq, not_true_eq_false, if_false, hr]) h
theorem reg_convE {src dst : TypeId} {sd : TypeDesc} {kd kd' : IntKind} {m r : Int} [hs : TUnd P src sd] [hd : TUnd P dst (.int kd')] (hx : ev ρ x = .int kd m) (hr : kd'.wrap m = r)
   (h : Reg P w0 n sh Q ops l k (ρ.set d (.int kd' r)) df Γ) : Reg P w0 n sh Q ops ((b, i, ⟨some d, .convert src dst x, ty, pos, aft, none⟩) :: l) k ρ df Γ := zca hx (by rw [hr]; exact h)
theorem wrap_u64 {x : Int} (h : 0 ≤ x ∧ x ≤ 18446744073709551615) : IntKind.u64.wrap x = x := by rw [IntKind.wrap_u64]; omega
variable {kt et : TypeId} {kd : IntKind} {zv : Value} {r : Nat} {ml : List (Int × Value)} {a : Int}
end
end Go.Vc
namespace Go.Vc
theorem str_eq (a b : ByteArray) : (a.toList == b.toList) = decide (a = b) := by
 by_cases h : a = b
 · subst h; simp
 · rw [decide_eq_false h, beq_eq_false_iff_ne]
   intro e
   refine h ?_
   rw [ByteArray.toList_eq, ByteArray.toList_eq] at e
   exact WideShapes.bytes_inj e
section
variable {P : Program} {w0 : World} {n : Nat} {sh : Shared} {Q : Exit → Env → List Deferred → List Asn → Prop} {k : List Item} {ρ : Env} {df : List Deferred} {Γ : List Asn}
variable {ops : Array Oper} {l : List (Fl × Nat × Oper)} {i : Nat} {ty yt t : TypeId} {pos : String} {aft : Array Edge}
variable {f : Fl} {x y : Operand} {d : Tmp} {a b : ByteArray}
theorem reg_eqS (hx : ev ρ x = .string a) (hy : ev ρ y = .string b) (h : Reg P w0 n sh Q ops l k (ρ.set d (.bool (decide (a = b)))) df Γ) :
   Reg P w0 n sh Q ops ((f, i, ⟨some d, .binOp .eql t x y yt, ty, pos, aft, none⟩) :: l) k ρ df Γ :=
 reg_quiet rfl (fun hF _ => quiet_of_run fun w => by simp [execOp, hx, hy, go_sem, str_eq]) h
theorem reg_neS (hx : ev ρ x = .string a) (hy : ev ρ y = .string b) (h : Reg P w0 n sh Q ops l k (ρ.set d (.bool (decide (a ≠ b)))) df Γ) :
   Reg P w0 n sh Q ops ((f, i, ⟨some d, .binOp .neq t x y yt, ty, pos, aft, none⟩) :: l) k ρ df Γ :=
 reg_quiet rfl (fun hF _ => quiet_of_run fun w => by simp [execOp, hx, hy, go_sem, str_eq]) h
theorem reg_ltS (hx : ev ρ x = .string a) (hy : ev ρ y = .string b) (h : Reg P w0 n sh Q ops l k (ρ.set d (.bool (Op.bytesLess a.toList b.toList))) df Γ) :
   Reg P w0 n sh Q ops ((f, i, ⟨some d, .binOp .lss t x y yt, ty, pos, aft, none⟩) :: l) k ρ df Γ :=
 reg_quiet rfl (fun hF _ => quiet_of_run fun w => by simp [execOp, hx, hy, go_sem]) h
theorem reg_addS (hx : ev ρ x = .string a) (hy : ev ρ y = .string b) (hb : a.size + b.size ≤ 9223372036854775807) (h : Reg P w0 n sh Q ops l k (ρ.set d (.string (a ++ b))) df Γ) :
   Reg P w0 n sh Q ops ((f, i, ⟨some d, .binOp .add t x y yt, ty, pos, aft, none⟩) :: l) k ρ df Γ :=
 reg_quiet rfl (fun hF _ => quiet_of_run fun w => by simp [execOp, hx, hy, go_sem, run_string_add_sum w a b hb]) h
theorem zdy [hT : TUnd P t .string] (hx : ev ρ x = .string a) (h : Reg P w0 n sh Q ops l k (ρ.set d (.int .i64 a.size)) df Γ) :
   Reg P w0 n sh Q ops ((f, i, ⟨some d, .call ⟨.builtin .len, #[x], #[t]⟩, ty, pos, aft, none⟩) :: l) k ρ df Γ :=
 reg_quiet rfl (fun hF _ => quiet_of_run fun w => by
   simp [execOp, resolve, invoke, builtin, Builtin.len_, hx, run_underlying hT.und, goInt]) h
end
end Go.Vc
namespace Go.Vc
abbrev SM : Type := List (ByteArray × Value)
def EsOk (es : List MapEntry) (l : SM) : Prop := es.map (fun e => (e.key, e.val)) = l.map fun p => (.string p.1, p.2)
theorem EsOk.cons {es : List MapEntry} {p : ByteArray × Value} {l : SM} (h : EsOk es (p :: l)) : ∃ e es', es = e :: es' ∧ e.key = .string p.1 ∧ e.val = p.2 ∧ EsOk es' l := by
 cases es with
 | nil => cases h
 | cons e es' =>
   unfold EsOk at h
   rw [List.map_cons, List.map_cons] at h
   injection h with h1 h2
   injection h1 with h3 h4
   exact ⟨e, es', rfl, h3, h4, h2⟩
theorem EsOk.nil {es : List MapEntry} (h : EsOk es []) : es = [] := by cases es with | nil => rfl | cons => cases h
theorem EsOk.len {es : List MapEntry} {l : SM} (h : EsOk es l) : es.length = l.length := by have := congrArg List.length h; simpa using this
theorem str_beq (a b : ByteArray) : (a == b) = decide (a = b) := by rw [beq_toListBytes, str_eq]
theorem EsOk.push {es : List MapEntry} {l : SM} (h : EsOk es l) (x : ByteArray) (u : Value) (q : Nat) : EsOk (es ++ [{ key := .string x, val := u, born := q }]) (l ++ [(x, u)]) := by
 unfold EsOk at h ⊢
 rw [List.map_append, List.map_append, h]; rfl
section
variable {P : Program} {w0 : World} {n : Nat} {sh : Shared} {Q : Exit → Env → List Deferred → List Asn → Prop} {k : List Item} {ρ : Env} {df : List Deferred} {Γ : List Asn} {hF : Heap}
variable {ops : Array Oper} {l : List (Fl × Nat × Oper)} {b : Fl} {i d : Nat} {ty : TypeId} {pos : String} {aft : Array Edge}
variable {x y z : Operand} {t kt et : TypeId} {r : Nat} {a : ByteArray} {ml : SM} {zv : Value}
theorem run_getMap {w : World} {es : List MapEntry} {clock : Nat} (h : w.heap[r]? = some (.map es.toArray clock)) : (getObj r).run P w = .ok (.map es.toArray clock) w := by
 simp only [getObj, Sem.run, h]
theorem run_checkKeyS {w : World} (hk : P.underlying kt = some .string) (em : Bool) (d : Nat) : (Instr.checkKey em (d + 1) kt (.string a)).run P w = .ok () w := by
 simp only [Instr.checkKey, Sem.run_bind, run_underlying hk, Result.andThen_ok, Sem.run_pure]
end
end Go.Vc
namespace Go.Vc
section
variable {P : Program} {w0 : World} {n : Nat} {sh : Shared} {Q : Exit → Env → List Deferred → List Asn → Prop} {k : List Item} {ρ : Env} {df : List Deferred} {Γ : List Asn} {hF : Heap}
variable {ops : Array Oper} {l : List (Fl × Nat × Oper)} {b : Fl} {i d : Nat} {ty : TypeId} {pos : String} {aft : Array Edge}
variable {x y z : Operand} {t kt et : TypeId} {r : Nat} {a : ByteArray} {ml : SM} {zv : Value}
def RdM (w0 : World) (sh : Shared) (r : Nat) (ml : SM) : Prop := ∃ es clock, (∀ hF Γ w, Sh sh hF → St w0 hF Γ w → w.heap[r]? = some (.map es.toArray clock)) ∧ EsOk es ml
theorem RdM.mono {sh' : Shared} (h : RdM w0 sh r ml) (hs : ∀ p ∈ sh, p ∈ sh') : RdM w0 sh' r ml := by
 obtain ⟨es, clock, h1, h2⟩ := h
 exact ⟨es, clock, fun hF Γ w hsh hst => h1 hF Γ w (fun p hp => hsh p (hs p hp)) hst, h2⟩
end
end Go.Vc
namespace Sim
inductive PE where
 | mk (kind num : Int) (name meth : ByteArray) (args or : List PE)
inductive PS where
 | mk (kind : Int) (name : ByteArray) (num : Int) (expr : PE) (body els : List PS)
namespace PE
def kind : PE → Int | mk k _ _ _ _ _ => k
def num : PE → Int | mk _ k _ _ _ _ => k
def name : PE → ByteArray | mk _ _ k _ _ _ => k
def meth : PE → ByteArray | mk _ _ _ k _ _ => k
def args : PE → List PE | mk _ _ _ _ k _ => k
def or : PE → List PE | mk _ _ _ _ _ k => k
mutual
def size : PE → Nat
 | mk _ _ _ _ a o => 1 + sizeL a + sizeL o
def sizeL : List PE → Nat
 | [] => 0
 | e :: l => size e + sizeL l
end
end PE
namespace PS
def kind : PS → Int | mk k _ _ _ _ _ => k
def name : PS → ByteArray | mk _ k _ _ _ _ => k
def num : PS → Int | mk _ _ k _ _ _ => k
def expr : PS → PE | mk _ _ _ k _ _ => k
def body : PS → List PS | mk _ _ _ _ k _ => k
def els : PS → List PS | mk _ _ _ _ _ k => k
mutual
def size : PS → Nat
 | mk _ _ _ e a o => 1 + e.size + sizeL a + sizeL o
def sizeL : List PS → Nat
 | [] => 0
 | e :: l => size e + sizeL l
end
end PS
end Sim
namespace Go.Vc
open Sim
abbrev RdC (w0 : World) (sh : Shared) (m : Nat) (v : Value) (cl : List (List Value)) : Prop := RdSl w0 sh (fun c => c) m v cl
abbrev peC (kind num : Int) (name meth : ByteArray) (va vo : Value) : List Value := [.int .i64 kind, .int .i64 num, .string name, .string meth, va, vo]
mutual
def RdE (w0 : World) (sh : Shared) : PE → List Value → Prop
 | .mk kind num name meth args or, cs => ∃ va vo cl cl', cs = peC kind num name meth va vo ∧ RdC w0 sh 6 va cl ∧ RdEs w0 sh args cl ∧ RdC w0 sh 6 vo cl' ∧ RdEs w0 sh or cl'
def RdEs (w0 : World) (sh : Shared) : List PE → List (List Value) → Prop
 | [], cl => cl = []
 | e :: l, cl => ∃ c cl', cl = c :: cl' ∧ RdE w0 sh e c ∧ RdEs w0 sh l cl'
end
def RdEl (w0 : World) (sh : Shared) (v : Value) (l : List PE) : Prop := ∃ cl, RdC w0 sh 6 v cl ∧ RdEs w0 sh l cl
mutual
def RdS (w0 : World) (sh : Shared) : PS → List Value → Prop
 | .mk kind name num expr body els, cs => ∃ ce vb ve cl cl', cs = [.int .i64 kind, .string name, .int .i64 num] ++ ce ++ [vb, ve] ∧ RdE w0 sh expr ce ∧ RdC w0 sh 11 vb cl ∧ RdSs w0 sh body cl ∧ RdC w0 sh 11 ve cl' ∧ RdSs w0 sh els cl'
def RdSs (w0 : World) (sh : Shared) : List PS → List (List Value) → Prop
 | [], cl => cl = []
 | e :: l, cl => ∃ c cl', cl = c :: cl' ∧ RdS w0 sh e c ∧ RdSs w0 sh l cl'
end
def RdSt (w0 : World) (sh : Shared) (v : Value) (l : List PS) : Prop := ∃ cl, RdC w0 sh 11 v cl ∧ RdSs w0 sh l cl
section
variable {w0 : World} {sh sh' : Shared}
mutual
theorem RdE.mono (hs : ∀ p ∈ sh, p ∈ sh') : ∀ {e : PE} {cs : List Value}, RdE w0 sh e cs → RdE w0 sh' e cs
 | .mk _ _ _ _ _ _, _, h => by
   unfold RdE at h ⊢
   obtain ⟨va, vo, cl, cl', h1, h2, h3, h4, h5⟩ := h
   exact ⟨va, vo, cl, cl', h1, h2.mono hs, RdEs.mono hs h3, h4.mono hs, RdEs.mono hs h5⟩
theorem RdEs.mono (hs : ∀ p ∈ sh, p ∈ sh') : ∀ {l : List PE} {cl : List (List Value)}, RdEs w0 sh l cl → RdEs w0 sh' l cl
 | [], _, h => by unfold RdEs at h ⊢; exact h
 | _ :: _, _, h => by
   unfold RdEs at h ⊢
   obtain ⟨c, cl', h1, h2, h3⟩ := h
   exact ⟨c, cl', h1, RdE.mono hs h2, RdEs.mono hs h3⟩
end
theorem RdEl.mono {v : Value} {l : List PE} (h : RdEl w0 sh v l) (hs : ∀ p ∈ sh, p ∈ sh') : RdEl w0 sh' v l := let ⟨cl, h1, h2⟩ := h; ⟨cl, h1.mono hs, h2.mono hs⟩
mutual
theorem RdS.mono (hs : ∀ p ∈ sh, p ∈ sh') : ∀ {e : PS} {cs : List Value}, RdS w0 sh e cs → RdS w0 sh' e cs
 | .mk _ _ _ _ _ _, _, h => by
   unfold RdS at h ⊢
   obtain ⟨ce, vb, ve, cl, cl', h1, h0, h2, h3, h4, h5⟩ := h
   exact ⟨ce, vb, ve, cl, cl', h1, h0.mono hs, h2.mono hs, RdSs.mono hs h3, h4.mono hs, RdSs.mono hs h5⟩
theorem RdSs.mono (hs : ∀ p ∈ sh, p ∈ sh') : ∀ {l : List PS} {cl : List (List Value)}, RdSs w0 sh l cl → RdSs w0 sh' l cl
 | [], _, h => by unfold RdSs at h ⊢; exact h
 | _ :: _, _, h => by
   unfold RdSs at h ⊢
   obtain ⟨c, cl', h1, h2, h3⟩ := h
   exact ⟨c, cl', h1, RdS.mono hs h2, RdSs.mono hs h3⟩
end
theorem RdSt.mono {v : Value} {l : List PS} (h : RdSt w0 sh v l) (hs : ∀ p ∈ sh, p ∈ sh') : RdSt w0 sh' v l := let ⟨cl, h1, h2⟩ := h; ⟨cl, h1.mono hs, h2.mono hs⟩
theorem RdE.cs {e : PE} {cs : List Value} (h : RdE w0 sh e cs) : ∃ va vo, cs = peC e.kind e.num e.name e.meth va vo ∧ RdEl w0 sh va e.args ∧ RdEl w0 sh vo e.or := by
 cases e
 unfold RdE at h
 obtain ⟨va, vo, cl, cl', h1, h2, h3, h4, h5⟩ := h
 exact ⟨va, vo, h1, ⟨cl, h2, h3⟩, ⟨cl', h4, h5⟩⟩
theorem RdE.of {e : PE} {va vo : Value} (h1 : RdEl w0 sh va e.args) (h2 : RdEl w0 sh vo e.or) : RdE w0 sh e (peC e.kind e.num e.name e.meth va vo) := by
 cases e
 obtain ⟨cl, h3, h4⟩ := h1
 obtain ⟨cl', h5, h6⟩ := h2
 unfold RdE
 exact ⟨va, vo, cl, cl', rfl, h3, h4, h5, h6⟩
theorem RdS.cs {e : PS} {cs : List Value} (h : RdS w0 sh e cs) : ∃ va vo vb ve, cs = [.int .i64 e.kind, .string e.name, .int .i64 e.num, .int .i64 e.expr.kind, .int .i64 e.expr.num, .string e.expr.name, .string e.expr.meth, va, vo, vb, ve] ∧ RdE w0 sh e.expr (peC e.expr.kind e.expr.num e.expr.name e.expr.meth va vo) ∧ RdSt w0 sh vb e.body ∧ RdSt w0 sh ve e.els := by
 cases e
 unfold RdS at h
 obtain ⟨ce, vb, ve, cl, cl', h1, h0, h2, h3, h4, h5⟩ := h
 obtain ⟨va, vo, h6, h7, h8⟩ := h0.cs
 subst h6
 exact ⟨va, vo, vb, ve, h1, h0, ⟨cl, h2, h3⟩, ⟨cl', h4, h5⟩⟩
theorem RdEs.len : ∀ {l : List PE} {cl : List (List Value)}, RdEs w0 sh l cl → cl.length = l.length
 | [], _, h => by unfold RdEs at h; rw [h]; rfl
 | _ :: l, _, h => by
   unfold RdEs at h
   obtain ⟨c, cl', h1, h2, h3⟩ := h
   rw [h1, List.length_cons, List.length_cons, RdEs.len h3]
theorem RdEs.at : ∀ {l : List PE} {cl : List (List Value)}, RdEs w0 sh l cl → ∀ {i : Nat} {e : PE}, l[i]? = some e → ∃ c, cl[i]? = some c ∧ RdE w0 sh e c
 | [], _, _, i, e, he => by simp at he
 | _ :: l, _, h, i, e, he => by
   unfold RdEs at h
   obtain ⟨c, cl', h1, h2, h3⟩ := h
   subst h1
   cases i with
   | zero => simp at he; subst he; exact ⟨c, rfl, h2⟩
   | succ i => rw [List.getElem?_cons_succ] at he ⊢; exact RdEs.at h3 he
theorem RdEs.snoc : ∀ {l : List PE} {cl : List (List Value)} {e : PE} {c : List Value}, RdEs w0 sh l cl → RdE w0 sh e c → RdEs w0 sh (l ++ [e]) (cl ++ [c])
 | [], _, e, c, h, he => by unfold RdEs at h; subst h; unfold RdEs; exact ⟨c, [], rfl, he, by unfold RdEs; rfl⟩
 | _ :: l, _, e, c, h, he => by
   unfold RdEs at h
   obtain ⟨c1, cl', h1, h2, h3⟩ := h
   subst h1
   rw [List.cons_append, List.cons_append]
   unfold RdEs
   exact ⟨c1, _, rfl, h2, RdEs.snoc h3 he⟩
theorem RdSs.len : ∀ {l : List PS} {cl : List (List Value)}, RdSs w0 sh l cl → cl.length = l.length
 | [], _, h => by unfold RdSs at h; rw [h]; rfl
 | _ :: l, _, h => by
   unfold RdSs at h
   obtain ⟨c, cl', h1, h2, h3⟩ := h
   rw [h1, List.length_cons, List.length_cons, RdSs.len h3]
theorem RdSs.at : ∀ {l : List PS} {cl : List (List Value)}, RdSs w0 sh l cl → ∀ {i : Nat} {e : PS}, l[i]? = some e → ∃ c, cl[i]? = some c ∧ RdS w0 sh e c
 | [], _, _, i, e, he => by simp at he
 | _ :: l, _, h, i, e, he => by
   unfold RdSs at h
   obtain ⟨c, cl', h1, h2, h3⟩ := h
   subst h1
   cases i with
   | zero => simp at he; subst he; exact ⟨c, rfl, h2⟩
   | succ i => rw [List.getElem?_cons_succ] at he ⊢; exact RdSs.at h3 he
theorem RdEl.len {v : Value} {l : List PE} (h : RdEl w0 sh v l) : ∃ a cap, v = .slice a l.length cap ∧ l.length ≤ cap := by
 obtain ⟨cl, h1, h2⟩ := h
 obtain ⟨a, cap, e, hc, _⟩ := id h1
 rw [h2.len] at e hc
 exact ⟨a, cap, e, hc⟩
theorem RdSt.len {v : Value} {l : List PS} (h : RdSt w0 sh v l) : ∃ a cap, v = .slice a l.length cap ∧ l.length ≤ cap := by
 obtain ⟨cl, h1, h2⟩ := h
 obtain ⟨a, cap, e, hc, _⟩ := id h1
 rw [h2.len] at e hc
 exact ⟨a, cap, e, hc⟩
theorem RdEl.at {a : Option Addr} {len cap : Nat} {l : List PE} (h : RdEl w0 sh (.slice a len cap) l) {i : Nat} {e : PE} (he : l[i]? = some e) :
   ∃ b off c T fr cs, a = some ⟨b, off, none⟩ ∧ (∀ hF Γ w, Sh sh hF → St w0 hF Γ w → w.heap[b]? = some (.cells c T fr)) ∧ (∀ o, o = off + i * 6 → rd true 6 c.toList o = some (.agg (List.toArray cs))) ∧ RdE w0 sh e cs ∧ (∀ k u, cs[k]? = some u → ∀ o, o = off + i * 6 + k → rd false 1 c.toList o = some u) := by
 obtain ⟨cl, h1, h2⟩ := h
 obtain ⟨c0, h3, h4⟩ := h2.at he
 obtain ⟨b, off, c, T, fr, e1, e2, e3, e4⟩ := h1.cells h3
 exact ⟨b, off, c, T, fr, c0, e1, e2, e3, h4, e4⟩
theorem RdSt.at {a : Option Addr} {len cap : Nat} {l : List PS} (h : RdSt w0 sh (.slice a len cap) l) {i : Nat} {e : PS} (he : l[i]? = some e) :
   ∃ b off c T fr cs, a = some ⟨b, off, none⟩ ∧ (∀ hF Γ w, Sh sh hF → St w0 hF Γ w → w.heap[b]? = some (.cells c T fr)) ∧ (∀ o, o = off + i * 11 → rd true 11 c.toList o = some (.agg (List.toArray cs))) ∧ RdS w0 sh e cs ∧ (∀ k u, cs[k]? = some u → ∀ o, o = off + i * 11 + k → rd false 1 c.toList o = some u) := by
 obtain ⟨cl, h1, h2⟩ := h
 obtain ⟨c0, h3, h4⟩ := h2.at he
 obtain ⟨b, off, c, T, fr, e1, e2, e3, e4⟩ := h1.cells h3
 exact ⟨b, off, c, T, fr, c0, e1, e2, e3, h4, e4⟩
end
end Go.Vc
namespace Go.Vc
def Rds (φ : Shared → Prop) : Asn := fun g => ∃ bl : Shared, (∀ p ∈ bl, g p.1 = some p.2) ∧ φ bl
theorem Rds.mono {φ ψ : Shared → Prop} (h : ∀ bl, φ bl → ψ bl) (g : Heap) (hg : Rds φ g) : Rds ψ g := let ⟨bl, h1, h2⟩ := hg; ⟨bl, h1, h bl h2⟩
theorem or_left {g1 g2 : Heap} {p : Nat × Obj} (h : g1 p.1 = some p.2) : (g1.or g2) p.1 = some p.2 := by unfold Heap.or; rw [h]
theorem or_right {g1 g2 : Heap} (hd : Disj g1 g2) {p : Nat × Obj} (h : g2 p.1 = some p.2) : (g1.or g2) p.1 = some p.2 := by
 unfold Heap.or
 rcases hd p.1 with e | e
 · rw [e]; exact h
 · rw [e] at h; cases h
theorem Rds.join {φ ψ χ : Shared → Prop} (h : ∀ b1 b2, φ b1 → ψ b2 → χ (b1 ++ b2)) (g : Heap) (hg : Stars [Rds φ, Rds ψ] g) : Rds χ g := by
 obtain ⟨g1, g2, hd, rfl, ⟨b1, h1, h2⟩, hs⟩ := hg
 obtain ⟨b2, h3, h4⟩ := Stars.one.1 hs
 refine ⟨b1 ++ b2, fun p hp => ?_, h b1 b2 h2 h4⟩
 rcases List.mem_append.1 hp with hp | hp
 · exact or_left (h1 p hp)
 · exact or_right hd (h3 p hp)
theorem Rds.of_pt {b : Nat} {o : Obj} (g : Heap) (hg : pt b o g) : Rds (fun bl => (b, o) ∈ bl) g := ⟨[(b, o)], fun p hp => by rw [List.mem_singleton.1 hp]; simp only [pt] at hg; subst hg; simp [Heap.one], .head _⟩
theorem Rds.emp {φ : Shared → Prop} (h : φ []) : Rds φ Heap.emp := ⟨[], fun _ hp => absurd hp List.not_mem_nil, h⟩
section
variable {P : Program} {w0 : World} {n : Nat} {sh : Shared} {Q : Exit → Env → List Deferred → List Asn → Prop} {k : List Item} {ρ : Env} {df : List Deferred} {Γ : List Asn} {φ : Shared → Prop}
end
theorem Rds.ofSl {α : Type} {w0 : World} {encE : α → List Value} {q : Nat} {T : TypeId} {a : Option Addr} {len cap : Nat} {l : List α} (hq : ∀ x ∈ l, (encE x).length = q) (hl : l.length = len) (g : Heap) (hg : SlA T q a len cap (l.flatMap encE) g) :
   Rds (fun bl => RdSl w0 bl encE q (.slice a len cap) l) g := by
 subst hl
 cases a with
 | none =>
   obtain ⟨e1, e2, e3, e4⟩ := SlA.none_iff.1 hg
   subst e4
   have hl : l = [] := List.length_eq_zero_iff.1 e1
   subst hl
   exact Rds.emp RdSl.nil
 | some ad =>
   obtain ⟨b', spare, e1, e2, e3, e4, e5⟩ := SlA.some_iff.1 hg
   refine Rds.mono (fun bl hb => ?_) g (Rds.of_pt g e5)
   rw [e1]
   exact RdSl.flatS hq hb e3
end Go.Vc
namespace Go.Vc
def ofB (l : List UInt8) : ByteArray := ⟨l.toArray⟩
def strsV (l : List (List UInt8)) : List Value := l.map fun x => .string (ofB x)
section
variable {P : Program} {w0 : World} {n : Nat} {sh : Shared} {Q : Exit → Env → List Deferred → List Asn → Prop} {k : List Item} {ρ : Env} {df : List Deferred} {Γ : List Asn} {hF : Heap}
variable {ops : Array Oper} {l : List (Fl × Nat × Oper)} {b : Fl} {i d : Nat} {ty : TypeId} {pos : String} {aft : Array Edge}
variable {x y : Operand} {t e : TypeId} {N cap bb : Nat} {D : Array (List UInt8)} {z : Int} {v : List UInt8}
def DatS (e : TypeId) (bb N cap : Nat) (D : Array (List UInt8)) : Asn := SlA e 1 (some ⟨bb, 0, none⟩) N cap (strsV D.toList)
theorem DatS.size {h : Heap} (hA : DatS e bb N cap D h) : D.size = N := by
 have := (SlA_len hA).1
 simpa [strsV] using this
theorem strsV_get {o : Nat} (h : o < D.size) : (strsV D.toList)[o]? = some (.string (ofB D[o]!)) := by
 simp [strsV, h]
theorem reg_load_ds (j : Nat) [hT : TShape P t false 1] (hx : ev ρ x = .pointer (some ⟨bb, 0 + z.toNat * 1, none⟩)) (hj : getAt j Γ = some (DatS e bb N cap D)) (hz : 0 ≤ z ∧ z < N)
   (h : Reg P w0 n sh Q ops l k (ρ.set d (.string (ofB D[z.toNat]!))) df Γ) (hb : notQuiet b = true := by rfl) : Reg P w0 n sh Q ops ((b, i, ⟨some d, .load t x, ty, pos, aft, none⟩) :: l) k ρ df Γ := by
 refine reg_read rfl hb (fun hF _ w hst => ?_) h
 obtain ⟨r, hp⟩ := getAt_perm hj
 obtain ⟨g, hA, hB⟩ := (hst.perm hp).head
 have hs := hA.size
 obtain ⟨b', spare, h1, h2, h3, h4, h5⟩ := SlA.some_iff.1 hA
 have hb : bb = b' := by injection h1
 subst hb
 refine ⟨w, load_of hT hx (hB _ h5).get.2 ?_, hst⟩
 have hr : rd false 1 (strsV D.toList) (0 + z.toNat * 1) = some (.string (ofB D[z.toNat]!)) := by
   show nth _ _ = _
   rw [nth_eq, Nat.zero_add, Nat.mul_one]; exact strsV_get (by omega)
 simpa using rd_append (sp := spare) hr (fun h => by cases h)
theorem reg_store_ds (j : Nat) {Γ' : List Asn} {dst : Option Tmp} [hT : TShape P t false 1] (hx : ev ρ x = .pointer (some ⟨bb, 0 + z.toNat * 1, none⟩)) (hv : ev ρ y = .string (ofB v)) (hj : getAt j Γ = some (DatS e bb N cap D)) (hz : 0 ≤ z ∧ z < N)
   (hput : putAt j (DatS e bb N cap (D.setIfInBounds z.toNat v)) Γ = some Γ')
   (h : Reg P w0 n sh Q ops l k (ρ.setO dst undef) df Γ') : Reg P w0 n sh Q ops ((Fl.loud, i, ⟨dst, .store t x y, ty, pos, aft, none⟩) :: l) k ρ df Γ := by
 refine reg_loud rfl (fun v' df' Γ'' => v' = undef ∧ df' = df ∧ Γ'' = Γ') (fun hF _ w hst => ?_) (fun v' df' Γ'' ⟨h1, h2, h3⟩ => by subst h1; subst h2; subst h3; exact h)
 obtain ⟨r, hst1, hback⟩ := hst.at hj
 obtain ⟨g, hA, hB⟩ := hst1.head
 have hs := hA.size
 obtain ⟨b', spare, h1, h2, h3, h4, h5⟩ := SlA.some_iff.1 hA
 have hb : bb = b' := by injection h1
 subst hb
 have hst2 := hB _ h5
 have hw : wr [.string (ofB v)] (0 + z.toNat * 1) (strsV D.toList) = some (strsV (D.setIfInBounds z.toNat v).toList) := by
   rw [wr_one_at _ _ _ (by simp [strsV]; omega), Nat.zero_add, Nat.mul_one]
   simp [strsV, List.map_set]
 obtain ⟨w', g1, g2, g3, g4, g5, g6, g7⟩ := run_storeVar (P := P) (off := 0 + z.toNat * 1) (v := ev ρ y) (t := t) (vs := [.string (ofB v)]) (n := 1) hst2.get.2 (by rw [hv]; rfl) rfl rfl (by have := wr_append (sp := spare) hw; simpa using this)
 simp only [execOp, hx, Instr.storeAt, Instr.sureAddr, Sem.run_bind, Sem.run_pure, Result.andThen_ok, g1]
 have hl' : (strsV (D.setIfInBounds z.toNat v).toList).length = (strsV D.toList).length := by simp [strsV]
 obtain ⟨Γ'', h7, h8⟩ := hback (DatS e bb N cap (D.setIfInBounds z.toNat v)) w' ((hst2.upd g5 g6 g7 g3 g2 g4).exch fun g hg => SlA.some_iff.2 ⟨bb, spare, rfl, by rw [hl']; exact h2, h3, by rw [hl']; exact h4, by rw [Array.toList_setIfInBounds]; exact hg⟩)
 rw [hput] at h7
 cases h7
 exact ⟨Γ', ⟨rfl, rfl, rfl⟩, h8⟩
theorem run_dats (j : Nat) (hj : getAt j Γ = some (DatS e bb N cap D)) (h : D.size = N → Run P w0 n sh Q k ρ df Γ) : Run P w0 n sh Q k ρ df Γ :=
 run_know (fun hF w _ hst => by
   obtain ⟨r, hp⟩ := getAt_perm hj
   obtain ⟨g, hA, _⟩ := (hst.perm hp).head
   exact hA.size) h
theorem bytesLess_dec : ∀ x y : List UInt8, Op.bytesLess x y = decide (x < y)
 | [], [] => by simp [Op.bytesLess]
 | a :: x, [] => by simp [Op.bytesLess]
 | [], b :: y => by simp [Op.bytesLess]
 | a :: x, b :: y => by
   rw [Op.bytesLess, bytesLess_dec x y]
   by_cases h : a < b
   · simp [h, List.cons_lt_cons_iff]
   · by_cases e : a = b
     · subst e; simp
     · simp [h, e, List.cons_lt_cons_iff]
theorem bytesLess_ltStr (a b : List UInt8) : Op.bytesLess (ofB a).toList (ofB b).toList = Go.Sort.ltStr a b := by
 rw [ByteArray.toList_eq, ByteArray.toList_eq, bytesLess_dec]; rfl
theorem reg_ltB {yt : TypeId} {u v : List UInt8} (hx : ev ρ x = .string (ofB u)) (hy : ev ρ y = .string (ofB v)) (h : Reg P w0 n sh Q ops l k (ρ.set d (.bool (Go.Sort.ltStr u v))) df Γ) :
   Reg P w0 n sh Q ops ((b, i, ⟨some d, .binOp .lss t x y yt, ty, pos, aft, none⟩) :: l) k ρ df Γ :=
 reg_ltS hx hy (by rw [bytesLess_ltStr]; exact h)
theorem reg_neB {yt : TypeId} {u : ByteArray} (hx : ev ρ x = .string u) (hy : ev ρ y = .string u) (h : Reg P w0 n sh Q ops l k (ρ.set d (.bool false)) df Γ) :
   Reg P w0 n sh Q ops ((b, i, ⟨some d, .binOp .neq t x y yt, ty, pos, aft, none⟩) :: l) k ρ df Γ :=
 reg_neS hx hy (by simpa using h)
end
end Go.Vc
namespace Go.Vc
section
variable {P : Program} {w0 : World} {n : Nat} {sh : Shared} {Q : Exit → Env → List Deferred → List Asn → Prop} {k : List Item} {ρ : Env} {df : List Deferred} {Γ : List Asn} {hF : Heap}
variable {ops : Array Oper} {l : List (Fl × Nat × Oper)} {b : Fl} {i d : Nat} {ty : TypeId} {pos : String} {aft : Array Edge}
variable {x y : Operand} {t T e t2 : TypeId} {agg : Bool} {sz bytes : Nat}
end
end Go.Vc
namespace Go.Vc
abbrev encY (b : ByteArray) : List Value := [.string b]
theorem RdSl.conv {α β : Type} {encE : α → List Value} {encF : β → List Value} {m : Nat} {w0 : World} {sh : Shared} {v : Value} {l : List α} (f : α → β) (hf : ∀ x, encF (f x) = encE x) (h : RdSl w0 sh encE m v l) : RdSl w0 sh encF m v (l.map f) := by
 obtain ⟨a, cap, h1, h2, h3⟩ := h
 refine ⟨a, cap, by rw [List.length_map]; exact h1, by rw [List.length_map]; exact h2, ?_⟩
 rcases h3 with h3 | ⟨b, off, c, T, fr, e, hh, hc⟩
 · exact .inl (by rw [h3]; rfl)
 · refine .inr ⟨b, off, c, T, fr, e, hh, fun i x hx => ?_⟩
   rw [List.getElem?_map] at hx
   cases hy : l[i]? with
   | none => rw [hy] at hx; cases hx
   | some y =>
     rw [hy] at hx
     cases hx
     rw [hf]
     exact hc i y hy
def unB (l : List ByteArray) : List (List UInt8) := l.map fun b => b.data.toList
section
variable {P : Program} {w0 : World} {n : Nat} {sh : Shared} {Q : Exit → Env → List Deferred → List Asn → Prop} {k : List Item} {ρ : Env} {df : List Deferred} {Γ : List Asn} {φ : Shared → Prop}
section
variable {ops : Array Oper} {l : List (Fl × Nat × Oper)} {b : Fl} {i d : Nat} {ty yt t : TypeId} {pos : String} {aft : Array Edge} {x y : Operand}
end
end
end Go.Vc
namespace Go.Vc
section
variable {P : Program} {w0 : World} {n : Nat} {sh : Shared} {Q : Exit → Env → List Deferred → List Asn → Prop} {k : List Item} {ρ : Env} {df : List Deferred} {Γ : List Asn}
variable {ops : Array Oper} {l : List (Fl × Nat × Oper)} {b : Fl} {i d : Nat} {ty : TypeId} {pos : String} {aft : Array Edge}
variable {x y : Operand} {src dst t e : TypeId} {s : ByteArray}
end
end Go.Vc
namespace Go.Vc
section
variable {P : Program} {w0 : World} {n : Nat} {sh : Shared} {Q : Exit → Env → List Deferred → List Asn → Prop} {k : List Item} {ρ : Env} {df : List Deferred} {Γ : List Asn}
variable {ops : Array Oper} {l : List (Fl × Nat × Oper)} {b : Fl} {i d : Nat} {ty : TypeId} {pos : String} {aft : Array Edge}
variable {x y : Operand} {t yt : TypeId} {u v : ByteArray}
theorem zds (hx : ev ρ x = .string u) (hy : ev ρ y = .string v) (he : u = v) (h : Reg P w0 n sh Q ops l k (ρ.set d (.bool true)) df Γ) :
   Reg P w0 n sh Q ops ((b, i, ⟨some d, .binOp .eql t x y yt, ty, pos, aft, none⟩) :: l) k ρ df Γ := reg_eqS hx hy (by rw [decide_eq_true he]; exact h)
theorem zdr (hx : ev ρ x = .string u) (hy : ev ρ y = .string v) (he : ¬ u = v) (h : Reg P w0 n sh Q ops l k (ρ.set d (.bool false)) df Γ) :
   Reg P w0 n sh Q ops ((b, i, ⟨some d, .binOp .eql t x y yt, ty, pos, aft, none⟩) :: l) k ρ df Γ := reg_eqS hx hy (by rw [decide_eq_false he]; exact h)
theorem reg_neSF (hx : ev ρ x = .string u) (hy : ev ρ y = .string v) (he : u = v) (h : Reg P w0 n sh Q ops l k (ρ.set d (.bool false)) df Γ) :
   Reg P w0 n sh Q ops ((b, i, ⟨some d, .binOp .neq t x y yt, ty, pos, aft, none⟩) :: l) k ρ df Γ := reg_neS hx hy (by rw [decide_eq_false (by simpa using he)]; exact h)
end
end Go.Vc
namespace Sim
end Sim
namespace Go.Vc
section
variable {P : Program} {w0 : World} {n : Nat} {sh : Shared} {Q : Exit → Env → List Deferred → List Asn → Prop} {k : List Item} {ρ : Env} {df : List Deferred} {Γ : List Asn}
variable {ops : Array Oper} {l : List (Fl × Nat × Oper)} {b : Fl} {i d : Nat} {ty : TypeId} {pos : String} {aft : Array Edge}
variable {x y : Operand} {t yt : TypeId} {u : ByteArray}
end
end Go.Vc
namespace Go.Vc
theorem Rds.st {w0 : World} {φ : Shared → Prop} {Γ : List Asn} (h : ∃ hF w, St w0 hF (Rds φ :: Γ) w) : ∃ bl, φ bl := by
 obtain ⟨hF, w, h⟩ := h
 obtain ⟨g, ⟨bl, _, hb⟩, _⟩ := h.head
 exact ⟨bl, hb⟩
end Go.Vc
namespace Go.Vc
section
variable {P : Program} {w0 : World} {n : Nat} {sh : Shared} {Q : Exit → Env → List Deferred → List Asn → Prop} {k : List Item} {ρ : Env} {df : List Deferred} {Γ : List Asn}
variable {ops : Array Oper} {l : List (Fl × Nat × Oper)} {b : Fl} {i d : Nat} {ty : TypeId} {pos : String} {aft : Array Edge}
variable {x y z : Operand} {t kt et : TypeId} {kd : IntKind} {r : Nat} {a : Int} {ml : List (Int × Value)}
end
end Go.Vc
namespace Go.Vc
section
variable {P : Program} {w0 : World} {n : Nat} {sh : Shared} {Q : Exit → Env → List Deferred → List Asn → Prop} {k : List Item} {ρ : Env} {df : List Deferred} {Γ : List Asn} {φ : Shared → Prop}
end
end Go.Vc
namespace Go.Vc
end Go.Vc
namespace Go.Vc
section
variable {H : Type} {enc : TypeId × Value → H} {P : Program} {w : World} {base : Nat} {spare : Nat → Bool} {held : Bool} {t e : TypeId}
end
end Go.Vc
namespace Go.Vc
section
variable {P : Program} {w0 : World} {n : Nat} {sh : Shared} {Q : Exit → Env → List Deferred → List Asn → Prop} {k : List Item} {ρ : Env} {df : List Deferred} {Γ : List Asn}
variable {ops : Array Oper} {l : List (Fl × Nat × Oper)} {b : Fl} {i d : Nat} {ty : TypeId} {pos : String} {aft : Array Edge}
variable {x y : Operand} {t yt : TypeId} {u v : ByteArray}
end
end Go.Vc
namespace Go.Vc
section
variable {H : Type} {enc : TypeId × Value → H} {P : Program} {w : World} {base : Nat} {spare : Nat → Bool} {held : Bool} {t e : TypeId}
end
end Go.Vc
namespace Go.Vc
section
variable {P : Program} {w0 : World} {n : Nat} {sh : Shared} {Q : Exit → Env → List Deferred → List Asn → Prop} {k : List Item} {ρ : Env} {df : List Deferred} {Γ : List Asn}
variable {ops : Array Oper} {rest : List (Fl × Nat × Oper)} {b : Fl} {i d : Nat} {ty : TypeId} {pos : String} {aft : Array Edge} {x : Operand}
variable {α : Type} {encE : α → List Value} {m : Nat} {l : List α}
theorem RdSl.head {a : Option Addr} {cap q : Nat} (h : RdSl w0 sh encE m (.slice a l.length cap) l) (hq : q ≤ l.length) : RdSl w0 sh encE m (.slice a q cap) (l.take q) := by
 obtain ⟨a', cap', h1, h0, h2⟩ := h
 cases h1
 have hl : (l.take q).length = q := by rw [List.length_take]; omega
 refine ⟨a, cap, by rw [hl], by omega, ?_⟩
 rcases h2 with rfl | ⟨b, off, c, T, fr, e, hh, hc⟩
 · exact .inl (by simp)
 · refine .inr ⟨b, off, c, T, fr, e, hh, fun i x hx => ?_⟩
   rw [List.getElem?_take] at hx
   split at hx
   · exact hc i x hx
   · cases hx
def midV (a : Option Addr) (cap sz q r : Nat) : Value := .slice (if cap = q then a else a.map (·.add (q * sz))) r (cap - q)
theorem RdSl.mid {a : Option Addr} {cap q r : Nat} (h : RdSl w0 sh encE m (.slice a l.length cap) l) (hq : q + r ≤ l.length) : RdSl w0 sh encE m (midV a cap m q r) ((l.drop q).take r) := by
 have h1 := h.tail (q := q) (by omega)
 unfold tailV at h1
 rw [show l.length - q = (l.drop q).length by rw [List.length_drop]] at h1
 exact h1.head (by rw [List.length_drop]; omega)
end
end Go.Vc
namespace Go.Vc
def BornOk (es : List MapEntry) (clock : Nat) : Prop := (es.map (·.born)).Nodup ∧ ∀ e ∈ es, e.born < clock
theorem modify_born {f : MapEntry → MapEntry} (hf : ∀ e, (f e).born = e.born) : ∀ (es : List MapEntry) (j : Nat), (es.modify j f).map (·.born) = es.map (·.born)
 | [], j => by simp
 | e :: es, 0 => by simp [hf]
 | e :: es, j + 1 => by simp [modify_born hf es j]
theorem BornOk.modify {es : List MapEntry} {clock j : Nat} {f : MapEntry → MapEntry} (h : BornOk es clock) (hf : ∀ e, (f e).born = e.born) : BornOk (es.modify j f) clock := by
 have hm := modify_born hf es j
 refine ⟨by rw [hm]; exact h.1, fun e he => ?_⟩
 have : e.born ∈ (es.modify j f).map (·.born) := List.mem_map_of_mem he
 rw [hm] at this
 obtain ⟨e', h1, h2⟩ := List.mem_map.1 this
 rw [← h2]; exact h.2 e' h1
theorem BornOk.push {es : List MapEntry} {clock : Nat} (h : BornOk es clock) (k v : Value) : BornOk (es ++ [{ key := k, val := v, born := clock }]) (clock + 1) := by
 refine ⟨?_, fun e he => ?_⟩
 · rw [List.map_append, List.nodup_append]
   refine ⟨h.1, by simp, fun a ha b hb e => ?_⟩
   rw [List.map_singleton, List.mem_singleton] at hb
   have hb : b = clock := hb
   obtain ⟨x, hx, rfl⟩ := List.mem_map.1 ha
   have := h.2 x hx
   omega
 · rcases List.mem_append.1 he with he | he
   · have := h.2 e he; omega
   · rw [List.mem_singleton.1 he]; exact Nat.lt_succ_self _
section
variable {P : Program} {w0 : World} {n : Nat} {sh : Shared} {Q : Exit → Env → List Deferred → List Asn → Prop} {k : List Item} {ρ : Env} {df : List Deferred} {Γ : List Asn} {hF : Heap}
variable {ops : Array Oper} {l : List (Fl × Nat × Oper)} {b : Fl} {i d : Nat} {ty : TypeId} {pos : String} {aft : Array Edge}
variable {x y z : Operand} {t kt et : TypeId} {r : Nat} {a : ByteArray} {ml : SM} {zv : Value}
end
end Go.Vc
namespace Go.Vc
section
variable {P : Program} {w0 : World} {n : Nat} {sh : Shared} {Q : Exit → Env → List Deferred → List Asn → Prop} {k : List Item} {ρ : Env} {df : List Deferred} {Γ : List Asn} {hF : Heap}
variable {r : Nat} {ml : SM}
end
end Go.Vc
namespace Go.Vc
section
variable {P : Program} {w0 : World} {n : Nat} {sh : Shared} {Q : Exit → Env → List Deferred → List Asn → Prop} {k : List Item} {ρ : Env} {df : List Deferred} {Γ : List Asn} {hF : Heap}
end
end Go.Vc
namespace Go.Vc
def iterS (r clock : Nat) (seen : List Nat) : Obj := .mapIter (some r) clock seen.toArray clock
section
variable {P : Program} {w0 : World} {n : Nat} {sh : Shared} {Q : Exit → Env → List Deferred → List Asn → Prop} {k : List Item} {ρ : Env} {df : List Deferred} {Γ : List Asn} {hF : Heap}
variable {ops : Array Oper} {l : List (Fl × Nat × Oper)} {b : Fl} {i d : Nat} {ty : TypeId} {pos : String} {aft : Array Edge}
variable {x : Operand} {t kt et : TypeId} {r clock : Nat} {ml : SM} {es : List MapEntry}
structure RdX (w0 : World) (sh : Shared) (r : Nat) (es : List MapEntry) (clock : Nat) (ml : SM) : Prop where
 h : ∀ hF Γ w, Sh sh hF → St w0 hF Γ w → w.heap[r]? = some (.map es.toArray clock)
 ok : EsOk es ml
 born : BornOk es clock
theorem RdX.rd (h : RdX w0 sh r es clock ml) : RdM w0 sh r ml := ⟨es, clock, h.h, h.ok⟩
theorem RdX.mono {sh' : Shared} (h : RdX w0 sh r es clock ml) (hs : ∀ p ∈ sh, p ∈ sh') : RdX w0 sh' r es clock ml :=
 ⟨fun hF Γ w hsh hst => h.h hF Γ w (fun p hp => hsh p (hs p hp)) hst, h.ok, h.born⟩
theorem EsOk.mem (h : EsOk es ml) {e : MapEntry} (he : e ∈ es) : ∃ p ∈ ml, e.key = .string p.1 ∧ e.val = p.2 := by
 have h1 : (e.key, e.val) ∈ es.map (fun e => (e.key, e.val)) := List.mem_map_of_mem he
 rw [h] at h1
 obtain ⟨p, hp, hq⟩ := List.mem_map.1 h1
 exact ⟨p, hp, (congrArg Prod.fst hq).symm, (congrArg Prod.snd hq).symm⟩
theorem nextS_run {w : World} {it : Nat} {seen : List Nat} (hB : BornOk es clock) (hi : w.heap[it]? = some (iterS r clock seen)) (hm : w.heap[r]? = some (.map es.toArray clock)) (ty : TypeId) :
   ((∀ e ∈ es, e.born ∈ seen) ∧ ∃ w', (Instr.next (.pointer (some ⟨it, 0, none⟩)) false ty).run P w = .ok (.tuple #[.bool false]) w' ∧ w'.heap = w.heap ∧ w'.tape = w.tape ∧ w'.os = w.os ∧ w'.output = w.output) ∨
   (∃ e w', e ∈ es ∧ e.born ∉ seen ∧ (Instr.next (.pointer (some ⟨it, 0, none⟩)) false ty).run P w = .ok (.tuple #[.bool true, e.key, e.val]) w' ∧
     w'.heap = w.heap.setIfInBounds it (iterS r clock (seen ++ [e.born])) ∧ w'.tape = w.tape ∧ w'.os = w.os ∧ w'.output = w.output) := by
 have h1 : (getObj it).run P w = .ok (iterS r clock seen) w := by simp only [getObj, Sem.run, hi, iterS]
 have h2 : (getObj r).run P w = .ok (.map es.toArray clock) w := by simp only [getObj, Sem.run, hm]
 have hold : ∀ e ∈ es, e.born < clock := hB.2
 have hcond : (!seen.toArray.isEmpty && !es.toArray.isEmpty && es.toArray.all (fun e => decide (e.born ≥ clock))) = false := by
   cases hml : es with
   | nil => simp
   | cons e r' =>
     have := hold e (by rw [hml]; simp)
     simp
     intro _ h
     omega
 have hleft : (es.toArray.filter fun e => !seen.toArray.contains e.born) = (es.filter fun e => !seen.contains e.born).toArray := by simp
 have hold2 : ((es.filter fun e => !seen.contains e.born).toArray.filter fun e => decide (e.born < clock)) = (es.filter fun e => !seen.contains e.born).toArray := by
   rw [List.filter_toArray']
   · congr 1
     rw [List.filter_eq_self]
     intro e he
     simpa using hold e (List.mem_filter.1 he).1
   all_goals simp
 have hnew : ((es.filter fun e => !seen.contains e.born).toArray.filter fun e => decide (e.born ≥ clock)) = #[] := by
   rw [List.filter_toArray']
   · congr 1
     rw [List.filter_eq_nil_iff]
     intro e he
     have := hold e (List.mem_filter.1 he).1
     simp; omega
   all_goals simp
 generalize hL : (es.filter fun e => !seen.contains e.born) = L at hleft hold2 hnew
 cases L with
 | nil =>
   left
   refine ⟨fun e he => ?_, w, ?_, rfl, rfl, rfl, rfl⟩
   · rw [List.filter_eq_nil_iff] at hL
     simpa using hL e he
   · simp only [Instr.next, Sem.run_bind, h1, Result.andThen_ok]
     simp only [iterS, Sem.run_bind, h2, Result.andThen_ok]
     simp only [hcond, Bool.false_eq_true, if_false, hleft, hold2, hnew]
     simp [choose, Sem.run, Question.forced]
 | cons e0 L0 =>
   right
   have hch : ∃ c w1, (choose (.mapNext (e0 :: L0).length)).run P w = .ok c w1 ∧ c < (e0 :: L0).length ∧ w1.heap = w.heap ∧ w1.tape = w.tape ∧ w1.os = w.os ∧ w1.output = w.output := by
     rw [run_choose]
     split
     · exact ⟨0, w, rfl, by simp, rfl, rfl, rfl, rfl⟩
     · exact ⟨_, _, rfl, Nat.mod_lt _ (by simp), rfl, rfl, rfl, rfl⟩
   obtain ⟨c, w1, hc1, hc2, hc3, hc4, hc5, hc6⟩ := hch
   have hin : (e0 :: L0)[c] ∈ es.filter fun e => !seen.contains e.born := by rw [hL]; exact List.getElem_mem hc2
   obtain ⟨hin1, hin2⟩ := List.mem_filter.1 hin
   obtain ⟨e, he⟩ : ∃ e, e = (e0 :: L0)[c] := ⟨_, rfl⟩
   rw [← he] at hin1 hin2
   have hqs : e.born ∉ seen := by simpa using hin2
   have hset : (setObj it (iterS r clock (seen ++ [e.born]))).run P w1 = .ok () { w1 with heap := w1.heap.setIfInBounds it (iterS r clock (seen ++ [e.born])) } := by
     simp only [setObj, Sem.run, hc3, hi, iterS]
   refine ⟨e, { w1 with heap := w1.heap.setIfInBounds it (iterS r clock (seen ++ [e.born])) }, hin1, hqs, ?_, by simp [hc3], hc4, hc5, hc6⟩
   simp only [Instr.next, Sem.run_bind, h1, Result.andThen_ok]
   simp only [iterS, Sem.run_bind, h2, Result.andThen_ok]
   simp only [hcond, Bool.false_eq_true, if_false, hleft, hold2, hnew]
   have hsz : ((if (e0 :: L0).toArray.isEmpty = true then #[none] else #[]) ++ Array.map some ((e0 :: L0).toArray ++ #[])) = ((e0 :: L0).map some).toArray := by simp
   simp only [hsz, List.size_toArray, List.length_map, Sem.run_bind, hc1, Result.andThen_ok]
   have hget : ((e0 :: L0).map some).toArray[c]? = some (some e) := by
     rw [List.getElem?_toArray, List.getElem?_map, List.getElem?_eq_getElem hc2, he]; rfl
   simp only [hget, Sem.run_bind]
   have hseen : seen.toArray.push e.born = (seen ++ [e.born]).toArray := by simp
   simp only [hseen]
   simp only [iterS] at hset
   simp only [hset, Result.andThen_ok, Sem.run_pure]
theorem find_born : ∀ {es : List MapEntry} {e : MapEntry}, (es.map (·.born)).Nodup → e ∈ es → es.find? (fun x => x.born == e.born) = some e
 | [], _, _, h => by cases h
 | a :: es, e, hn, h => by
   rw [List.map_cons, List.nodup_cons] at hn
   rcases List.mem_cons.1 h with rfl | h
   · rw [List.find?_cons_of_pos (by simp)]
   · rw [List.find?_cons_of_neg (by simpa using fun q : a.born = e.born => hn.1 (q ▸ List.mem_map_of_mem h)), find_born hn.2 h]
def leftS (es : List MapEntry) (seen : List Nat) : Nat := (es.filter fun e => !seen.contains e.born).length
theorem leftS_next {seen : List Nat} {e : MapEntry} (he : e ∈ es) (hs : e.born ∉ seen) : leftS es (seen ++ [e.born]) < leftS es seen := by
 unfold leftS
 have hsub : ∀ l : List MapEntry, (l.filter fun e' => !(seen ++ [e.born]).contains e'.born).length ≤ (l.filter fun e => !seen.contains e.born).length := by
   intro l
   induction l with
   | nil => simp
   | cons a l ih =>
     by_cases ha : a.born ∈ seen
     · simpa [List.filter_cons, ha] using ih
     · by_cases hb : a.born = e.born
       · simp [hb, hs] at ih ⊢; omega
       · simp [ha, hb] at ih ⊢; exact ih
 induction es with
 | nil => cases he
 | cons a l ih =>
   have hl := hsub l
   rcases List.mem_cons.1 he with rfl | hm
   · simp [hs] at hl ⊢; omega
   · have ih := ih hm
     by_cases ha : a.born ∈ seen
     · simpa [List.filter_cons, ha] using ih
     · by_cases hb : a.born = e.born
       · simp [hb, hs] at hl ⊢; omega
       · simp [ha, hb] at ih ⊢; omega
end
end Go.Vc
namespace Go.Vc
section
variable {P : Program} {w0 : World} {sh : Shared} {Γ : List Asn}
end
end Go.Vc
namespace Go.Vc
section
variable {P : Program} {w0 : World} {n : Nat} {sh : Shared} {Q : Exit → Env → List Deferred → List Asn → Prop} {k : List Item} {ρ : Env} {df : List Deferred} {Γ : List Asn}
variable {ops : Array Oper} {rest : List (Fl × Nat × Oper)} {b : Fl} {i d : Nat} {ty : TypeId} {pos : String} {aft : Array Edge} {x lo hi : Operand} {t : TypeId} {s : ByteArray}
theorem reg_preS {z : Int} [hT : TUnd P t .string] (hx : ev ρ x = .string s) (hh : ev ρ hi = .int .i64 z) (hb : 0 ≤ z ∧ z ≤ s.size)
   (h : Reg P w0 n sh Q ops rest k (ρ.set d (.string (s.extract 0 z.toNat))) df Γ) : Reg P w0 n sh Q ops ((b, i, ⟨some d, .slice t x none (some hi) none, ty, pos, aft, none⟩) :: rest) k ρ df Γ :=
 reg_quiet rfl (fun hF _ => quiet_of_run fun w => by
   obtain ⟨h0, h2⟩ := hb
   simp only [execOp, hx, Option.map_some, Option.map_none, hh, Instr.sliceAt, Instr.slice, Sem.run_bind, run_underlying hT.und, Result.andThen_ok, Instr.sliceBounds, Instr.sliceBound, asIntOf, Sem.run_pure, Option.isSome_none, Bool.false_eq_true, if_false]
   simp only [h0, h2, and_self, if_true, Sem.run_pure, Result.andThen_ok]) h
theorem reg_preSe {z : Int} {r : ByteArray} [hT : TUnd P t .string] (hx : ev ρ x = .string s) (hh : ev ρ hi = .int .i64 z) (hb : 0 ≤ z ∧ z ≤ s.size) (he : s.extract 0 z.toNat = r)
   (h : Reg P w0 n sh Q ops rest k (ρ.set d (.string r)) df Γ) : Reg P w0 n sh Q ops ((b, i, ⟨some d, .slice t x none (some hi) none, ty, pos, aft, none⟩) :: rest) k ρ df Γ := by
 subst he
 exact reg_preS hx hh hb h
end
end Go.Vc
namespace Go.Vc
section
variable {P : Program} {w0 : World} {n : Nat} {sh : Shared} {Q : Exit → Env → List Deferred → List Asn → Prop} {k : List Item} {ρ : Env} {df : List Deferred} {Γ : List Asn} {hF : Heap}
variable {ops : Array Oper} {l : List (Fl × Nat × Oper)} {b : Fl} {i d : Nat} {ty : TypeId} {pos : String} {aft : Array Edge}
variable {x y : Operand} {t T e : TypeId} {agg : Bool} {sz bytes : Nat} {cs new : List Value}
theorem strCells_one (s : ByteArray) : allOne (Lib.strCells s) = true := by
 unfold Lib.strCells
 induction s.data.toList with
 | nil => rfl
 | cons c r ih => exact ih
theorem opW_appendS {dst : Option Tmp} {a : Option Addr} {len cap m : Nat} {s : ByteArray} {j : Nat} {ats : Array TypeId} {zv : Value}
   [hT : TUnd P t (.slice e)] [hS : TShape P e agg sz] [hZ : TZeroV P e zv] [hI : TInfo P e bytes] {t2 : TypeId} [hT2 : TUnd P t2 .string]
   (hats : ats = #[t, t2]) (hx : ev ρ x = .slice a len cap) (hy : ev ρ y = .string s) (hj : getAt j Γ = some (SlA e sz a len cap cs))
   (hs1 : sz = 1) (hm0 : s.size = m) (hnew : Lib.strCells s = new) (hone : allOne new = true)
   (hzs : zv.cells.size = sz) (hsmall : (2 * (len + m) + 192) * bytes ≤ 281474976710656) (hbig : len + m ≤ 9223372036854775807) :
   OpW P w0 hF ⟨dst, .call ⟨.builtin .append, #[x, y], ats⟩, ty, pos, aft, none⟩ ρ df Γ fun v df' Γ' => ∃ a' cap', v = .slice a' (len + m) cap' ∧ df' = df ∧ putAt j (SlA e sz a' (len + m) cap' (cs ++ new)) Γ = some Γ' := by
 subst hats
 intro w hst
 have hlen : new.length = m * sz := by rw [← hnew, Lib.strCells_length, hs1, hm0, Nat.mul_one]
 obtain ⟨r, hst1, hback⟩ := hst.at hj
 obtain ⟨ti, hti, hbytes⟩ := hI.info_run w
 have hfirst : ∀ w, (Builtin.firstCells sz m (.string s)).run P w = .ok new.toArray w := fun w => by
   rw [← hnew, ← hm0]; exact Lib.run_firstCells_string (P := P) w sz s
 have hmax : ¬ ((len + m : Nat) : Int) > IntKind.i64.max := by rw [IntKind.max_i64]; omega
 simp only [execOp, resolve, invoke, builtin, Builtin.append_, Builtin.lenOf]
 simp only [List.map_toArray, List.map_cons, List.map_nil, hx, hy, Sem.run_bind, Sem.run_pure, Result.andThen_ok]
 simp only [List.getElem?_toArray, List.getElem?_cons_zero, List.getElem?_cons_succ, Sem.run_bind, Sem.run_pure, Result.andThen_ok, run_underlying hT.und, run_underlying hT2.und, hS.size_run, Bool.false_eq_true, if_false, Bool.not_false, if_true, hm0]
 by_cases hfit : len + m ≤ cap
 · simp only [hfit, if_true, Sem.run_bind, hfirst w, Result.andThen_ok]
   cases a with
   | none =>
     obtain ⟨g, hA, hB⟩ := hst1.head
     obtain ⟨h1, h2, h3, h4⟩ := SlA.none_iff.1 hA
     subst h1; subst h2; subst h3
     have hm : m = 0 := by omega
     subst hm
     have hn : new = [] := by simpa using hlen
     subst hn
     obtain ⟨Γ', h5, h6⟩ := hback _ w (hB (SlA e sz none (0 + 0) 0 ([] ++ [])) (SlA.none_iff.2 ⟨rfl, rfl, rfl, h4⟩))
     simp only [Sem.run_pure, Result.andThen_ok]
     exact ⟨Γ', ⟨none, 0, rfl, rfl, h5⟩, h6⟩
   | some ad =>
     obtain ⟨g, hA, hB⟩ := hst1.head
     obtain ⟨bb, spare, h1, h2, h3, h4, h5⟩ := SlA.some_iff.1 hA
     subst h1
     have hst2 := hB _ h5
     have hwr : wr new (0 + len * sz) (cs ++ spare) = some (cs ++ new ++ spare.drop (m * sz)) := by
       have hfl : (len + m) * sz ≤ cap * sz := Nat.mul_le_mul_right _ hfit
       rw [Nat.add_mul] at hfl
       have key : ∀ (cs : List Value) (spare : List Value), new.length ≤ spare.length → wr new cs.length (cs ++ spare) = some (cs ++ new ++ spare.drop new.length) := by
         intro cs
         induction cs with
         | nil =>
           intro spare hs
           simp only [List.length_nil, wr, List.nil_append]
           clear hnew hone hlen hfirst
           induction new generalizing spare with
           | nil => simp [over]
           | cons v vs ih =>
             cases spare with
             | nil => simp at hs
             | cons u us =>
               simp only [over]
               rw [ih us (by simpa using hs)]
               simp
         | cons c cs ih =>
           intro spare hs
           simp only [List.length_cons, wr, List.cons_append]
           rw [ih spare hs]
       rw [Nat.zero_add, ← h2, ← hlen]
       exact key cs spare (by omega)
     obtain ⟨w', c', g1, g2, g3, g4, g5, g6, g7, g8⟩ := run_storeCells (P := P) (off := len * sz) new 0 _ w hst2.get.2 hone (by
       have hfl : (len + m) * sz ≤ cap * sz := Nat.mul_le_mul_right _ hfit
       rw [Nat.add_mul] at hfl
       simp <;> omega)
     have e1 : (Addr.add ⟨bb, 0, none⟩ (len * sz)) = ⟨bb, len * sz, none⟩ := by rw [Addr.add_lit]; simp
     simp only [e1, Sem.run_bind, g1, Result.andThen_ok, Sem.run_pure]
     have hc' : c' = (cs ++ new ++ spare.drop (m * sz)).toArray := by
       apply Array.ext'
       rw [g3]
       simp [← h2, ← hlen]
     rw [hc'] at g2
     have hst3 := hst2.upd g6 g7 g8 g4 g2 g5
     obtain ⟨Γ', h7, h8⟩ := hback (SlA e sz (some ⟨bb, 0, none⟩) (len + m) cap (cs ++ new)) w' (hst3.exch fun g hg => SlA.some_iff.2 ⟨bb, spare.drop (m * sz), rfl, by simp [h2, hlen, Nat.add_mul], hfit, by
       have hfl : (len + m) * sz ≤ cap * sz := Nat.mul_le_mul_right _ hfit
       rw [Nat.add_mul] at hfl
       simp; omega, hg⟩)
     exact ⟨Γ', ⟨_, cap, rfl, rfl, h7⟩, h8⟩
 · have hcap : ¬ Builtin.nextslicecap (len + m) cap * bytes > 2 ^ 48 := by
     have := nextslicecap_le (m := len + m) (c := cap) (by omega)
     have h2 := Nat.mul_le_mul_right bytes this
     omega
   simp only [hfit, if_false, Sem.run_bind, hti, Result.andThen_ok, hbytes, hmax, false_and, hcap]
   simp only [run_choose, Question.forced, Bool.false_eq_true, if_false, Result.andThen_ok, Question.cut, run_askRoom, hZ.zero_run]
   generalize hq : len + m + w.tape w.drawn (.appendCap (len + m) cap e) % (2 ^ 63 - (len + m)) = newCap
   have hge : len + m ≤ newCap := by omega
   have hold : ∀ w' : World, (∀ (bb : Nat) (o : Obj), w.heap[bb]? = some o → w'.heap[bb]? = some o) → ∃ old : Array Value, (Builtin.firstCells sz len (.slice a len cap)).run P w' = .ok old w' ∧ old.toList = cs := by
     intro w' hw'
     obtain ⟨g, hA, hB⟩ := hst1.head
     cases a with
     | none =>
       obtain ⟨h1, h2, h3, h4⟩ := SlA.none_iff.1 hA
       subst h3
       exact ⟨#[], by simp [Builtin.firstCells], rfl⟩
     | some ad =>
       obtain ⟨bb, spare, h1, h2, h3, h4, h5⟩ := SlA.some_iff.1 hA
       subst h1
       have hg := (hB _ h5).get.2
       refine ⟨_, run_firstCells (hw' _ _ hg) (by simp; omega), ?_⟩
       simp [← h2]
   obtain ⟨old, ho1, ho2⟩ := hold { w with drawn := w.drawn + 1 } (fun _ _ h => h)
   obtain ⟨ti2, hti2, _⟩ := hI.info_run { w with drawn := w.drawn + 1 }
   simp only [hti2, ho1, Result.andThen_ok, hfirst { w with drawn := w.drawn + 1 }, newRow, run_newObj, Sem.run_bind, Sem.run_pure]
   have hst2 := ((hst1.drew (w.drawn + 1)).drop).alloc (.cells (old ++ new.toArray ++ Builtin.zeroCells zv.cells (newCap - (len + m))) e (0, 0))
   obtain ⟨Γ', h7, h8⟩ := hback (SlA e sz (some ⟨w.heap.size, 0, none⟩) (len + m) newCap (cs ++ new)) _ (hst2.exch fun g hg => SlA.some_iff.2 ⟨w.heap.size, (Builtin.zeroCells zv.cells (newCap - (len + m))).toList, rfl, by
     obtain ⟨g, hA, _⟩ := hst1.head
     cases a with
     | none =>
       obtain ⟨h1, h2, h3, h4⟩ := SlA.none_iff.1 hA
       subst h1; subst h3; simp [hlen]
     | some ad =>
       obtain ⟨bb, spare, h1, h2, h3, h4, h5⟩ := SlA.some_iff.1 hA
       simp [h2, hlen, Nat.add_mul], hge, by
     obtain ⟨g, hA, _⟩ := hst1.head
     have hcs : cs.length = len * sz := by
       cases a with
       | none =>
         obtain ⟨h1, h2, h3, h4⟩ := SlA.none_iff.1 hA
         subst h1; subst h3; simp
       | some ad => exact (SlA.some_iff.1 hA).choose_spec.choose_spec.2.1
     have e2 : newCap * sz = (len + m) * sz + (newCap - (len + m)) * sz := by rw [← Nat.add_mul]; congr 1; omega
     simp [hcs, hlen, size_zeroCells, hzs, e2, Nat.add_mul], by
     have : (cs ++ new ++ (Builtin.zeroCells zv.cells (newCap - (len + m))).toList).toArray = old ++ new.toArray ++ Builtin.zeroCells zv.cells (newCap - (len + m)) := by
       apply Array.ext'; simp [ho2]
     rw [this]; exact hg⟩)
   exact ⟨Γ', ⟨_, newCap, rfl, rfl, h7⟩, h8⟩
theorem reg_appendS (j : Nat) {G : Option Addr → Nat → List Asn} {dst : Option Tmp} {a : Option Addr} {len cap : Nat} {s : ByteArray} {zv : Value} {t2 : TypeId}
   [hT : TUnd P t (.slice e)] [hS : TShape P e agg 1] [hZ : TZeroV P e zv] [hI : TInfo P e bytes] [hT2 : TUnd P t2 .string]
   (hx : ev ρ x = .slice a len cap) (hy : ev ρ y = .string s) (hj : getAt j Γ = some (SlA e 1 a len cap cs))
   (hzs : zv.cells.size = 1) (hsmall : (2 * (len + s.size) + 192) * bytes ≤ 281474976710656 ∧ len + s.size ≤ 9223372036854775807)
   (hput : ∀ a' cap', putAt j (SlA e 1 a' (len + s.size) cap' (cs ++ Lib.strCells s)) Γ = some (G a' cap'))
   (h : ∀ a' cap', Reg P w0 n sh Q ops l k (ρ.setO dst (.slice a' (len + s.size) cap')) df (G a' cap')) :
   Reg P w0 n sh Q ops ((Fl.loud, i, ⟨dst, .call ⟨.builtin .append, #[x, y], #[t, t2]⟩, ty, pos, aft, none⟩) :: l) k ρ df Γ := by
 refine reg_loud rfl (fun v df' Γ' => ∃ a' cap', v = .slice a' (len + s.size) cap' ∧ df' = df ∧ putAt j (SlA e 1 a' (len + s.size) cap' (cs ++ Lib.strCells s)) Γ = some Γ') (fun hF hsh => ?_) ?_
 · exact opW_appendS (hT := hT) (hS := hS) (hZ := hZ) (hI := hI) (hT2 := hT2) rfl hx hy hj rfl rfl rfl (strCells_one s) hzs hsmall.1 hsmall.2
 · rintro v df' Γ' ⟨a', cap', h3, h4, h5⟩
   subst h3; subst h4
   rw [hput] at h5
   cases h5
   exact h a' cap'
theorem reg_sliceData {ats : Array TypeId} {a : Option Addr} {len cap : Nat} (hx : ev ρ x = .slice a len cap) (hc : a ≠ none → cap ≠ 0) (h : Reg P w0 n sh Q ops l k (ρ.set d (.pointer a)) df Γ) :
   Reg P w0 n sh Q ops ((b, i, ⟨some d, .call ⟨.builtin .unsafeSliceData, #[x], ats⟩, ty, pos, aft, none⟩) :: l) k ρ df Γ :=
 reg_quiet rfl (fun hF _ => quiet_of_run fun w => by
   simp only [execOp, resolve, invoke, builtin, List.map_toArray, List.map_cons, List.map_nil, hx, Sem.run_bind, Sem.run_pure, Result.andThen_ok]
   cases a with
   | none => rw [Lib.run_unsafeSliceData_nil]; rfl
   | some ad => rw [Lib.run_unsafeSliceData_row _ _ _ _ _ _ (hc (by simp))]; rfl) h
theorem reg_unsafeString (j : Nat) {Γr : List Asn} {dst : Option Tmp} {a : Option Addr} {cap : Nat} {bl : List UInt8} {t2 : TypeId} [hT : TUnd P t (.pointer e)] [TShape P e false 1]
   (hc : P.cellsOf e = 1) (hx : ev ρ x = .pointer a) (hy : ev ρ y = .int .i64 bl.length) (hp : takeAt j Γ = some (SlA e 1 a bl.length cap (Lib.byteCells bl), Γr)) (hb : bl.length ≤ 9223372036854775807)
   (h : Reg P w0 n sh Q ops l k (ρ.setO dst (.string ⟨bl.toArray⟩)) df Γr) :
   Reg P w0 n sh Q ops ((Fl.loud, i, ⟨dst, .call ⟨.builtin .unsafeString, #[x, y], #[t, t2]⟩, ty, pos, aft, none⟩) :: l) k ρ df Γ := by
 refine reg_loud rfl (fun v df' Γ' => v = .string ⟨bl.toArray⟩ ∧ df' = df ∧ Γ' = Γr) (fun hF hsh => ?_) (fun v df' Γ' ⟨h1, h2, h3⟩ => by subst h1; subst h2; subst h3; exact h)
 intro w hst
 have hst1 := hst.perm (takeAt_perm hp)
 simp only [execOp, resolve, invoke, builtin, List.map_toArray, List.map_cons, List.map_nil, hx, hy, Sem.run_bind, Sem.run_pure, Result.andThen_ok]
 by_cases h0 : bl = []
 · subst h0
   have := Lib.run_unsafeString_none (P := P) w t t2 ty a
   simp only [List.length_nil, Int.natCast_zero] at this ⊢
   rw [this]
   exact ⟨Γr, ⟨rfl, rfl, rfl⟩, hst1.drop⟩
 · cases a with
   | none =>
     obtain ⟨g, hA, _⟩ := hst1.head
     obtain ⟨h1, _⟩ := SlA.none_iff.1 hA
     exact absurd (List.length_eq_zero_iff.1 h1) h0
   | some ad =>
     obtain ⟨g, hA, hB⟩ := hst1.head
     obtain ⟨bb, spare, h1, h2, h3, h4, h5⟩ := SlA.some_iff.1 hA
     subst h1
     have hst2 := hB _ h5
     have hbk := hst2.get.2
     rw [Lib.run_unsafeString_row w t t2 ty e hT.und hc bb ((Lib.byteCells bl ++ spare).length) (by simp [World.shape?, hbk]) bl h0 (by simp [Lib.byteCells_length]) hb (by
       intro q u hu
       have hq := (List.getElem?_eq_some_iff.1 hu).1
       have hadd : (Addr.add ⟨bb, 0, none⟩ q) = ⟨bb, q, none⟩ := by rw [Addr.add_lit]; simp
       rw [hadd]
       have hx1 : (Lib.byteCells bl ++ spare)[q]? = some (.int .u8 (u.toNat : Nat)) := by
         rw [List.getElem?_append_left (by rw [Lib.byteCells_length]; exact hq)]
         simp [Lib.byteCells, hu]
       simp [World.cell?, hbk, hx1])]
     have hlt : bb < w.heap.size := hst2.lt
     refine ⟨Γr, ⟨rfl, rfl, rfl⟩, ?_⟩
     have hnz : bl.length ≠ 0 := fun q => h0 (List.length_eq_zero_iff.1 q)
     refine St.drop (A := pt bb (.cells (List.toArray (Lib.byteCells bl ++ spare)) e (0, 0 + bl.length))) ?_
     unfold World.freeze
     rw [if_neg hnz]
     refine hst2.upd rfl rfl rfl (by simp) ?_ (fun z hz => ?_)
     · simp only [Array.getElem?_modify, if_true, hbk, Option.map_some]
       rfl
     · simp only [Array.getElem?_modify]
       rw [if_neg (fun q => hz q.symm)]
end
theorem St.push {w0 : World} {hF : Heap} {Γ : List Asn} : ∀ (os : List Obj) {w : World}, St w0 hF Γ w → St w0 hF Γ { w with heap := w.heap ++ os.toArray }
 | [], w, h => by simpa using h
 | o :: os, w, h => by
   have h1 := St.push os (h.alloc o).drop
   simpa using h1
theorem St.grow {w0 w : World} {hF : Heap} {Γ : List Asn} (h : St w0 hF Γ w) (n : Nat) (os : Array Obj) : St w0 hF Γ (Go.Sort.grow (w.drewN n) os) := by
 have h1 := St.push os.toList (h.drew (w.drawn + n))
 have e : w.heap ++ os.toList.toArray = w.heap ++ os := by simp
 rw [show (Go.Sort.grow (w.drewN n) os) = { w with heap := w.heap ++ os, drawn := w.drawn + n } from rfl, ← e]
 exact h1
end Go.Vc
namespace Go.Vc
section
variable {P : Program} {w0 : World} {n : Nat} {sh : Shared} {Q : Exit → Env → List Deferred → List Asn → Prop} {k : List Item} {ρ : Env} {df : List Deferred} {Γ Γp Γr : List Asn} {hF : Heap}
variable {ops : Array Oper} {l : List (Fl × Nat × Oper)} {i : Nat} {ty : TypeId} {pos : String} {aft : Array Edge}
structure Yld (P : Program) (w0 : World) (sh : Shared) (L : Nat) (args : List Value) (Γ : List Asn) (R : Bool → List Asn → Prop) : Prop where
 go : ∀ hF w, Sh sh hF → St w0 hF Γ w → ∃ f tmps assign body, (Instr.yield L args.toArray).run P w = .ok (.round L f tmps assign body) w ∧
   RoundIn Fence.wide 0 P L f tmps assign body w fun e w' => ∃ b Γ', e = .returned (.bool b) ∧ R b Γ' ∧ St w0 hF Γ' w'
theorem reg_yield {shf : Shared} {L : Nat} {args : List Value} {R : Bool → List Asn → Prop} {fo : Operand} {cargs : Array Operand} {ats : Array TypeId} (is : List Nat) {dst : Option Tmp} (spec : Yld P w0 shf L args Γp R)
   (hfo : ev ρ fo = .func (.yield L) #[] #[]) (hargs : cargs.toList.map (ev ρ) = args) (hp : pick is Γ = some (Γp, Γr)) (hsh : ∀ p ∈ shf, p ∈ sh)
   (h : ∀ b Γ', R b Γ' → Reg P w0 n sh Q ops l k (ρ.setO dst (.bool b)) df (Γ' ++ Γr)) :
   Reg P w0 n sh Q ops ((Fl.loud, i, ⟨dst, .call ⟨.value fo, cargs, ats⟩, ty, pos, aft, none⟩) :: l) k ρ df Γ := by
 refine reg_loud rfl (fun v df' Γ' => ∃ b Γ'', v = .bool b ∧ R b Γ'' ∧ df' = df ∧ Γ' = Γ'' ++ Γr) (fun hF hs w hst => ?_) (fun v df' Γ' ⟨b, Γ'', h1, hR, h2, h3⟩ => by subst h1; subst h2; subst h3; exact h b Γ'' hR)
 have e1 : cargs.map (ev ρ) = args.toArray := by rw [← hargs]; apply Array.ext'; simp
 obtain ⟨g, hg, hd, hst1⟩ := (hst.perm (pick_perm hp)).split
 have hsh1 : Sh shf (g.or hF) := sh_or (fun p hp => hs p (hsh p hp)) hd
 obtain ⟨f, tmps, assign, body, hy, hR⟩ := spec.go _ w hsh1 hst1
 have hrun : (execOp (ev ρ) ⟨dst, .call ⟨.value fo, cargs, ats⟩, ty, pos, aft, none⟩).run P w = .ok (.round L f tmps assign body) w := by
   simp only [execOp, resolve, Deferred.ofValue, hfo, Sem.run_bind, Sem.run_pure, Result.andThen_ok, invoke, e1]
   simpa using hy
 rw [hrun]
 exact hR.mono fun e w' ⟨b, Γ', he, hR', hst'⟩ => ⟨.bool b, Γ' ++ Γr, he, ⟨b, Γ', rfl, hR', rfl, rfl⟩, hst'.join hg hd⟩
def rndQ (R : Option Code → List Asn → Prop) : Exit → Env → List Deferred → List Asn → Prop
 | .normal, _, _, Γ => R none Γ
 | .ret, _, _, Γ => R (some .ret) Γ
 | .exit id, _, _, Γ => R (some (.exit id)) Γ
 | _, _, _, _ => False
def loopA (L : Nat) (rec : Loop) (jump : Option Code) : Asn := pt L (.loop { rec with state := if jump.isNone then .ready else .done, pending := jump })
theorem St.setLoop {L : Nat} {r r' : Loop} {w : World} (h : St w0 hF (pt L (.loop r) :: Γ) w) : St w0 hF (pt L (.loop r') :: Γ) (w.putObj L (.loop r')) := by
 have hlt := h.lt
 exact h.upd rfl rfl rfl (by simp [World.putObj]) (by simp [World.putObj, hlt]) (fun x hx => by simp [World.putObj, Array.getElem?_setIfInBounds_ne (Ne.symm hx)])
theorem yld_round {L : Nat} {fn : FuncId} {tmps : Array Value} {p D : Nat} {assign body : Code} {v : Value} {R : Option Code → List Asn → Prop} (hρ : envOf { tmps := tmps, defers := [] } = ρ) (hn : tmps.size = n) (hp : p < n)
   (ha : noDefC assign = true) (hb : noDefC body = true)
   (h : Run P w0 n sh (fun e ρ' df' Γ' => e = .normal ∧ Run P w0 n sh (rndQ R) [.code body] ρ' df' Γ') [.code assign] (ρ.set p v) [] Γ) :
   Yld P w0 sh L [v] (loopA L ⟨.ready, none, fn, tmps, #[p], assign, body, D⟩ none :: Γ)
     (fun b Γ' => ∃ jump Γ'', b = jump.isNone ∧ R jump Γ'' ∧ Γ' = loopA L ⟨.ready, none, fn, tmps, #[p], assign, body, D⟩ jump :: Γ'') := by
 refine ⟨fun hF w hsh hst => ?_⟩
 simp only [loopA] at hst ⊢
 have hl := hst.get.2
 refine ⟨fn, tmps.setIfInBounds p v, assign, body, by rw [run_yield hl (by simp)]; simp, roundIn_of_wpIn trivial ?_⟩
 have hfr : ∀ {o : Obj} {Γ : List Asn} {w : World}, St w0 hF (pt L o :: Γ) w → Disj (Heap.one L o) hF ∧ St w0 ((Heap.one L o).or hF) Γ w := fun {o Γ w} hst => by
   obtain ⟨g, hg, hd, h1⟩ := (show St w0 hF (Γ ++ [pt L o]) w from hst.perm (List.perm_append_comm (l₁ := [_]))).split
   have hg1 : pt L o g := Stars.one.1 hg
   simp only [pt] at hg1
   subst hg1
   exact ⟨hd, h1⟩
 have hback : ∀ {o : Obj} {Γ : List Asn} {w : World}, Disj (Heap.one L o) hF → St w0 ((Heap.one L o).or hF) Γ w → St w0 hF (pt L o :: Γ) w := fun {o Γ w} hd hst =>
   (hst.join (Stars.one.2 (show pt L o (Heap.one L o) from rfl)) hd).perm (List.perm_append_comm (l₂ := [_]))
 obtain ⟨hd1, hst1⟩ := hfr hst
 have henv : envOf { tmps := tmps.setIfInBounds p v, defers := [] } = ρ.set p v := by
   have := envOf_put { tmps := tmps, defers := [] } (some p) v (fun d hd => by cases hd; show p < tmps.size; omega)
   rw [hρ] at this
   exact this
 refine wpIn_mono (wpIn_of_wpk (ro := some L) (.inr ha) (h.go _ (sh_or hsh hd1) _ w henv (by simp [hn]) rfl hst1)) ?_
 rintro e a1 w1 ⟨hn1, Γ1, ⟨he, hr⟩, hst2⟩
 subst he
 have hst3 := hback hd1 hst2
 refine ⟨_, run_beginRound hst3.get.2 rfl, ?_⟩
 obtain ⟨hd4, hst4⟩ := hfr (hst3.setLoop (r' := { state := .busy, pending := none, fn, tmps, params := #[p], assign, body, defers := D }))
 refine wpIn_mono (wpIn_of_wpk (ro := some L) (.inr hb) (hr.go _ (sh_or hsh hd4) a1 _ rfl hn1 rfl hst4)) ?_
 rintro e a2 w2 ⟨hn2, Γ2, hq, hst5⟩
 have hst6 := hback hd4 hst5
 cases e with
 | normal => exact ⟨_, _, run_endRound none hst6.get.2, true, _, rfl, ⟨none, Γ2, rfl, hq, rfl⟩, hst6.setLoop⟩
 | ret => exact ⟨_, _, run_endRound (some .ret) hst6.get.2, false, _, rfl, ⟨some .ret, Γ2, rfl, hq, rfl⟩, hst6.setLoop⟩
 | exit id => exact ⟨_, _, run_endRound (some (.exit id)) hst6.get.2, false, _, rfl, ⟨some (.exit id), Γ2, rfl, hq, rfl⟩, hst6.setLoop⟩
 | _ => exact hq.elim
def markA (D : Nat) : Asn := pt D (.deferred (some []))
abbrev markD (D : Nat) : Deferred := { target := .collected D, args := #[] }
theorem leaves_mark {fn : Func} {R : Value → List Asn → Prop} {D : Nat} (is : List Nat) (hp : pick is Γ = some ([markA D], Γr)) (h : LeavesS P w0 sh fn ρ df Γr R) : LeavesS P w0 sh fn ρ (markD D :: df) Γ R := by
 intro hF a w hsh ha hst
 have h1 : St w0 hF (pt D (.deferred (some [])) :: Γr) w := hst.perm (pick_perm hp)
 refine ⟨by simp, .inl ⟨D, _, rfl, run_takeDeferred h1.get.2, ?_⟩⟩
 have h2 : St w0 hF (pt D (.deferred none) :: Γr) (w.putObj D (.deferred none)) := by
   have hlt := h1.lt
   exact h1.upd rfl rfl rfl (by simp [World.putObj]) (by simp [World.putObj, hlt]) (fun x hx => by simp [World.putObj, Array.getElem?_setIfInBounds_ne (Ne.symm hx)])
 exact h hF a _ hsh ha h2.drop
def afterQ (P : Program) (w0 : World) (n : Nat) (sh : Shared) (Q : Exit → Env → List Deferred → List Asn → Prop) (k : List Item) (ρ : Env) (df : List Deferred) (Γ : List Asn) : Option Code → Prop
 | none => Run P w0 n sh Q k ρ df Γ
 | some .ret => Q .ret ρ df Γ
 | some (.exit id) => (∃ k1, exitTo id k = some k1 ∧ Run P w0 n sh Q k1 ρ df Γ) ∨ (exitTo id k = none ∧ Q (.exit id) ρ df Γ)
 | _ => False
theorem run_rangeFunc {β : Type} {g : Operand} {p : Tmp} {assign body : Code} {gf : FuncId} {lb : Array Value} (is : List Nat) (val : β → Value) (I : β → List Asn) (R : β → Option Code → List Asn → Prop) (S : Option Code → List Asn → Prop)
   (hg : ev ρ g = .func (.func gf) #[] lb) (hp : Nat.blt p n = true) (hnd : (noDefC assign && noDefC body) = true) (hpk : pick is Γ = some (Γp, Γr))
   (hround : ∀ x, Run P w0 n sh (fun e ρ' df' Γ' => e = .normal ∧ Run P w0 n sh (rndQ (R x)) [.code body] ρ' df' Γ') [.code assign] (ρ.set p (val x)) [] (I x))
   (hit : ∀ (L : Nat) (lp : Option Code → Asn), (∀ x, Yld P w0 sh L [val x] (lp none :: I x) (fun b Γ' => ∃ jump Γ'', b = jump.isNone ∧ R x jump Γ'' ∧ Γ' = lp jump :: Γ'')) →
     Fn P w0 sh gf (.func (.yield L) #[] #[] :: lb.toList) (lp none :: Γp) (fun _ Γ' => ∃ jump Γ'', S jump Γ'' ∧ Γ' = lp jump :: Γ''))
   (hk : ∀ D jump Γ'', S jump Γ'' → afterQ P w0 n sh Q k ρ (markD D :: df) (markA D :: Γ'' ++ Γr) jump) :
   Run P w0 n sh Q (.code (.rangeFunc g #[p] assign body) :: k) ρ df Γ := by
 refine ⟨fun hF hsh a w ha hn hd hst => wpk_of_cutR fun ro hro => ?_⟩
 have hro' : ro = none := hro.resolve_right (by simp [noDefC])
 subst hro'
 simp only [Bool.and_eq_true] at hnd
 have hp := Nat.le_of_ble_eq_true hp
 refine wpIn_rangeFunc ?_
 intro fn _
 obtain ⟨w1, hw1⟩ : ∃ w1, (w.alloc (.deferred (some []))).alloc (.loop ⟨.ready, none, fn, a.tmps, #[p], assign, body, w.heap.size⟩) = w1 := ⟨_, rfl⟩
 have hst1 : St w0 hF (loopA (w.heap.size + 1) ⟨.ready, none, fn, a.tmps, #[p], assign, body, w.heap.size⟩ none :: Γp ++ markA w.heap.size :: Γr) w1 := by
   have h1 := (hst.perm (pick_perm hpk)).alloc (.deferred (some []))
   have h2 := h1.alloc (.loop ⟨.ready, none, fn, a.tmps, #[p], assign, body, w.heap.size⟩)
   rw [show ({ w with heap := w.heap.push (.deferred (some [])) } : World).heap.size = w.heap.size + 1 by simp] at h2
   rw [← hw1]
   refine (h2.perm ?_)
   exact (List.Perm.cons _ (List.perm_middle (l₁ := Γp)).symm)
 obtain ⟨gh, hgh, hdj, hst2⟩ := hst1.split
 have hY : ∀ x, Yld P w0 sh (w.heap.size + 1) [val x] (loopA (w.heap.size + 1) ⟨.ready, none, fn, a.tmps, #[p], assign, body, w.heap.size⟩ none :: I x)
     (fun b Γ' => ∃ jump Γ'', b = jump.isNone ∧ R x jump Γ'' ∧ Γ' = loopA (w.heap.size + 1) ⟨.ready, none, fn, a.tmps, #[p], assign, body, w.heap.size⟩ jump :: Γ'') := fun x =>
   yld_round (by rw [← ha]; rfl) hn hp hnd.1 hnd.2 (hround x)
 have hfn := hit (w.heap.size + 1) (loopA (w.heap.size + 1) ⟨.ready, none, fn, a.tmps, #[p], assign, body, w.heap.size⟩) hY
 refine ⟨w.heap.size + 1, [markD w.heap.size], w1, { target := .fn (.func gf) lb, args := #[.func (.yield (w.heap.size + 1)) #[] #[]] }, w1, gf,
   #[.func (.yield (w.heap.size + 1)) #[] #[]] ++ lb, w1, ?_, ?_, fun _ _ => trivial, ?_, fun h => by simp [FR, Fence.wide] at h, callsIn_FR ?_⟩
 · rw [← hw1]; exact run_enterLoop_outer _ _ _ _ _
 · have hg' : a.eval g = .func (.func gf) #[] lb := by rw [eval_ev, ha]; exact hg
   simp only [resolve, hg']
   simp [go_sem]
 · simp only [invoke]; exact hfn.enters _ _
 · have hc := hfn.calls _ w1 (sh_or hsh hdj) hst2
   have e1 : (Value.func (.yield (w.heap.size + 1)) #[] #[] :: lb.toList).toArray = #[.func (.yield (w.heap.size + 1)) #[] #[]] ++ lb := by apply Array.ext'; simp
   rw [e1] at hc
   refine hc.mono ?_
   rintro e w2 ⟨v, Γ2, rfl, ⟨jump, Γ'', hS, rfl⟩, hst3⟩
   have hst4 := hst3.join hgh hdj
   have hst5 : St w0 hF (loopA (w.heap.size + 1) ⟨.ready, none, fn, a.tmps, #[p], assign, body, w.heap.size⟩ jump :: (Γ'' ++ markA w.heap.size :: Γr)) w2 := hst4
   simp only [loopA] at hst5
   have hend := run_endLoop (P := P) hst5.get.2 (by cases jump <;> simp)
   have hst6 := (hst5.setLoop (r' := ⟨.exhausted, jump, fn, a.tmps, #[p], assign, body, w.heap.size⟩)).drop
   have hst7 : St w0 hF (markA w.heap.size :: Γ'' ++ Γr) _ := hst6.perm List.perm_middle
   refine ⟨jump, _, hend, ?_⟩
   have hk' := hk w.heap.size jump Γ'' hS
   have hdd : [markD w.heap.size] ++ a.defers = markD w.heap.size :: df := by rw [hd]; rfl
   cases jump with
   | none => exact hk'.go hF hsh _ _ ha hn hdd hst7
   | some c =>
     cases c <;> first|exact hk'.elim | skip
     case ret => exact wpIn_ret ⟨hn, _, by rw [← hdd, ← ha] at hk'; exact hk', hst7⟩
     case exit id =>
       refine wpIn_exit ?_
       rcases hk' with ⟨k1, h1, h2⟩ | ⟨h1, h2⟩
       · exact .inl ⟨k1, h1, h2.go hF hsh _ _ ha hn hdd hst7⟩
       · exact .inr ⟨h1, hn, _, by rw [← hdd, ← ha] at h2; exact h2, hst7⟩
end
end Go.Vc
namespace Go.Vc
section
variable {P : Program} {w0 : World} {n : Nat} {sh : Shared} {Q : Exit → Env → List Deferred → List Asn → Prop} {k : List Item} {ρ : Env} {df : List Deferred} {Γ : List Asn}
end
end Go.Vc
namespace Go.Vc
section
variable {P : Program} {w0 : World} {n : Nat} {sh : Shared} {Q : Exit → Env → List Deferred → List Asn → Prop} {k : List Item} {ρ : Env} {df : List Deferred} {Γ : List Asn}
variable {ops : Array Oper} {l : List (Fl × Nat × Oper)} {i d : Nat} {ty : TypeId} {pos : String} {aft : Array Edge} {t e : TypeId} {agg : Bool} {cs : List Value}
end
end Go.Vc
namespace Go.Vc
section
variable {P : Program} {w0 : World} {n : Nat} {sh : Shared} {Q : Exit → Env → List Deferred → List Asn → Prop} {k : List Item} {ρ : Env} {df : List Deferred} {Γ : List Asn} {φ : Shared → Prop}
variable {ops : Array Oper} {l : List (Fl × Nat × Oper)} {b : Fl} {i d : Nat} {ty : TypeId} {pos : String} {aft : Array Edge}
variable {x : Operand} {t : TypeId} {v : Value} {agg : Bool} {m bb off : Nat}
end
end Go.Vc
namespace Go.Vc
abbrev GM (κ : Type) : Type := List (κ × Value)
section
variable {κ : Type} {kv : κ → Value}
def EsG (kv : κ → Value) (es : List MapEntry) (l : GM κ) : Prop := es.map (fun e => (e.key, e.val)) = l.map fun p => (kv p.1, p.2)
def lookG [DecidableEq κ] : GM κ → κ → Option Value
 | [], _ => none
 | (a, v) :: r, x => if a = x then some v else lookG r x
def insG [DecidableEq κ] : GM κ → κ → Value → GM κ
 | [], x, u => [(x, u)]
 | (a, v) :: r, x, u => if a = x then (a, u) :: r else (a, v) :: insG r x u
def delG [DecidableEq κ] : GM κ → κ → GM κ
 | [], _ => []
 | (a, v) :: r, x => if a = x then r else (a, v) :: delG r x
def placeG [DecidableEq κ] : GM κ → κ → Nat → Option Nat
 | [], _, _ => none
 | (a, _) :: r, x, i => if a = x then some i else placeG r x (i + 1)
theorem EsG.cons {es : List MapEntry} {p : κ × Value} {l : GM κ} (h : EsG kv es (p :: l)) : ∃ e es', es = e :: es' ∧ e.key = kv p.1 ∧ e.val = p.2 ∧ EsG kv es' l := by
 cases es with
 | nil => cases h
 | cons e es' =>
   unfold EsG at h
   rw [List.map_cons, List.map_cons] at h
   injection h with h1 h2
   injection h1 with h3 h4
   exact ⟨e, es', rfl, h3, h4, h2⟩
theorem EsG.nil {es : List MapEntry} (h : EsG kv es []) : es = [] := by cases es with | nil => rfl | cons => cases h
theorem EsG.len {es : List MapEntry} {l : GM κ} (h : EsG kv es l) : es.length = l.length := by have := congrArg List.length h; simpa using this
variable [DecidableEq κ]
theorem placeG_some : ∀ (l : GM κ) (x : κ) (i : Nat), (placeG l x i).isSome = (lookG l x).isSome
 | [], _, _ => rfl
 | (a, v) :: r, x, i => by
   simp only [placeG, lookG]
   by_cases h : a = x
   · simp [h]
   · simp only [if_neg h]; exact placeG_some r x (i + 1)
theorem placeG_spec (x : κ) : ∀ (l : GM κ) (es : List MapEntry) (i m : Nat), EsG kv es l → placeG l x i = some m → ∃ j, m = i + j ∧ (∃ e, es[j]? = some e ∧ e.key = kv x) ∧
   (∀ u, EsG kv (es.modify j fun e => { e with key := kv x, val := u }) (insG l x u)) ∧ EsG kv (es.eraseIdx j) (delG l x) ∧ j < es.length
 | [], _, _, _, _, h => by simp [placeG] at h
 | (a, v) :: r, es, i, m, hE, h => by
   obtain ⟨e, es', rfl, h1, h2, h3⟩ := hE.cons
   simp only [placeG] at h
   by_cases hx : a = x
   · subst hx
     simp at h
     refine ⟨0, by omega, ⟨e, rfl, h1⟩, fun u => ?_, ?_, by simp⟩
     · unfold EsG at h3 ⊢
       simp only [List.modify_zero_cons, insG, if_true, List.map_cons, h3]
     · simp only [List.eraseIdx_cons_zero, delG, if_true]; exact h3
   · rw [if_neg hx] at h
     obtain ⟨j, g1, ⟨e2, g2, g2'⟩, g3, g4, g5⟩ := placeG_spec x r es' (i + 1) m h3 h
     refine ⟨j + 1, by omega, ⟨e2, by simpa using g2, g2'⟩, fun u => ?_, ?_, by simp; exact g5⟩
     · have := g3 u
       unfold EsG at this ⊢
       simp only [List.modify_succ_cons, insG, if_neg hx, List.map_cons, this, h1, h2]
     · unfold EsG at g4 ⊢
       simp only [List.eraseIdx_cons_succ, delG, if_neg hx, List.map_cons, g4, h1, h2]
theorem insG_none : ∀ (l : GM κ) (x : κ) (u : Value), lookG l x = none → insG l x u = l ++ [(x, u)]
 | [], _, _, _ => rfl
 | (a, v) :: r, x, u, h => by
   simp only [lookG] at h
   split at h
   · cases h
   · rename_i hx; simp [insG, hx, insG_none r x u h]
omit [DecidableEq κ] in
theorem EsG.push {es : List MapEntry} {l : GM κ} (h : EsG kv es l) (x : κ) (u : Value) (q : Nat) : EsG kv (es ++ [{ key := kv x, val := u, born := q }]) (l ++ [(x, u)]) := by
 unfold EsG at h ⊢
 rw [List.map_append, List.map_append, h]; rfl
class KeyK (P : Program) (kt : TypeId) (kv : κ → Value) : Prop where
 check : ∀ (em : Bool) (w : World) (a : κ), (Instr.checkKey em 10000 kt (kv a)).run P w = .ok () w
 find : ∀ (es : List MapEntry) (l : GM κ) (a : κ) (w : World), EsG kv es l → (Instr.findKey kt (kv a) es).run P w = .ok ((placeG l a 0).bind fun m => (lookG l a).map fun v => (m, v)) w
 stay : ∀ (a : κ) (w : World), (Instr.keyThatStays (kv a) (kv a)).run P w = .ok (kv a) w
def MapG (kv : κ → Value) (r : Nat) (l : GM κ) : Asn := fun h => ∃ es clock, h = Heap.one r (.map es.toArray clock) ∧ EsG kv es l ∧ BornOk es clock
omit [DecidableEq κ] in
theorem mapG_make (nb : Nat) : ∀ g, pt nb (mapI []) g → MapG kv nb [] g := fun _ hg => ⟨[], 0, hg, rfl, List.nodup_nil, fun _ h => by cases h⟩
section
variable {P : Program} {w0 : World} {n : Nat} {sh : Shared} {Q : Exit → Env → List Deferred → List Asn → Prop} {k : List Item} {ρ : Env} {df : List Deferred} {Γ : List Asn} {hF : Heap}
variable {ops : Array Oper} {l : List (Fl × Nat × Oper)} {b : Fl} {i d : Nat} {ty : TypeId} {pos : String} {aft : Array Edge}
variable {x y z : Operand} {t kt et : TypeId} {r clock : Nat} {a : κ} {ml : GM κ} {zv : Value} {es : List MapEntry}
theorem lookupG_run {w : World} {ok : Bool} {es : List MapEntry} {clock : Nat} (hE : EsG kv es ml) (hm : P.underlying t = some (.map kt et)) (hk : KeyK P kt kv) (hz : ∀ w, (zeroValue et).run P w = .ok zv w) (h : w.heap[r]? = some (.map es.toArray clock)) :
   (Instr.lookup t (.map (some r)) (kv a) ok).run P w = .ok (if ok then .tuple #[(lookG ml a).getD zv, .bool (lookG ml a).isSome] else (lookG ml a).getD zv) w := by
 have hck : ∀ em, (Instr.checkKey em 10000 kt (kv a)).run P w = .ok () w := fun em => hk.check em w a
 have hp := placeG_some ml a 0
 simp only [Instr.lookup, Sem.run_bind, run_underlying hm, Result.andThen_ok, run_getMap h]
 simp only [Sem.run_pure, Result.andThen_ok, hck, hk.find _ _ a w hE]
 cases hl : lookG ml a with
 | none =>
   rw [hl] at hp
   have : placeG ml a 0 = none := by cases hpp : placeG ml a 0 with | none => rfl | some m => rw [hpp] at hp; cases hp
   simp [this, hz]
 | some v =>
   rw [hl] at hp
   obtain ⟨m, hm'⟩ : ∃ m, placeG ml a 0 = some m := by cases hpp : placeG ml a 0 with | none => rw [hpp] at hp; cases hp | some m => exact ⟨m, rfl⟩
   simp [hm']
theorem mapUpdateG_run {w : World} {u : Value} {es : List MapEntry} {clock : Nat} (hE : EsG kv es ml) (hB : BornOk es clock) (hm : P.underlying t = some (.map kt et)) (hk : KeyK P kt kv) (h : w.heap[r]? = some (.map es.toArray clock)) :
   ∃ es' clock', EsG kv es' (insG ml a u) ∧ BornOk es' clock' ∧ (Instr.mapUpdate t (.map (some r)) (kv a) u).run P w = .ok () { w with heap := w.heap.setIfInBounds r (.map es'.toArray clock') } := by
 have hck : ∀ em, (Instr.checkKey em 10000 kt (kv a)).run P w = .ok () w := fun em => hk.check em w a
 have hp := placeG_some ml a 0
 have hset : ∀ (es2 : Array MapEntry) (c : Nat), (setObj r (.map es2 c)).run P w = .ok () { w with heap := w.heap.setIfInBounds r (.map es2 c) } := fun es2 c => by
   simp only [setObj, Sem.run, h]
 simp only [Instr.mapUpdate, Sem.run_bind, run_underlying hm, Result.andThen_ok, run_getMap h]
 simp only [Result.andThen_ok, hck, hk.find _ _ a w hE]
 cases hl : lookG ml a with
 | none =>
   rw [hl] at hp
   have : placeG ml a 0 = none := by cases hpp : placeG ml a 0 with | none => rfl | some m => rw [hpp] at hp; cases hp
   refine ⟨es ++ [{ key := kv a, val := u, born := clock }], clock + 1, by rw [insG_none ml a u hl]; exact hE.push a u clock, hB.push _ _, ?_⟩
   simp only [this, Option.bind_none, hset]
   congr 2
   simp
 | some v =>
   rw [hl] at hp
   obtain ⟨m, hm'⟩ : ∃ m, placeG ml a 0 = some m := by cases hpp : placeG ml a 0 with | none => rw [hpp] at hp; cases hp | some m => exact ⟨m, rfl⟩
   obtain ⟨j, h1, ⟨e, h2, h2'⟩, h3, _⟩ := placeG_spec a ml es 0 m hE hm'
   simp only [Nat.zero_add] at h1
   subst h1
   have hstay : (Instr.keyThatStays (kv a) (kv a)).run P w = .ok (kv a) w := hk.stay a w
   refine ⟨_, clock, h3 u, hB.modify fun _ => rfl, ?_⟩
   simp only [hm', Option.bind_some, Option.map_some]
   simp only [List.getElem?_toArray, h2, Option.map_some, Option.getD_some, h2', Sem.run_bind, hstay, Result.andThen_ok, hset]
   rw [List.modify_toArray]
theorem reg_mapUpdateG (j : Nat) {Γ' : List Asn} {u : Value} {dst : Option Tmp} [hT : TUnd P t (.map kt et)] [hK : KeyK P kt kv] (hx : ev ρ x = .map (some r)) (hy : ev ρ y = kv a) (hz : ev ρ z = u)
   (hj : getAt j Γ = some (MapG kv r ml)) (hput : putAt j (MapG kv r (insG ml a u)) Γ = some Γ')
   (h : Reg P w0 n sh Q ops l k (ρ.setO dst undef) df Γ') : Reg P w0 n sh Q ops ((Fl.loud, i, ⟨dst, .mapUpdate t x y z, ty, pos, aft, none⟩) :: l) k ρ df Γ := by
 refine reg_loud rfl (fun v' df' Γ'' => v' = undef ∧ df' = df ∧ Γ'' = Γ') (fun hF _ w hst => ?_) (fun v' df' Γ' ⟨h1, h2, h3⟩ => by subst h1; subst h2; subst h3; exact h)
 obtain ⟨rr, hp1, hp2⟩ := putAt_perm hj hput
 obtain ⟨g, ⟨es, clock, hg, hE, hB0⟩, hB⟩ := (hst.perm hp1).head
 have hst1 := hB (pt r (.map es.toArray clock)) hg
 obtain ⟨es', clock', hE', hB', hrun⟩ := mapUpdateG_run (P := P) (a := a) (u := u) hE hB0 hT.und hK hst1.get.2
 simp only [execOp, hx, hy, hz, Sem.run_bind, hrun, Sem.run_pure, Result.andThen_ok]
 have hlt := hst1.lt
 refine ⟨Γ', ⟨rfl, rfl, rfl⟩, St.perm (St.exch (St.upd (w' := { w with heap := w.heap.setIfInBounds r (.map es'.toArray clock') }) hst1 rfl rfl rfl (by simp) (by simp [hlt]) (fun x hx => by simp [Array.getElem?_setIfInBounds_ne (Ne.symm hx)])) (fun g hg => ⟨es', clock', hg, hE', hB'⟩)) hp2⟩
theorem reg_lookupG (j : Nat) {ok : Bool} {v : Value} [hT : TUnd P t (.map kt et)] [hK : KeyK P kt kv] [hZ : TZeroV P et zv] (hx : ev ρ x = .map (some r)) (hy : ev ρ y = kv a)
   (hj : getAt j Γ = some (MapG kv r ml)) (hv : (if ok then .tuple #[(lookG ml a).getD zv, .bool (lookG ml a).isSome] else (lookG ml a).getD zv) = v)
   (h : Reg P w0 n sh Q ops l k (ρ.set d v) df Γ) (hb : notQuiet b = true := by rfl) : Reg P w0 n sh Q ops ((b, i, ⟨some d, .lookup t x y ok, ty, pos, aft, none⟩) :: l) k ρ df Γ := by
 refine reg_read rfl hb (fun hF _ w hst => ⟨w, ?_, hst⟩) h
 obtain ⟨rr, hp⟩ := getAt_perm hj
 obtain ⟨g, ⟨es, clock, hg, hE, _⟩, hB⟩ := (hst.perm hp).head
 have hm := (hB (pt r (.map es.toArray clock)) hg).get.2
 simp only [execOp, hx, hy, Sem.run_bind, lookupG_run hE hT.und hK hZ.zero_run hm, Sem.run_pure, Result.andThen_ok, hv]
structure RdG (kv : κ → Value) (w0 : World) (sh : Shared) (r : Nat) (es : List MapEntry) (clock : Nat) (ml : GM κ) : Prop where
 h : ∀ hF Γ w, Sh sh hF → St w0 hF Γ w → w.heap[r]? = some (.map es.toArray clock)
 ok : EsG kv es ml
 born : BornOk es clock
omit [DecidableEq κ] in
theorem RdG.mono {sh' : Shared} (h : RdG kv w0 sh r es clock ml) (hs : ∀ p ∈ sh, p ∈ sh') : RdG kv w0 sh' r es clock ml :=
 ⟨fun hF Γ w hsh hst => h.h hF Γ w (fun p hp => hsh p (hs p hp)) hst, h.ok, h.born⟩
omit [DecidableEq κ] in
theorem EsG.mem (h : EsG kv es ml) {e : MapEntry} (he : e ∈ es) : ∃ p ∈ ml, e.key = kv p.1 ∧ e.val = p.2 := by
 have h1 : (e.key, e.val) ∈ es.map (fun e => (e.key, e.val)) := List.mem_map_of_mem he
 rw [h] at h1
 obtain ⟨p, hp, hq⟩ := List.mem_map.1 h1
 exact ⟨p, hp, (congrArg Prod.fst hq).symm, (congrArg Prod.snd hq).symm⟩
omit [DecidableEq κ] in
theorem reg_rangeG [hT : TUnd P t (.map kt et)] (hX : RdG kv w0 sh r es clock ml) (hx : ev ρ x = .map (some r))
   (h : ∀ nb, Reg P w0 n sh Q ops l k (ρ.set d (.pointer (some ⟨nb, 0, none⟩))) df (Γ ++ [pt nb (iterS r clock [])])) :
   Reg P w0 n sh Q ops ((Fl.loud, i, ⟨some d, .range t x, ty, pos, aft, none⟩) :: l) k ρ df Γ := by
 refine reg_loud rfl (fun v' df' Γ' => ∃ nb, v' = .pointer (some ⟨nb, 0, none⟩) ∧ df' = df ∧ Γ' = Γ ++ [pt nb (iterS r clock [])]) (fun hF hsh w hst => ?_)
   (fun v' df' Γ' ⟨nb, h1, h2, h3⟩ => by subst h1; subst h2; subst h3; exact h nb)
 have hm := hX.h hF Γ w hsh hst
 have hg : (getObj r).run P w = .ok (.map es.toArray clock) w := by simp only [getObj, Sem.run, hm]
 simp only [execOp, hx, Instr.range, Sem.run_bind, run_underlying hT.und, hg, Result.andThen_ok]
 simp only [Sem.run_pure, run_newObj, Result.andThen_ok]
 exact ⟨_, ⟨_, rfl, rfl, rfl⟩, (hst.alloc (iterS r clock [])).perm (List.perm_append_comm (l₁ := [_]))⟩
omit [DecidableEq κ] in
theorem reg_nextG (j : Nat) {it : Nat} {seen : List Nat} {G : Nat → List Asn} (hX : RdG kv w0 sh r es clock ml) (hx : ev ρ x = .pointer (some ⟨it, 0, none⟩)) (hj : getAt j Γ = some (pt it (iterS r clock seen)))
   (hput : ∀ q, putAt j (pt it (iterS r clock (seen ++ [q]))) Γ = some (G q))
   (h0 : (∀ e ∈ es, e.born ∈ seen) → Reg P w0 n sh Q ops l k (ρ.set d (.tuple #[.bool false])) df Γ)
   (h1 : ∀ e p, e ∈ es → e.born ∉ seen → p ∈ ml → e.key = kv p.1 → e.val = p.2 → Reg P w0 n sh Q ops l k (ρ.set d (.tuple #[.bool true, kv p.1, p.2])) df (G e.born)) :
   Reg P w0 n sh Q ops ((Fl.loud, i, ⟨some d, .next x false, ty, pos, aft, none⟩) :: l) k ρ df Γ := by
 refine reg_loud rfl (fun v df' Γ' => df' = df ∧ (((∀ e ∈ es, e.born ∈ seen) ∧ v = .tuple #[.bool false] ∧ Γ' = Γ) ∨ ∃ e p, e ∈ es ∧ e.born ∉ seen ∧ p ∈ ml ∧ (e.key = kv p.1 ∧ e.val = p.2) ∧ v = .tuple #[.bool true, kv p.1, p.2] ∧ Γ' = G e.born)) (fun hF hsh w hst => ?_) ?_
 · obtain ⟨rr, hst1, hback⟩ := hst.at hj
   have hm := hX.h hF Γ w hsh hst
   rcases nextS_run (P := P) hX.born hst1.get.2 hm ty with ⟨ha, w', hr, e1, e2, e3, e4⟩ | ⟨e, w', hq, hqs, hr, e1, e2, e3, e4⟩
   · simp only [execOp, hx, Sem.run_bind, hr, Result.andThen_ok, Sem.run_pure]
     exact ⟨Γ, ⟨rfl, .inl ⟨ha, rfl, rfl⟩⟩, hst.same e2 e3 e4 e1⟩
   · obtain ⟨p, hp, k1, k2⟩ := hX.ok.mem hq
     rw [k1, k2] at hr
     simp only [execOp, hx, Sem.run_bind, hr, Result.andThen_ok, Sem.run_pure]
     have hlt := hst1.lt
     obtain ⟨Γ', h5, h6⟩ := hback (pt it (iterS r clock (seen ++ [e.born]))) w' (hst1.upd e2 e3 e4 (by rw [e1]; simp) (by rw [e1]; simp [hlt]) (fun x hx => by rw [e1]; simp [Array.getElem?_setIfInBounds_ne (Ne.symm hx)]))
     rw [hput] at h5
     cases h5
     exact ⟨G e.born, ⟨rfl, .inr ⟨e, p, hq, hqs, hp, ⟨k1, k2⟩, rfl, rfl⟩⟩, h6⟩
 · rintro v df' Γ' ⟨h2, ⟨ha, h3, h4⟩ | ⟨e, p, hq, hqs, hp, ⟨k1, k2⟩, h3, h4⟩⟩
   · subst h2; subst h3; subst h4; exact h0 ha
   · subst h2; subst h3; subst h4; exact h1 e p hq hqs hp k1 k2
omit [DecidableEq κ] in
theorem reg_entryG (j : Nat) {it : Nat} {seen : List Nat} {e : MapEntry} {p : κ × Value} (hX : RdG kv w0 sh r es clock ml) (he : e ∈ es) (k1 : e.key = kv p.1) (k2 : e.val = p.2) (hx : ev ρ x = .pointer (some ⟨it, 0, none⟩)) (hj : getAt j Γ = some (pt it (iterS r clock (seen ++ [e.born]))))
   (h : Reg P w0 n sh Q ops l k (ρ.set d (.tuple #[kv p.1, p.2])) df Γ) :
   Reg P w0 n sh Q ops ((Fl.loud, i, ⟨some d, .entry x, ty, pos, aft, none⟩) :: l) k ρ df Γ := by
 refine reg_loud rfl (fun v' df' Γ' => v' = .tuple #[kv p.1, p.2] ∧ df' = df ∧ Γ' = Γ) (fun hF hsh w hst => ?_) (fun v' df' Γ' ⟨h1, h2, h3⟩ => by subst h1; subst h2; subst h3; exact h)
 obtain ⟨rr, hp⟩ := getAt_perm hj
 have hi := (hst.perm hp).get.2
 have h1 : (getObj it).run P w = .ok (iterS r clock (seen ++ [e.born])) w := by simp only [getObj, Sem.run, hi, iterS]
 have hm := hX.h hF Γ w hsh hst
 have h2 : (getObj r).run P w = .ok (.map es.toArray clock) w := by simp only [getObj, Sem.run, hm]
 have hfind : es.toArray.find? (fun x => x.born == e.born) = some e := by
   rw [List.find?_toArray]
   exact find_born hX.born.1 he
 simp only [execOp, hx, Instr.entry, Sem.run_bind, h1, Result.andThen_ok]
 simp only [iterS, List.back?_toArray, List.getLast?_append, List.getLast?_singleton, Option.some_or, Sem.run_bind, h2, Result.andThen_ok]
 simp only [bne_self_eq_false, Bool.false_eq_true, if_false, hfind, Sem.run_pure, Result.andThen_ok, k1, k2]
 exact ⟨Γ, ⟨rfl, rfl, rfl⟩, hst⟩
end
end
end Go.Vc
namespace Go.Vc
section
variable {κ : Type} [DecidableEq κ] {kv : κ → Value} {P : Program} {kt : TypeId} {D : TypeDesc}
theorem findNowG {x : κ} (hs : ∀ a : κ, Instr.sameNow D (kv x) (kv a) = some (decide (a = x))) : ∀ (l : GM κ) (es : List MapEntry) (j : Nat), EsG kv es l →
   Instr.findNow D (kv x) es j = some ((placeG l x j).bind fun m => (lookG l x).map fun v => (m, v))
 | [], es, j, h => by rw [h.nil]; rfl
 | (a, v) :: r, es, j, h => by
   obtain ⟨e, es', rfl, h1, h2, h3⟩ := h.cons
   have hs1 : Instr.sameNow D (kv x) e.key = some (decide (a = x)) := by rw [h1]; exact hs a
   simp only [Instr.findNow, hs1, placeG, lookG]
   by_cases e : a = x
   · rw [decide_eq_true e]
     simp only [if_pos e, Option.bind_some, Option.map_some, h2]
   · rw [decide_eq_false e]
     simp only [if_neg e]
     exact findNowG hs r es' (j + 1) h3
theorem findAskG {x : κ} (hs : ∀ (a : κ) (w : World), (Op.equal kt (kv x) (kv a)).run P w = .ok (decide (a = x)) w) : ∀ (l : GM κ) (es : List MapEntry) (j : Nat) (w : World), EsG kv es l →
   (Instr.findAsking kt (kv x) es j).run P w = .ok ((placeG l x j).bind fun m => (lookG l x).map fun v => (m, v)) w
 | [], es, j, w, h => by rw [h.nil]; rfl
 | (a, v) :: r, es, j, w, h => by
   obtain ⟨e, es', rfl, h1, h2, h3⟩ := h.cons
   have hs1 : (Op.equal kt (kv x) e.key).run P w = .ok (decide (a = x)) w := by rw [h1]; exact hs a w
   simp only [Instr.findAsking, Sem.run_bind, hs1, Result.andThen_ok, placeG, lookG]
   by_cases e : a = x
   · rw [decide_eq_true e]
     simp only [if_pos e, if_true, Option.bind_some, Option.map_some, h2, Sem.run_pure]
   · rw [decide_eq_false e]
     simp only [if_neg e, Bool.false_eq_true, if_false]
     exact findAskG hs r es' (j + 1) w h3
theorem keyK_now (hu : P.underlying kt = some D) (hc : ∀ em (w : World) (a : κ), (Instr.checkKey em 10000 kt (kv a)).run P w = .ok () w)
   (hs : ∀ x a : κ, Instr.sameNow D (kv x) (kv a) = some (decide (a = x))) (hst : ∀ (a : κ) (w : World), (Instr.keyThatStays (kv a) (kv a)).run P w = .ok (kv a) w) : KeyK P kt kv where
 check := hc
 find := fun es l a w hE => by
   simp only [Instr.findKey, Sem.run_bind, run_underlying hu, Result.andThen_ok, findNowG (hs a) l es 0 hE, Sem.run_pure]
 stay := hst
theorem keyK_ask (hu : P.underlying kt = some D) (hc : ∀ em (w : World) (a : κ), (Instr.checkKey em 10000 kt (kv a)).run P w = .ok () w)
   (hn : ∀ x a : κ, Instr.sameNow D (kv x) (kv a) = none) (hs : ∀ (x a : κ) (w : World), (Op.equal kt (kv x) (kv a)).run P w = .ok (decide (a = x)) w)
   (hst : ∀ (a : κ) (w : World), (Instr.keyThatStays (kv a) (kv a)).run P w = .ok (kv a) w) : KeyK P kt kv where
 check := hc
 find := fun es l a w hE => by
   have hf : Instr.findNow D (kv a) es 0 = none ∨ (es = [] ∧ Instr.findNow D (kv a) es 0 = some none) := by
     cases l with
     | nil => exact .inr ⟨hE.nil, by rw [hE.nil]; rfl⟩
     | cons p l =>
       obtain ⟨e, es', rfl, h1, _, _⟩ := hE.cons
       left
       simp only [Instr.findNow, h1, hn]
   rcases hf with hf | ⟨rfl, hf⟩
   · simp only [Instr.findKey, Sem.run_bind, run_underlying hu, Result.andThen_ok, hf]
     exact findAskG (hs a) l es 0 w hE
   · have : l = [] := by cases l with | nil => rfl | cons p l => exact absurd hE.len (by simp)
     subst this
     simp only [Instr.findKey, Sem.run_bind, run_underlying hu, Result.andThen_ok, hf]
     rfl
 stay := hst
end
theorem same_int (kd : IntKind) (a : Int) : ∀ n, Instr.sameBits n (.int kd a) (.int kd a) = true := fun n => by cases n <;> simp [Instr.sameBits]
theorem stay_same {P : Program} {v : Value} (h : Instr.sameBits 10000 v v = true) (w : World) : (Instr.keyThatStays v v).run P w = .ok v w := by
 unfold Instr.keyThatStays
 rw [if_pos h]
 rfl
theorem same_agg {vs : List Value} (n : Nat) (h : ∀ v ∈ vs, Instr.sameBits n v v = true) : Instr.sameBits (n + 1) (.agg (List.toArray vs)) (.agg (List.toArray vs)) = true := by
 simp only [Instr.sameBits, beq_self_eq_true, Bool.true_and, List.all_eq_true]
 intro p hp
 obtain ⟨i, hi⟩ := List.getElem?_of_mem hp
 rw [List.getElem?_zip_eq_some] at hi
 have e : p.1 = p.2 := Option.some.inj (hi.1.symm.trans hi.2)
 rw [← e]
 exact h _ (List.mem_of_getElem? hi.1)
theorem check_int {P : Program} {kt : TypeId} {kd : IntKind} (hu : P.underlying kt = some (.int kd)) (em : Bool) (d : Nat) (w : World) (a : Int) : (Instr.checkKey em (d + 1) kt (.int kd a)).run P w = .ok () w := by
 simp only [Instr.checkKey, Sem.run_bind, run_underlying hu, Result.andThen_ok, Sem.run_pure]
theorem keyK_int {P : Program} {kt : TypeId} {kd : IntKind} (hu : P.underlying kt = some (.int kd)) : KeyK P kt (fun x : Int => Value.int kd x) :=
 keyK_now hu (fun em w a => check_int hu em 9999 w a)
   (fun x a => by
     simp only [Instr.sameNow, if_true]
     congr 1
     by_cases h : a = x
     · subst h; simp
     · rw [decide_eq_false h]; simpa using fun e : x = a => h e.symm)
   (fun a w => stay_same (same_int kd a 10000) w)
end Go.Vc
namespace Go.Vc
section
variable {P : Program} {w0 : World} {n : Nat} {sh : Shared} {Q : Exit → Env → List Deferred → List Asn → Prop} {k : List Item} {ρ : Env} {df : List Deferred} {Γ : List Asn} {hF : Heap}
variable {ops : Array Oper} {l : List (Fl × Nat × Oper)} {i : Nat} {ty : TypeId} {pos : String} {aft : Array Edge}
variable {t : TypeId} {v : Value} {f : FuncId} {args : List Value} {Γp Γr : List Asn} {R : Value → List Asn → Prop} {shf : Shared} {cargs : Array Operand} {ats : Array TypeId} {fo : Operand}
theorem opW_callM {dst : Option Tmp} {name : String} [hm : TMeth P t v name f] (hfo : ev ρ fo = .func (.method name) #[.iface t v] #[]) (spec : Fn P w0 shf f args Γp R) (hargs : v :: cargs.toList.map (ev ρ) = args)
   {is : List Nat} (hp : pick is Γ = some (Γp, Γr)) (hsh : Vc.Sh shf hF) :
   OpW P w0 hF ⟨dst, .call ⟨.value fo, cargs, ats⟩, ty, pos, aft, none⟩ ρ df Γ fun v df' Γ' => ∃ Γ'', R v Γ'' ∧ df' = df ∧ Γ' = Γ'' ++ Γr := by
 intro w hst
 have e1 : #[v] ++ cargs.map (ev ρ) = args.toArray := by
   rw [← hargs]; apply Array.ext'; simp
 have he : (callFunc f args.toArray).run P w = .ok (.enter f args.toArray) w := spec.enters _ _
 have e2 : (#[Value.iface t v] ++ cargs.map (ev ρ)).extract 1 (#[Value.iface t v] ++ cargs.map (ev ρ)).size = cargs.map (ev ρ) := by
   apply Array.ext'; simp [List.take_of_length_le]
 have e3 : (#[Value.iface t v] ++ cargs.map (ev ρ))[0]? = some (Value.iface t v) := by rw [Array.getElem?_append_left (by simp)]; rfl
 have e4 : #[Value.iface t v] ++ cargs.map (ev ρ) ++ #[] = #[Value.iface t v] ++ cargs.map (ev ρ) := by simp
 have hprog : ∀ w, (program).run P w = .ok P w := fun w => rfl
 simp only [execOp, resolve, Deferred.ofValue, hfo, Sem.run_bind, Sem.run_pure, Result.andThen_ok, invoke, e2, e3, callMethod, hprog, hm.meth, e1, he]
 obtain ⟨g, hg, hd, hst1⟩ := (hst.perm (pick_perm hp)).split
 have hsh1 : Vc.Sh shf (g.or hF) := fun p hp => by
   have := hsh p hp
   rcases hd p.1 with e | e
   · simp [Heap.or, e, this]
   · rw [e] at this; cases this
 exact (spec.calls _ w hsh1 hst1).mono fun e w' ⟨v, Γ', he, hR, hst'⟩ => ⟨v, Γ' ++ Γr, he, ⟨Γ', hR, rfl, rfl⟩, hst'.join hg hd⟩
theorem reg_callM (is : List Nat) {dst : Option Tmp} {name : String} [hm : TMeth P t v name f] (spec : Fn P w0 shf f args Γp R) (hfo : ev ρ fo = .func (.method name) #[.iface t v] #[]) (hargs : v :: cargs.toList.map (ev ρ) = args)
   (hp : pick is Γ = some (Γp, Γr)) (hsh : ∀ p ∈ shf, p ∈ sh) (h : ∀ v Γ', R v Γ' → Reg P w0 n sh Q ops l k (ρ.setO dst v) df (Γ' ++ Γr)) :
   Reg P w0 n sh Q ops ((Fl.loud, i, ⟨dst, .call ⟨.value fo, cargs, ats⟩, ty, pos, aft, none⟩) :: l) k ρ df Γ :=
 reg_loud rfl _ (fun hF hs => opW_callM hfo spec hargs hp (fun p hp => hs p (hsh p hp))) (fun v df' Γ' ⟨Γ'', hR, h2, h3⟩ => by subst h2; subst h3; exact h v Γ'' hR)
end
end Go.Vc
namespace Go.Vc
section
variable {P : Program} {w0 : World} {n : Nat} {sh : Shared} {Q : Exit → Env → List Deferred → List Asn → Prop} {k : List Item} {ρ : Env} {df : List Deferred} {Γ : List Asn} {hF : Heap}
variable {ops : Array Oper} {l : List (Fl × Nat × Oper)} {b : Fl} {i d : Nat} {ty : TypeId} {pos : String} {aft : Array Edge}
variable {x y : Operand} {t e : TypeId} {agg : Bool} {sz bytes : Nat} {cs new : List Value}
def RdCl (w0 : World) (sh : Shared) (sz : Nat) (a : Option Addr) (len : Nat) (cs : List Value) : Prop :=
 (a = none ∧ len = 0 ∧ cs = []) ∨ ∃ bb off c T fr, a = some ⟨bb, off, none⟩ ∧ (∀ hF Γ w, Sh sh hF → St w0 hF Γ w → w.heap[bb]? = some (.cells (List.toArray c) T fr)) ∧ (c.drop off).take (len * sz) = cs ∧ off + len * sz ≤ c.length
theorem RdCl.len {a : Option Addr} {len : Nat} (h : RdCl w0 sh sz a len cs) : cs.length = len * sz := by
 rcases h with ⟨_, rfl, rfl⟩ | ⟨bb, off, c, T, fr, _, _, rfl, h⟩
 · simp
 · simp; omega
theorem RdCl.mono {sh' : Shared} {a : Option Addr} {len : Nat} (h : RdCl w0 sh sz a len cs) (hs : ∀ p ∈ sh, p ∈ sh') : RdCl w0 sh' sz a len cs := by
 rcases h with h | ⟨bb, off, c, T, fr, h1, h2, h3⟩
 · exact .inl h
 · exact .inr ⟨bb, off, c, T, fr, h1, fun hF Γ w q => h2 hF Γ w fun p hp => q p (hs p hp), h3⟩
theorem opW_append_full {dst : Option Tmp} {a : Option Addr} {len cap m cap2 b2 off2 : Nat} {T2 : TypeId} {fr : Nat × Nat} {c2 : List Value} {ats : Array TypeId} {zv : Value}
   [hT : TUnd P t (.slice e)] [hS : TShape P e agg sz] [hZ : TZeroV P e zv] [hI : TInfo P e bytes] {t2 : TypeId} {e2 : TypeId} [hT2 : TUnd P t2 (.slice e2)]
   (hats : ats = #[t, t2]) (hx : ev ρ x = .slice a len cap) (hy : ev ρ y = .slice (some ⟨b2, off2, none⟩) m cap2) (hj : RdCl w0 sh sz a len cs) (hsh : Sh sh hF)
   (hblk : ∀ w, St w0 hF Γ w → w.heap[b2]? = some (.cells (List.toArray c2) T2 fr)) (hnew : (c2.drop off2).take (m * sz) = new) (hle2 : off2 + m * sz ≤ c2.length)
   (hzs : zv.cells.size = sz) (hsmall : (2 * (len + m) + 192) * bytes ≤ 281474976710656) (hbig : len + m ≤ 9223372036854775807) (hfull : cap < len + m) :
   OpW P w0 hF ⟨dst, .call ⟨.builtin .append, #[x, y], ats⟩, ty, pos, aft, none⟩ ρ df Γ fun v df' Γ' => ∃ nb cap', v = .slice (some ⟨nb, 0, none⟩) (len + m) cap' ∧ df' = df ∧ Γ' = SlA e sz (some ⟨nb, 0, none⟩) (len + m) cap' (cs ++ new) :: Γ := by
 subst hats
 intro w hst
 have hlen : new.length = m * sz := by rw [← hnew]; simp; omega
 have hb2 := hblk w hst
 obtain ⟨ti, hti, hbytes⟩ := hI.info_run w
 have hfirst : ∀ w, w.heap[b2]? = some (.cells (List.toArray c2) T2 fr) → (Builtin.firstCells sz m (.slice (some ⟨b2, off2, none⟩) m cap2)).run P w = .ok new.toArray w := fun w hw => by
   rw [run_firstCells hw (by simpa using hle2)]
   congr 1
   apply Array.ext'
   rw [← hnew]
   simp [List.take_drop]
 have hmax : ¬ ((len + m : Nat) : Int) > IntKind.i64.max := by rw [IntKind.max_i64]; omega
 have hfit : ¬ len + m ≤ cap := by omega
 simp only [execOp, resolve, invoke, builtin, Builtin.append_, Builtin.lenOf]
 simp only [List.map_toArray, List.map_cons, List.map_nil, hx, hy, Sem.run_bind, Sem.run_pure, Result.andThen_ok]
 simp only [List.getElem?_toArray, List.getElem?_cons_zero, List.getElem?_cons_succ, Sem.run_bind, Sem.run_pure, Result.andThen_ok, run_underlying hT.und, run_underlying hT2.und, hS.size_run, Bool.false_eq_true, if_false, Bool.not_false, if_true]
 have hcap : ¬ Builtin.nextslicecap (len + m) cap * bytes > 2 ^ 48 := by
   have := nextslicecap_le (m := len + m) (c := cap) (by omega)
   have h2 := Nat.mul_le_mul_right bytes this
   omega
 simp only [hfit, if_false, Sem.run_bind, hti, Result.andThen_ok, hbytes, hmax, false_and, hcap]
 simp only [run_choose, Question.forced, Bool.false_eq_true, if_false, Result.andThen_ok, Question.cut, run_askRoom, hZ.zero_run]
 generalize hq : len + m + w.tape w.drawn (.appendCap (len + m) cap e) % (2 ^ 63 - (len + m)) = newCap
 have hge : len + m ≤ newCap := by omega
 have hold : ∃ old : Array Value, (Builtin.firstCells sz len (.slice a len cap)).run P { w with drawn := w.drawn + 1 } = .ok old { w with drawn := w.drawn + 1 } ∧ old.toList = cs := by
   rcases hj with ⟨rfl, rfl, rfl⟩ | ⟨bb, off, c, T, fr', rfl, h1, h2, h3⟩
   · exact ⟨#[], by simp [Builtin.firstCells], rfl⟩
   · have hg := h1 hF Γ w hsh hst
     refine ⟨_, run_firstCells (w := { w with drawn := w.drawn + 1 }) hg (by simpa using h3), ?_⟩
     rw [← h2]
     simp [List.take_drop]
 obtain ⟨old, ho1, ho2⟩ := hold
 obtain ⟨ti2, hti2, _⟩ := hI.info_run { w with drawn := w.drawn + 1 }
 simp only [hti2, ho1, Result.andThen_ok, hfirst { w with drawn := w.drawn + 1 } hb2, newRow, run_newObj, Sem.run_bind, Sem.run_pure]
 have hst2 := ((hst.drew (w.drawn + 1))).alloc (.cells (old ++ new.toArray ++ Builtin.zeroCells zv.cells (newCap - (len + m))) e (0, 0))
 have hcs := hj.len
 refine ⟨_, ⟨w.heap.size, newCap, rfl, rfl, rfl⟩, hst2.exch fun g hg => SlA.some_iff.2 ⟨w.heap.size, (Builtin.zeroCells zv.cells (newCap - (len + m))).toList, rfl, by simp [hcs, hlen, Nat.add_mul], hge, ?_, ?_⟩⟩
 · have e2 : newCap * sz = (len + m) * sz + (newCap - (len + m)) * sz := by rw [← Nat.add_mul]; congr 1; omega
   simp [hcs, hlen, size_zeroCells, hzs, e2, Nat.add_mul]
 · have : (cs ++ new ++ (Builtin.zeroCells zv.cells (newCap - (len + m))).toList).toArray = old ++ new.toArray ++ Builtin.zeroCells zv.cells (newCap - (len + m)) := by
     apply Array.ext'; simp [ho2]
   rw [this]; exact hg
theorem reg_append_full (j2 : Nat) {dst : Option Tmp} {a : Option Addr} {len cap m cap2 b2 off2 : Nat} {T2 : TypeId} {fr : Nat × Nat} {c2 : List Value} {zv : Value}
   {t2 : TypeId} {e2 : TypeId} [hT : TUnd P t (.slice e)] [hS : TShape P e agg sz] [hZ : TZeroV P e zv] [hI : TInfo P e bytes] [hT2 : TUnd P t2 (.slice e2)]
   (hx : ev ρ x = .slice a len cap) (hy : ev ρ y = .slice (some ⟨b2, off2, none⟩) m cap2) (hj : RdCl w0 sh sz a len cs)
   (hj2 : getAt j2 Γ = some (pt b2 (.cells (List.toArray c2) T2 fr))) (hnew : takeL (m * sz) (dropL off2 c2) = some new) (hoff : Nat.ble off2 c2.length = true)
   (hzs : zv.cells.size = sz) (hsmall : (2 * (len + m) + 192) * bytes ≤ 281474976710656 ∧ len + m ≤ 9223372036854775807) (hfull : cap < len + m)
   (h : ∀ nb cap', Reg P w0 n sh Q ops l k (ρ.setO dst (.slice (some ⟨nb, 0, none⟩) (len + m) cap')) df (SlA e sz (some ⟨nb, 0, none⟩) (len + m) cap' (cs ++ new) :: Γ)) :
   Reg P w0 n sh Q ops ((Fl.loud, i, ⟨dst, .call ⟨.builtin .append, #[x, y], #[t, t2]⟩, ty, pos, aft, none⟩) :: l) k ρ df Γ := by
 obtain ⟨h1, h2⟩ := takeL_eq _ _ _ hnew
 rw [dropL_eq] at h1 h2
 refine reg_loud rfl _ (fun hF hsh => opW_append_full (T2 := T2) (fr := fr) (hT := hT) (hS := hS) (hZ := hZ) (hI := hI) (hT2 := hT2) (new := new) rfl hx hy hj hsh (fun w hst => ?_) h1.symm ?_ hzs hsmall.1 hsmall.2 hfull) ?_
 · obtain ⟨r, hp⟩ := getAt_perm hj2
   exact (hst.perm hp).get.2
 · have := Nat.le_of_ble_eq_true hoff
   simp at h2; omega
 · rintro v df' Γ' ⟨nb, cap', h3, h4, h5⟩
   subst h3; subst h4; subst h5
   exact h nb cap'
end
end Go.Vc
namespace Go.Vc
section
variable {P : Program} {w0 : World} {n : Nat} {sh : Shared} {Q : Exit → Env → List Deferred → List Asn → Prop} {k : List Item} {ρ : Env} {df : List Deferred} {Γ : List Asn}
variable {ops : Array Oper} {l : List (Fl × Nat × Oper)} {b : Fl} {i d : Nat} {ty : TypeId} {pos : String} {aft : Array Edge}
variable {x y : Operand} {t yt : TypeId} {f : _root_.Go.Fn} {c1 c2 : Array Value} {ps rs : Array TypeId} {va : Bool}
theorem reg_eq_fnF [hT : TUnd P t (.func ps rs va)] (hx : ev ρ x = .func f c1 c2) (hy : ev ρ y = .nilFunc) (h : Reg P w0 n sh Q ops l k (ρ.set d (.bool false)) df Γ) :
   Reg P w0 n sh Q ops ((b, i, ⟨some d, .binOp .eql t x y yt, ty, pos, aft, none⟩) :: l) k ρ df Γ :=
 reg_eq_gen hx hy (by rfl) (by rfl) (fun d w => by simp only [Op.equalIn, Sem.run_bind, run_underlying hT.und, Result.andThen_ok, Sem.run_pure]) h
theorem reg_eq_fnT [hT : TUnd P t (.func ps rs va)] (hx : ev ρ x = .nilFunc) (hy : ev ρ y = .nilFunc) (h : Reg P w0 n sh Q ops l k (ρ.set d (.bool true)) df Γ) :
   Reg P w0 n sh Q ops ((b, i, ⟨some d, .binOp .eql t x y yt, ty, pos, aft, none⟩) :: l) k ρ df Γ :=
 reg_eq_gen hx hy (by rfl) (by rfl) (fun d w => by simp only [Op.equalIn, Sem.run_bind, run_underlying hT.und, Result.andThen_ok, Sem.run_pure]) h
end
end Go.Vc
namespace Go.Vc
def Back (sh sh' : Shared) : Asn := fun g => ∃ bl : Shared, (∀ p ∈ sh, p ∈ sh') ∧ (∀ p ∈ sh', p ∈ bl ∨ p ∈ sh) ∧ ∀ p ∈ bl, g p.1 = some p.2
def RdO (sh : Shared) (ψ : Shared → Prop) : Asn := fun g => ∃ bl : Shared, (∀ p ∈ bl, g p.1 = some p.2) ∧ ψ (sh ++ bl)
theorem Back.refl (sh : Shared) : Back sh sh Heap.emp := ⟨[], fun _ h => h, fun _ h => .inr h, fun p hp => by cases hp⟩
theorem Back.more {sh bl : Shared} {g : Heap} (h : ∀ p ∈ bl, g p.1 = some p.2) : Back sh (sh ++ bl) g := ⟨bl, fun _ hp => List.mem_append_left _ hp, fun _ hp => (List.mem_append.1 hp).symm, h⟩
theorem Back.sh {sh sh' : Shared} {g hF : Heap} (h : Back sh sh' g) (hd : Disj g hF) (hs : Sh sh hF) : Sh sh' (g.or hF) := by
 obtain ⟨bl, _, h2, hb⟩ := h
 intro p hp
 rcases h2 p hp with hp | hp
 · exact or_left (hb p hp)
 · exact or_right hd (hs p hp)
theorem Back.trans {a b c : Shared} {l : List Asn} {g : Heap} (h : Stars (Back a b :: Back b c :: l) g) : Stars (Back a c :: l) g := by
 obtain ⟨g1, g2, d1, rfl, ⟨bl, i1, i2, h1⟩, g3, g4, d2, rfl, ⟨bl2, j1, j2, h2⟩, h3⟩ := h
 refine ⟨g1.or g3, g4, ?_, (Heap.or_assoc _ _ _).symm, ⟨bl2 ++ bl, fun p hp => j1 p (i1 p hp), fun p hp => ?_, fun p hp => ?_⟩, h3⟩
 · rw [Disj.or_left]
   rw [Disj.or_right] at d1
   exact ⟨d1.2, d2⟩
 · rcases j2 p hp with hp | hp
   · exact .inl (List.mem_append_left _ hp)
   · exact (i2 p hp).imp (List.mem_append_right _) id
 · rw [Disj.or_right] at d1
   rcases List.mem_append.1 hp with hp | hp
   · exact or_right d1.1 (h2 p hp)
   · exact or_left (h1 p hp)
theorem RdO.back {sh sh' : Shared} {ψ : Shared → Prop} {g : Heap} (h : Back sh sh' g) (hψ : ∀ s, (∀ p ∈ sh', p ∈ s) → ψ s) : RdO sh ψ g := by
 obtain ⟨bl, _, h2, hb⟩ := h
 exact ⟨bl, hb, hψ _ fun p hp => (h2 p hp).elim (List.mem_append_right _) (List.mem_append_left _)⟩
theorem RdO.ofRds {sh : Shared} {φ ψ : Shared → Prop} (h : ∀ bl, φ bl → ψ (sh ++ bl)) (g : Heap) (hg : Rds φ g) : RdO sh ψ g := let ⟨bl, h1, h2⟩ := hg; ⟨bl, h1, h bl h2⟩
theorem RdO.mono {sh : Shared} {φ ψ : Shared → Prop} (h : ∀ s, (∀ p ∈ sh, p ∈ s) → φ s → ψ s) (g : Heap) (hg : RdO sh φ g) : RdO sh ψ g := let ⟨bl, h1, h2⟩ := hg; ⟨bl, h1, h _ (fun _ hp => List.mem_append_left _ hp) h2⟩
theorem RdO.emp {sh : Shared} {ψ : Shared → Prop} (h : ψ sh) : RdO sh ψ Heap.emp := ⟨[], fun p hp => (by cases hp), (by rw [List.append_nil]; exact h)⟩
theorem RdO.ofSl {α : Type} {w0 : World} {encE : α → List Value} {q : Nat} {T : TypeId} {a : Option Addr} {len cap : Nat} {l : List α} {sh : Shared} (hq : ∀ x ∈ l, (encE x).length = q) (hl : l.length = len) (g : Heap) (hg : SlA T q a len cap (l.flatMap encE) g) :
   RdO sh (fun s => RdSl w0 s encE q (.slice a len cap) l) g :=
 RdO.ofRds (fun _ h => h.mono fun _ hp => List.mem_append_right _ hp) g (Rds.ofSl hq hl g hg)
theorem RdO.ofCl {w0 : World} {q : Nat} {T : TypeId} {a : Option Addr} {len cap : Nat} {cs : List Value} {sh : Shared} (g : Heap) (hg : SlA T q a len cap cs g) :
   RdO sh (fun s => RdCl w0 s q a len cs ∧ len ≤ cap) g := by
 cases a with
 | none =>
   obtain ⟨e1, e2, e3, e4⟩ := SlA.none_iff.1 hg
   subst e4
   exact RdO.emp ⟨.inl ⟨rfl, e1, e3⟩, by omega⟩
 | some ad =>
   obtain ⟨b', spare, e1, e2, e3, e4, e5⟩ := SlA.some_iff.1 hg
   refine RdO.ofRds (fun bl hb => ⟨.inr ⟨b', 0, cs ++ spare, T, (0, 0), congrArg some e1, fun hF Γ w hsh hst => (hst.frame (hsh _ (List.mem_append_right _ hb))).2, ?_, ?_⟩, e3⟩) g (Rds.of_pt g e5)
   · rw [List.drop_zero, ← e2, List.take_left' rfl]
   · rw [List.length_append]; omega
theorem RdO.ofPt {b : Nat} {o : Obj} {sh : Shared} (g : Heap) (hg : pt b o g) : RdO sh (fun s => (b, o) ∈ s) g := RdO.ofRds (φ := fun bl => (b, o) ∈ bl) (ψ := fun s => (b, o) ∈ s) (fun _ h => List.mem_append_right _ h) g (Rds.of_pt g hg)
section
variable {κ : Type} {kv : κ → Value}
theorem RdO.ofMap {w0 : World} {r : Nat} {ml : GM κ} {sh : Shared} (g : Heap) (hg : MapG kv r ml g) : RdO sh (fun s => ∃ es clock, RdG kv w0 s r es clock ml) g := by
 obtain ⟨es, clock, h1, h2, h3⟩ := hg
 exact RdO.ofRds (φ := fun bl => (r, Obj.map es.toArray clock) ∈ bl) (fun bl hb => ⟨es, clock, ⟨fun hF Γ w hsh hst => (hst.frame (hsh _ (List.mem_append_right _ hb))).2, h2, h3⟩⟩) g (Rds.of_pt g h1)
end
section
variable {P : Program} {w0 : World} {n : Nat} {sh sh0 : Shared} {Q : Exit → Env → List Deferred → List Asn → Prop} {k : List Item} {ρ : Env} {df : List Deferred} {Γ : List Asn} {ψ : Shared → Prop}
def kept (Q : Exit → Env → List Deferred → List Asn → Prop) (sh0 sh : Shared) : Exit → Env → List Deferred → List Asn → Prop := fun e ρ df Γ => ∃ Γ2, (∀ h, Stars (Back sh0 sh :: Γ) h → Stars Γ2 h) ∧ Q e ρ df Γ2
theorem Stars.emp_cons {A : Asn} {l : List Asn} {g : Heap} (hA : A Heap.emp) (h : Stars l g) : Stars (A :: l) g := ⟨Heap.emp, g, Disj.emp_left _, (Heap.emp_or g).symm, hA, h⟩
theorem run_kept (h : Run P w0 n sh (kept Q sh sh) k ρ df Γ) : Run P w0 n sh Q k ρ df Γ := by
 refine ⟨fun hF hsh a w ha hn hd hst => (h.go hF hsh a w ha hn hd hst).mono ?_⟩
 rintro e a' w' ⟨h3, Γ', ⟨Γ2, h4, h5⟩, g, hg, hdj, hsat⟩
 exact ⟨h3, Γ2, h5, g, h4 g (Stars.emp_cons (Back.refl sh) hg), hdj, hsat⟩
theorem run_shareA (is : List Nat) {A : Asn} {Γr : List Asn} (ψ : Shared → Prop) (hA : ∀ g, A g → RdO sh ψ g) (hp : pick is Γ = some ([A], Γr))
   (h : ∀ bl, (∀ p ∈ sh, p ∈ sh ++ bl) → ψ (sh ++ bl) → Run P w0 n (sh ++ bl) (kept Q sh0 (sh ++ bl)) k ρ df Γr) : Run P w0 n sh (kept Q sh0 sh) k ρ df Γ := by
 refine ⟨?_⟩
 intro hF hsh a w ha hn hd hst
 have h1 : St w0 hF (Γr ++ [A]) w := (hst.perm (pick_perm hp)).perm List.perm_append_comm
 obtain ⟨g, hg, hdj, hst2⟩ := h1.split
 obtain ⟨bl, hb0, hψ⟩ := hA g (Stars.one.1 hg)
 have hb : Back sh (sh ++ bl) g := Back.more hb0
 refine ((h bl (fun _ hp => List.mem_append_left _ hp) hψ).go _ (hb.sh hdj hsh) a w ha hn hd hst2).mono ?_
 rintro e a' w' ⟨h3, Γ', ⟨Γ2, h4, h5⟩, h6⟩
 refine ⟨h3, Γ' ++ [Back sh (sh ++ bl)], ⟨Γ2, fun q hq => h4 q (Back.trans (b := sh) ?_), h5⟩, h6.join (Stars.one.2 hb) hdj⟩
 exact hq.perm (List.Perm.cons _ List.perm_append_comm)
theorem RdO.up {sh sh' : Shared} {ψ φ : Shared → Prop} (hs : ∀ p ∈ sh, p ∈ sh') (hψ : ∀ s s', (∀ p ∈ s, p ∈ s') → ψ s → φ s') (g : Heap) (h : RdO sh ψ g) : RdO sh' φ g := by
 obtain ⟨bl, h1, h2⟩ := h
 exact ⟨bl, h1, hψ _ _ (fun p hp => (List.mem_append.1 hp).elim (fun hp => List.mem_append_left _ (hs p hp)) (List.mem_append_right _)) h2⟩
theorem run_shareO (is : List Nat) {sh1 : Shared} {Γr : List Asn} (hs1 : ∀ p ∈ sh1, p ∈ sh) (hp : pick is Γ = some ([RdO sh1 ψ], Γr))
   (h : ∀ bl, (∀ p ∈ sh, p ∈ sh ++ bl) → (∀ p ∈ sh1 ++ bl, p ∈ sh ++ bl) → ψ (sh1 ++ bl) → Run P w0 n (sh ++ bl) (kept Q sh0 (sh ++ bl)) k ρ df Γr) : Run P w0 n sh (kept Q sh0 sh) k ρ df Γ :=
 run_shareA is (fun s => ∃ s1, (∀ p ∈ s1, p ∈ s) ∧ ∃ bl, s1 = sh1 ++ bl ∧ s = sh ++ bl ∧ ψ s1) (fun _ ⟨bl, h1, h2⟩ => ⟨bl, h1, sh1 ++ bl, fun p hp => (List.mem_append.1 hp).elim (fun hp => List.mem_append_left _ (hs1 p hp)) (List.mem_append_right _), bl, rfl, rfl, h2⟩) hp
   fun bl hs ⟨s1, h1, bl2, e1, e2, h2⟩ => by
     have := List.append_cancel_left e2
     subst this
     subst e1
     exact h bl hs h1 h2
theorem run_shareK (is : List Nat) {b : Nat} {o : Obj} {Γr : List Asn} (hp : pick is Γ = some ([pt b o], Γr))
   (h : Run P w0 n ((b, o) :: sh) (kept Q sh0 ((b, o) :: sh)) k ρ df Γr) : Run P w0 n sh (kept Q sh0 sh) k ρ df Γ := by
 refine ⟨?_⟩
 intro hF hsh a w ha hn hd hst
 have h1 : St w0 hF (Γr ++ [pt b o]) w := (hst.perm (pick_perm hp)).perm List.perm_append_comm
 obtain ⟨g, hg, hdj, hst2⟩ := h1.split
 have hb : Back sh ((b, o) :: sh) g := ⟨[(b, o)], fun _ hp => .tail _ hp, fun p hp => (List.mem_cons.1 hp).imp (fun e => List.mem_singleton.2 e) id, fun p hp => by
   have hg := Stars.one.1 hg
   rw [List.mem_singleton.1 hp]; simp only [pt] at hg; subst hg; simp [Heap.one]⟩
 refine (h.go _ (hb.sh hdj hsh) a w ha hn hd hst2).mono ?_
 rintro e a' w' ⟨h3, Γ', ⟨Γ2, h4, h5⟩, h6⟩
 refine ⟨h3, Γ' ++ [Back sh ((b, o) :: sh)], ⟨Γ2, fun q hq => h4 q (Back.trans (b := sh) ?_), h5⟩, h6.join (Stars.one.2 hb) hdj⟩
 exact hq.perm (List.Perm.cons _ List.perm_append_comm)
theorem run_shareP (is : List Nat) {A : Asn} {Γr : List Asn} (ψ : Shared → Prop) (hA : ∀ g, A g → RdO sh ψ g) (hp : pick is Γ = some ([A], Γr))
   (h : ∀ bl, (∀ p ∈ sh, p ∈ sh ++ bl) → ψ (sh ++ bl) → Run P w0 n (sh ++ bl) Q k ρ df Γr) : Run P w0 n sh Q k ρ df Γ := by
 refine ⟨?_⟩
 intro hF hsh a w ha hn hd hst
 have h1 : St w0 hF (Γr ++ [A]) w := (hst.perm (pick_perm hp)).perm List.perm_append_comm
 obtain ⟨g, hg, hdj, hst2⟩ := h1.split
 obtain ⟨bl, hb0, hψ⟩ := hA g (Stars.one.1 hg)
 have hb : Back sh (sh ++ bl) g := Back.more hb0
 have hsub : ∀ c oc, hF c = some oc → (g.or hF) c = some oc := fun c oc hc => by
   rcases hdj c with e | e
   · simp [Heap.or, e, hc]
   · rw [e] at hc; cases hc
 exact RunAt.mono ((h bl (fun _ hp => List.mem_append_left _ hp) hψ).go _ (hb.sh hdj hsh)) hsub (fun _ _ _ _ h => h) ha hn hd hst2
theorem run_shareQ (is : List Nat) {sh1 : Shared} {Γr : List Asn} (hs1 : ∀ p ∈ sh1, p ∈ sh) (hp : pick is Γ = some ([RdO sh1 ψ], Γr))
   (h : ∀ bl, (∀ p ∈ sh, p ∈ sh ++ bl) → (∀ p ∈ sh1 ++ bl, p ∈ sh ++ bl) → ψ (sh1 ++ bl) → Run P w0 n (sh ++ bl) Q k ρ df Γr) : Run P w0 n sh Q k ρ df Γ :=
 run_shareP is (fun s => ∃ s1, (∀ p ∈ s1, p ∈ s) ∧ ∃ bl, s1 = sh1 ++ bl ∧ s = sh ++ bl ∧ ψ s1) (fun _ ⟨bl, h1, h2⟩ => ⟨bl, h1, sh1 ++ bl, fun p hp => (List.mem_append.1 hp).elim (fun hp => List.mem_append_left _ (hs1 p hp)) (List.mem_append_right _), bl, rfl, rfl, h2⟩) hp
   fun bl hs ⟨s1, h1, bl2, e1, e2, h2⟩ => by
     have := List.append_cancel_left e2
     subst this
     subst e1
     exact h bl hs h1 h2
variable {fn : Func} {R : Value → List Asn → Prop}
theorem retK (is : List Nat) (ψ : Shared → Prop) (hψ : ∀ s, (∀ p ∈ sh, p ∈ s) → ψ s) {Γp Γr : List Asn} (hp : pick is Γ = some (Γp, Γr)) (h : Ends P w0 sh fn ρ Γ fun v Γ' => Γ' = Γ ∧ R v (RdO sh0 ψ :: Γp)) :
   Run P w0 n sh (kept (retQ P w0 sh0 fn R) sh0 sh) (.code .ret :: k) ρ [] Γ := by
 refine zeg ⟨Back sh0 sh :: Γ, fun _ h => h, ?_⟩
 refine zek fun hF a w hsh ha hst => ?_
 have h1 : St w0 hF (Γ ++ [Back sh0 sh]) w := hst.perm (List.perm_append_comm (l₁ := [_]))
 obtain ⟨g, hg, hdj, hst2⟩ := h1.split
 have hb := Stars.one.1 hg
 obtain ⟨v, Γ', e1, ⟨e2, e3⟩, e4⟩ := h _ a w (hb.sh hdj hsh) ha hst2
 refine ⟨v, _, e1, e3, ?_⟩
 have h5 : St w0 (g.or hF) Γp w := (hst2.perm (pick_perm hp)).left
 exact (h5.join (Γ' := [RdO sh0 ψ]) (Stars.one.2 (RdO.back hb hψ)) hdj).perm (List.perm_append_comm (l₂ := [_]))
end
end Go.Vc
namespace Go.Vc
section
variable {κ : Type} {kv : κ → Value} [DecidableEq κ]
variable {P : Program} {w0 : World} {n : Nat} {sh : Shared} {Q : Exit → Env → List Deferred → List Asn → Prop} {k : List Item} {ρ : Env} {df : List Deferred} {Γ : List Asn} {hF : Heap}
variable {ops : Array Oper} {l : List (Fl × Nat × Oper)} {b : Fl} {i d : Nat} {ty : TypeId} {pos : String} {aft : Array Edge}
variable {x y z : Operand} {t kt et : TypeId} {r clock : Nat} {a : κ} {ml : GM κ} {zv : Value} {es : List MapEntry} {m : Option Nat}
structure RdV (kv : κ → Value) (w0 : World) (sh : Shared) (m : Option Nat) (es : List MapEntry) (clock : Nat) (ml : GM κ) : Prop where
 some : ∀ r, m = some r → RdG kv w0 sh r es clock ml
 none : m = none → ml = [] ∧ es = [] ∧ clock = 0
omit [DecidableEq κ] in
theorem RdV.mono {sh' : Shared} (h : RdV kv w0 sh m es clock ml) (hs : ∀ p ∈ sh, p ∈ sh') : RdV kv w0 sh' m es clock ml := ⟨fun r e => (h.some r e).mono hs, h.none⟩
omit [DecidableEq κ] in
theorem RdV.of (h : RdG kv w0 sh r es clock ml) : RdV kv w0 sh (Option.some r) es clock ml := ⟨fun r' e => (by cases e; exact h), fun e => (by cases e)⟩
omit [DecidableEq κ] in
theorem RdV.nil : RdV kv w0 sh Option.none [] 0 [] := ⟨fun r e => (by cases e), fun _ => ⟨rfl, rfl, rfl⟩⟩
omit [DecidableEq κ] in
theorem RdV.ok (h : RdV kv w0 sh m es clock ml) : EsG kv es ml := by
 cases m with
 | none => obtain ⟨rfl, rfl, rfl⟩ := h.none rfl; rfl
 | some r => exact (h.some r rfl).ok
omit [DecidableEq κ] in
theorem RdV.born (h : RdV kv w0 sh m es clock ml) : BornOk es clock := by
 cases m with
 | none => obtain ⟨rfl, rfl, rfl⟩ := h.none rfl; exact ⟨List.nodup_nil, fun _ h => by cases h⟩
 | some r => exact (h.some r rfl).born
theorem reg_lookupV {ok : Bool} {v : Value} [hT : TUnd P t (.map kt et)] [hK : KeyK P kt kv] [hZ : TZeroV P et zv] (hX : RdV kv w0 sh m es clock ml) (hx : ev ρ x = .map m) (hy : ev ρ y = kv a)
   (hv : (if ok then .tuple #[(lookG ml a).getD zv, .bool (lookG ml a).isSome] else (lookG ml a).getD zv) = v)
   (h : Reg P w0 n sh Q ops l k (ρ.set d v) df Γ) : Reg P w0 n sh Q ops ((b, i, ⟨some d, .lookup t x y ok, ty, pos, aft, none⟩) :: l) k ρ df Γ :=
 reg_quiet rfl (fun hF hsh w Γ hst => ⟨w, by
   cases m with
   | none =>
     obtain ⟨rfl, rfl, rfl⟩ := hX.none rfl
     have hck : ∀ em, (Instr.checkKey em 10000 kt (kv a)).run P w = .ok () w := fun em => hK.check em w a
     have hfi := hK.find [] [] a w rfl
     have e : (placeG ([] : GM κ) a 0).bind (fun m => (lookG ([] : GM κ) a).map fun v => (m, v)) = Option.none := rfl
     rw [e] at hfi
     subst hv
     simp only [execOp, hx, hy, Instr.lookup, Sem.run_bind, run_underlying hT.und, Result.andThen_ok, Sem.run_pure, hck, hfi, hZ.zero_run]
     rfl
   | some r =>
     have hm := (hX.some r rfl).h hF Γ w hsh hst
     simp only [execOp, hx, hy, Sem.run_bind, lookupG_run hX.ok hT.und hK hZ.zero_run hm, Sem.run_pure, Result.andThen_ok, hv], hst⟩) h
omit [DecidableEq κ] in
theorem reg_lenV [hT : TUnd P t (.map kt et)] (hX : RdV kv w0 sh m es clock ml) (hx : ev ρ x = .map m)
   (h : Reg P w0 n sh Q ops l k (ρ.set d (.int .i64 ml.length)) df Γ) : Reg P w0 n sh Q ops ((b, i, ⟨some d, .call ⟨.builtin .len, #[x], #[t]⟩, ty, pos, aft, none⟩) :: l) k ρ df Γ :=
 reg_quiet rfl (fun hF hsh w Γ' hst => ⟨w, by
   cases m with
   | none =>
     obtain ⟨rfl, rfl, rfl⟩ := hX.none rfl
     simp [execOp, resolve, invoke, builtin, Builtin.len_, hx, run_underlying hT.und, goInt]
   | some r =>
     have hg2 := run_getMap (P := P) ((hX.some r rfl).h hF Γ' w hsh hst)
     have hl := hX.ok.len
     simp [execOp, resolve, invoke, builtin, Builtin.len_, hx, run_underlying hT.und, hg2, goInt, hl], hst⟩) h
omit [DecidableEq κ] in
theorem reg_lenG (j : Nat) [hT : TUnd P t (.map kt et)] (hx : ev ρ x = .map (some r)) (hj : getAt j Γ = some (MapG kv r ml))
   (h : Reg P w0 n sh Q ops l k (ρ.set d (.int .i64 ml.length)) df Γ) (hb : notQuiet b = true := by rfl) : Reg P w0 n sh Q ops ((b, i, ⟨some d, .call ⟨.builtin .len, #[x], #[t]⟩, ty, pos, aft, none⟩) :: l) k ρ df Γ := by
 refine reg_read rfl hb (fun hF _ w hst => ⟨w, ?_, hst⟩) h
 obtain ⟨rr, hp⟩ := getAt_perm hj
 obtain ⟨g, ⟨es, clock, hg, hE, _⟩, hB⟩ := (hst.perm hp).head
 have hm := (hB (pt r (.map es.toArray clock)) hg).get.2
 have hg2 := run_getMap (P := P) hm
 have hl := hE.len
 simp [execOp, resolve, invoke, builtin, Builtin.len_, hx, run_underlying hT.und, hg2, goInt, hl]
def iterV (m : Option Nat) (clock : Nat) (seen : List Nat) : Obj := .mapIter m clock seen.toArray clock
omit [DecidableEq κ] in
theorem reg_rangeV [hT : TUnd P t (.map kt et)] (hX : RdV kv w0 sh m es clock ml) (hx : ev ρ x = .map m)
   (h : ∀ nb, Reg P w0 n sh Q ops l k (ρ.set d (.pointer (some ⟨nb, 0, none⟩))) df (Γ ++ [pt nb (iterV m clock [])])) :
   Reg P w0 n sh Q ops ((Fl.loud, i, ⟨some d, .range t x, ty, pos, aft, none⟩) :: l) k ρ df Γ := by
 cases m with
 | some r => exact reg_rangeG (hX.some r rfl) hx h
 | none =>
   obtain ⟨rfl, rfl, rfl⟩ := hX.none rfl
   refine reg_loud rfl (fun v' df' Γ' => ∃ nb, v' = .pointer (some ⟨nb, 0, none⟩) ∧ df' = df ∧ Γ' = Γ ++ [pt nb (iterV none 0 [])]) (fun hF hsh w hst => ?_)
     (fun v' df' Γ' ⟨nb, h1, h2, h3⟩ => by subst h1; subst h2; subst h3; exact h nb)
   simp only [execOp, hx, Instr.range, Sem.run_bind, run_underlying hT.und, Result.andThen_ok]
   simp only [Sem.run_pure, run_newObj, Result.andThen_ok]
   exact ⟨_, ⟨_, rfl, rfl, rfl⟩, (hst.alloc (iterV none 0 [])).perm (List.perm_append_comm (l₁ := [_]))⟩
omit [DecidableEq κ] in
theorem reg_nextV (j : Nat) {it : Nat} {seen : List Nat} {G : Nat → List Asn} (hX : RdV kv w0 sh m es clock ml) (hx : ev ρ x = .pointer (some ⟨it, 0, none⟩)) (hj : getAt j Γ = some (pt it (iterV m clock seen)))
   (hput : ∀ q, putAt j (pt it (iterV m clock (seen ++ [q]))) Γ = some (G q))
   (h0 : (∀ e ∈ es, e.born ∈ seen) → Reg P w0 n sh Q ops l k (ρ.set d (.tuple #[.bool false])) df Γ)
   (h1 : ∀ e p, e ∈ es → e.born ∉ seen → p ∈ ml → e.key = kv p.1 → e.val = p.2 → Reg P w0 n sh Q ops l k (ρ.set d (.tuple #[.bool true, kv p.1, p.2])) df (G e.born)) :
   Reg P w0 n sh Q ops ((Fl.loud, i, ⟨some d, .next x false, ty, pos, aft, none⟩) :: l) k ρ df Γ := by
 cases m with
 | some r => exact reg_nextG j (hX.some r rfl) hx hj hput h0 h1
 | none =>
   obtain ⟨rfl, rfl, rfl⟩ := hX.none rfl
   refine reg_loud rfl (fun v df' Γ' => v = .tuple #[.bool false] ∧ df' = df ∧ Γ' = Γ) (fun hF hsh w hst => ?_) (fun v df' Γ' ⟨h2, h3, h4⟩ => by subst h2; subst h3; subst h4; exact h0 (fun e he => by cases he))
   obtain ⟨rr, hp⟩ := getAt_perm hj
   have hi := (hst.perm hp).get.2
   have h1 : (getObj it).run P w = .ok (iterV none 0 seen) w := by simp only [getObj, Sem.run, hi, iterV]
   simp only [execOp, hx, Instr.next, Sem.run_bind, h1, Result.andThen_ok, iterV, Sem.run_pure]
   exact ⟨Γ, ⟨rfl, rfl, rfl⟩, hst⟩
omit [DecidableEq κ] in
theorem reg_entryV (j : Nat) {it : Nat} {seen : List Nat} {e : MapEntry} {p : κ × Value} (hX : RdV kv w0 sh m es clock ml) (he : e ∈ es) (k1 : e.key = kv p.1) (k2 : e.val = p.2) (hx : ev ρ x = .pointer (some ⟨it, 0, none⟩)) (hj : getAt j Γ = some (pt it (iterV m clock (seen ++ [e.born]))))
   (h : Reg P w0 n sh Q ops l k (ρ.set d (.tuple #[kv p.1, p.2])) df Γ) :
   Reg P w0 n sh Q ops ((Fl.loud, i, ⟨some d, .entry x, ty, pos, aft, none⟩) :: l) k ρ df Γ := by
 cases m with
 | some r => exact reg_entryG j (hX.some r rfl) he k1 k2 hx hj h
 | none =>
   obtain ⟨rfl, rfl, rfl⟩ := hX.none rfl
   cases he
omit [DecidableEq κ] in
theorem reg_clone {f : FuncId} {fo : Operand} {cargs : Array Operand} {ats : Array TypeId} {dst : Option Tmp} (hext : ∀ args w, (callFunc f args).run P w = ((Extern.MapsClone.clone args).run P w).andThen fun v w' => .ok (.value v) w')
   (hfo : ev ρ fo = .func (.func f) #[] #[]) (hargs : cargs.toList.map (ev ρ) = [.iface t (.map (some r))]) (hX : RdG kv w0 sh r es clock ml)
   (h : ∀ nb, Reg P w0 n sh Q ops l k (ρ.setO dst (.iface t (.map (some nb)))) df (MapG kv nb ml :: Γ)) :
   Reg P w0 n sh Q ops ((Fl.loud, i, ⟨dst, .call ⟨.value fo, cargs, ats⟩, ty, pos, aft, none⟩) :: l) k ρ df Γ := by
 refine reg_loud rfl (fun v' df' Γ' => ∃ nb, v' = .iface t (.map (some nb)) ∧ df' = df ∧ Γ' = MapG kv nb ml :: Γ) (fun hF hsh w hst => ?_)
   (fun v' df' Γ' ⟨nb, h1, h2, h3⟩ => by subst h1; subst h2; subst h3; exact h nb)
 have hm := hX.h hF Γ w hsh hst
 have e1 : (#[] : Array Value) ++ cargs.map (ev ρ) ++ #[] = #[.iface t (.map (some r))] := by
   apply Array.ext'; simpa using hargs
 have hc : (Extern.MapsClone.clone #[.iface t (.map (some r))]).run P w = .ok (.iface t (.map (some w.heap.size))) { w with heap := w.heap.push (.map es.toArray clock) } := by
   have e : Extern.MapsClone.clone #[.iface t (.map (some r))] = (getObj r >>= fun o => match o with
       | .map entries clock => (newObj (.map entries clock) >>= fun n => pure (.iface t (.map (some n))))
       | _ => stuck "maps.clone: a map expected") := rfl
   rw [e]
   have hg : (getObj r).run P w = .ok (.map es.toArray clock) w := by simp only [getObj, Sem.run, hm]
   simp only [Sem.run_bind, hg, Result.andThen_ok, run_newObj, Sem.run_pure]
 simp only [execOp, resolve, Deferred.ofValue, hfo, Sem.run_bind, Sem.run_pure, Result.andThen_ok, invoke, e1, hext, hc]
 exact ⟨_, ⟨w.heap.size, rfl, rfl, rfl⟩, (hst.alloc (.map es.toArray clock)).exch fun g hg => ⟨es, clock, hg, hX.ok, hX.born⟩⟩
theorem reg_assertM {t2 : TypeId} {v : Value} [hT : TUnd P t (.map kt et)] (hx : ev ρ x = .iface t v) (h : Reg P w0 n sh Q ops l k (ρ.set d v) df Γ) :
   Reg P w0 n sh Q ops ((b, i, ⟨some d, .typeAssert x t2 t false, ty, pos, aft, none⟩) :: l) k ρ df Γ :=
 reg_quiet rfl (fun hF _ => quiet_of_run fun w => by
   simp only [execOp, hx, Instr.typeAssert, Sem.run_bind, run_underlying hT.und, Result.andThen_ok, if_true, Bool.false_eq_true, if_false, Sem.run_pure]) h
theorem reg_eq_mapN {yt : TypeId} [hT : TUnd P t (.map kt et)] (hx : ev ρ x = .map none) (hy : ev ρ y = .map none) (h : Reg P w0 n sh Q ops l k (ρ.set d (.bool true)) df Γ) :
   Reg P w0 n sh Q ops ((b, i, ⟨some d, .binOp .eql t x y yt, ty, pos, aft, none⟩) :: l) k ρ df Γ :=
 reg_eq_gen hx hy (by rfl) (by rfl) (fun d w => by simp only [Op.equalIn, Sem.run_bind, run_underlying hT.und, Result.andThen_ok, Sem.run_pure, Option.isNone_none]) h
theorem reg_eq_mapS {yt : TypeId} [hT : TUnd P t (.map kt et)] (hx : ev ρ x = .map (some r)) (hy : ev ρ y = .map none) (h : Reg P w0 n sh Q ops l k (ρ.set d (.bool false)) df Γ) :
   Reg P w0 n sh Q ops ((b, i, ⟨some d, .binOp .eql t x y yt, ty, pos, aft, none⟩) :: l) k ρ df Γ :=
 reg_eq_gen hx hy (by rfl) (by rfl) (fun d w => by simp only [Op.equalIn, Sem.run_bind, run_underlying hT.und, Result.andThen_ok, Sem.run_pure]) h
end
section
variable {P : Program} {w0 : World} {sh : Shared} {Γ : List Asn}
theorem Fn.lendA {f : FuncId} {args : List Value} {A : Asn} {ψ : Shared → Prop} {R : Value → List Asn → Prop} (hen : Enters P f) (hA : ∀ g, A g → RdO sh ψ g) (h : ∀ sh', (∀ p ∈ sh, p ∈ sh') → ψ sh' → Fn P w0 sh' f args Γ R) :
   Fn P w0 sh f args (A :: Γ) fun r Γ' => ∃ Γ'', R r Γ'' ∧ Γ' = Γ'' ++ [A] := by
 refine ⟨hen, fun hF w hsh hst => ?_⟩
 have h1 : St w0 hF (Γ ++ [A]) w := hst.perm (List.perm_append_comm (l₁ := [_]))
 obtain ⟨g, hg, hdj, hst2⟩ := h1.split
 obtain ⟨bl, hb0, hψ⟩ := hA g (Stars.one.1 hg)
 have hb : Back sh (sh ++ bl) g := Back.more hb0
 refine ((h (sh ++ bl) (fun _ hp => List.mem_append_left _ hp) hψ).calls _ w (hb.sh hdj hsh) hst2).mono ?_
 rintro e w' ⟨r, Γ', he, h4, h5⟩
 exact ⟨r, _, he, ⟨Γ', h4, rfl⟩, h5.join hg hdj⟩
end
end Go.Vc
namespace Go.Vc
theorem same_str (n : Nat) (s : ByteArray) : Instr.sameBits n (.string s) (.string s) = true := by
 have h : (s == s) = true := by rw [str_beq]; exact decide_eq_true rfl
 cases n <;> exact h
theorem keyK_str {P : Program} {kt : TypeId} (hu : P.underlying kt = some .string) : KeyK P kt (fun x : ByteArray => Value.string x) :=
 keyK_now hu (fun em _ _ => run_checkKeyS hu em 9999)
   (fun x a => by
     simp only [Instr.sameNow]
     rw [str_beq]
     congr 1
     by_cases h : a = x
     · subst h; simp
     · rw [decide_eq_false h, decide_eq_false (fun e => h e.symm)])
   (fun a w => stay_same (same_str 10000 a) w)
section
variable {κ : Type} {kv : κ → Value} [DecidableEq κ]
def Met (kv : κ → Value) (es : List MapEntry) (seen : List Nat) (acc : List κ) : Prop := acc.Nodup ∧ (∀ x, x ∈ acc ↔ ∃ e ∈ es, e.born ∈ seen ∧ e.key = kv x) ∧ acc.length + leftS es seen ≤ es.length
omit [DecidableEq κ] in
theorem Met.nil {es : List MapEntry} : Met kv es [] [] := ⟨List.nodup_nil, fun x => ⟨fun h => (by cases h), fun ⟨_, _, h, _⟩ => (by cases h)⟩, by
 unfold leftS
 simp only [List.length_nil, Nat.zero_add]
 exact List.length_filter_le _ _⟩
omit [DecidableEq κ] in
theorem EsG.uniq : ∀ {es : List MapEntry} {ml : GM κ} (_ : EsG kv es ml) (_ : (ml.map (·.1)).Nodup) (_ : ∀ a b : κ, kv a = kv b → a = b) {e e' : MapEntry}, e ∈ es → e' ∈ es → e.key = e'.key → e = e'
 | es, [], hE, _, _, e, _, he, _, _ => by rw [hE.nil] at he; cases he
 | es, p :: ml, hE, hn, hi, e, e', he, he', hk => by
   obtain ⟨e0, es', rfl, h1, h2, h3⟩ := hE.cons
   rw [List.map_cons] at hn
   obtain ⟨n1, n2⟩ := List.nodup_cons.1 hn
   have other : ∀ x ∈ es', x.key ≠ kv p.1 := fun x hx q => by
     obtain ⟨q', hq', k1, _⟩ := h3.mem hx
     rw [k1] at q
     exact n1 (hi _ _ q ▸ List.mem_map_of_mem hq')
   rcases List.mem_cons.1 he with q | g <;> rcases List.mem_cons.1 he' with q' | g'
   · rw [q, q']
   · subst q; exact absurd (hk.symm.trans h1) (other _ g')
   · subst q'; exact absurd (hk.trans h1) (other _ g)
   · exact EsG.uniq h3 n2 hi g g' hk
omit [DecidableEq κ] in
theorem Met.step {es : List MapEntry} {ml : GM κ} {clock : Nat} {seen : List Nat} {acc : List κ} (h : Met kv es seen acc) (hE : EsG kv es ml) (hB : BornOk es clock) (hn : (ml.map (·.1)).Nodup) (hi : ∀ a b : κ, kv a = kv b → a = b) {e : MapEntry} {x : κ}
   (he : e ∈ es) (hs : e.born ∉ seen) (hk : e.key = kv x) : Met kv es (seen ++ [e.born]) (acc ++ [x]) := by
 have hx : x ∉ acc := fun hx => by
   obtain ⟨e', h1, h2, h3⟩ := (h.2.1 x).1 hx
   have := hE.uniq hn hi h1 he (h3.trans hk.symm)
   subst this
   exact hs h2
 refine ⟨List.nodup_append.2 ⟨h.1, List.nodup_cons.2 ⟨by simp, List.nodup_nil⟩, fun a ha b hb q => by rw [List.mem_singleton.1 hb] at q; subst q; exact hx ha⟩, fun y => ?_, ?_⟩
 · constructor
   · intro hy
     rcases List.mem_append.1 hy with hy | hy
     · obtain ⟨e', h1, h2, h3⟩ := (h.2.1 y).1 hy
       exact ⟨e', h1, List.mem_append_left _ h2, h3⟩
     · rw [List.mem_singleton.1 hy]
       exact ⟨e, he, List.mem_append_right _ (.head _), hk⟩
   · rintro ⟨e', h1, h2, h3⟩
     rcases List.mem_append.1 h2 with h2 | h2
     · exact List.mem_append_left _ ((h.2.1 y).2 ⟨e', h1, h2, h3⟩)
     · have h2 := List.mem_singleton.1 h2
       have f1 := find_born hB.1 h1
       have f2 := find_born hB.1 he
       rw [h2, f2] at f1
       cases f1
       rw [hi _ _ (h3.symm.trans hk)]
       exact List.mem_append_right _ (.head _)
 · have := leftS_next he hs
   have := h.2.2
   rw [List.length_append, List.length_singleton]
   omega
omit [DecidableEq κ] in
theorem Met.done {es : List MapEntry} {ml : GM κ} {seen : List Nat} {acc : List κ} (h : Met kv es seen acc) (hE : EsG kv es ml) (hi : ∀ a b : κ, kv a = kv b → a = b) (ha : ∀ e ∈ es, e.born ∈ seen) : acc.Nodup ∧ (∀ x, x ∈ acc ↔ x ∈ ml.map (·.1)) ∧ acc.length ≤ ml.length := by
 refine ⟨h.1, fun x => (h.2.1 x).trans ⟨?_, ?_⟩, by have := hE.len; have := h.2.2; omega⟩
 · rintro ⟨e, h1, _, h3⟩
   obtain ⟨p, hp, k1, _⟩ := hE.mem h1
   rw [hi _ _ (h3.symm.trans k1)]
   exact List.mem_map_of_mem hp
 · intro hx
   obtain ⟨p, hp, rfl⟩ := List.mem_map.1 hx
   have h1 : (kv p.1, p.2) ∈ es.map (fun e => (e.key, e.val)) := by rw [hE]; exact List.mem_map_of_mem (f := fun p : κ × Value => (kv p.1, p.2)) hp
   obtain ⟨e, he, hq⟩ := List.mem_map.1 h1
   exact ⟨e, he, ha e he, congrArg Prod.fst hq⟩
omit [DecidableEq κ] in
theorem Met.all {es : List MapEntry} {seen : List Nat} {acc : List κ} (h : Met kv es seen acc) {e : MapEntry} (he : e ∈ es) (hs : e.born ∈ seen) {x : κ} (hk : e.key = kv x) : x ∈ acc := (h.2.1 x).2 ⟨e, he, hs, hk⟩
end
end Go.Vc
namespace Go.Vc
section
variable {P : Program} {w0 : World} {n : Nat} {sh : Shared} {Q : Exit → Env → List Deferred → List Asn → Prop} {k : List Item} {ρ : Env} {df : List Deferred} {Γ : List Asn} {hF : Heap}
variable {ops : Array Oper} {l : List (Fl × Nat × Oper)} {i : Nat} {ty : TypeId} {pos : String} {aft : Array Edge}
variable {x y : Operand} {t e : TypeId} {agg : Bool} {sz : Nat} {cs : List Value} {a : Option Addr} {len : Nat}
theorem RdCl.sl {α : Type} {encE : α → List Value} {l : List α} {cap : Nat} (hq : ∀ x ∈ l, (encE x).length = sz) (h : RdCl w0 sh sz a l.length (l.flatMap encE)) (hc : l.length ≤ cap) : RdSl w0 sh encE sz (.slice a l.length cap) l := by
 rcases h with ⟨rfl, h1, h2⟩ | ⟨bb, off, c, T, fr, rfl, h1, h2, h3⟩
 · exact ⟨none, cap, rfl, hc, .inl (List.length_eq_zero_iff.1 h1)⟩
 · refine ⟨_, cap, rfl, hc, .inr ⟨bb, off, _, T, fr, rfl, h1, fun i x hx => ⟨hq x (List.mem_of_getElem? hx), fun k u hu => ?_⟩⟩⟩
   have h4 := flat_at l hq i x hx k u hu
   rw [← h2, List.getElem?_take, List.getElem?_drop] at h4
   split at h4
   · simpa using h4
   · cases h4
theorem RdCl.take (h : RdCl w0 sh sz a len cs) {q : Nat} (hq : q ≤ len) : RdCl w0 sh sz a q (cs.take (q * sz)) := by
 rcases h with ⟨rfl, h1, h2⟩ | ⟨bb, off, c, T, fr, rfl, h1, h2, h3⟩
 · exact .inl ⟨rfl, by omega, by rw [h2, List.take_nil]⟩
 · have hm := Nat.mul_le_mul_right sz hq
   refine .inr ⟨bb, off, c, T, fr, rfl, h1, ?_, by omega⟩
   rw [← h2, List.take_take, Nat.min_eq_left hm]
theorem RdCl.nil : RdCl w0 sh sz none 0 [] := .inl ⟨rfl, rfl, rfl⟩
theorem reg_copy (j : Nat) {dst : Option Tmp} {nb cap cap2 : Nat} {T : TypeId} {old : List Value} {Γ' : List Asn} {t2 : TypeId} [hT : TUnd P t (.slice e)] [hS : TShape P e agg sz]
   (hx : ev ρ x = .slice (some ⟨nb, 0, none⟩) len cap) (hy : ev ρ y = .slice a len cap2) (hR : RdCl w0 sh sz a len cs) (hj : getAt j Γ = some (pt nb (.cells (List.toArray old) T (0, 0)))) (ho : old.length = len * sz) (hone : allOne cs = true)
   (hput : putAt j (pt nb (.cells (List.toArray cs) T (0, 0))) Γ = some Γ') (h : Reg P w0 n sh Q ops l k (ρ.setO dst (.int .i64 len)) df Γ') :
   Reg P w0 n sh Q ops ((Fl.loud, i, ⟨dst, .call ⟨.builtin .copy, #[x, y], #[t, t2]⟩, ty, pos, aft, none⟩) :: l) k ρ df Γ := by
 refine reg_loud rfl (fun v' df' Γ'' => v' = .int .i64 len ∧ df' = df ∧ Γ'' = Γ') (fun hF hsh w hst => ?_) (fun v' df' Γ'' ⟨h1, h2, h3⟩ => by subst h1; subst h2; subst h3; exact h)
 have hlen := hR.len
 obtain ⟨r, hst1, hback⟩ := hst.at hj
 have hold : ∃ q : Array Value, (Builtin.firstCells sz len (.slice a len cap2)).run P w = .ok q w ∧ q.toList = cs := by
   rcases hR with ⟨rfl, rfl, rfl⟩ | ⟨bb, off, c, T, fr', rfl, h1, h2, h3⟩
   · exact ⟨#[], by simp [Builtin.firstCells], rfl⟩
   · have hg := h1 hF Γ w hsh hst
     refine ⟨_, run_firstCells hg (by simpa using h3), ?_⟩
     rw [← h2]
     simp [List.take_drop]
 obtain ⟨q, h1, h2⟩ := hold
 obtain ⟨w', c', g1, g2, g3, g4, g5, g6, g7, g8⟩ := run_storeCells (P := P) (off := 0) cs 0 (List.toArray old) w hst1.get.2 hone (by simp; omega)
 have hc' : c' = List.toArray cs := by
   apply Array.ext'
   rw [g3]
   simp
   omega
 subst hc'
 obtain ⟨Γ'', e1, e2⟩ := hback (pt nb (.cells (List.toArray cs) T (0, 0))) w' (hst1.upd g6 g7 g8 g4 g2 g5)
 rw [hput] at e1
 cases e1
 simp only [execOp, resolve, invoke, builtin, Builtin.copy_, Builtin.lenOf]
 simp only [List.map_toArray, List.map_cons, List.map_nil, hx, hy, Sem.run_bind, Sem.run_pure, Result.andThen_ok, List.getElem?_toArray, List.getElem?_cons_zero, List.getElem?_cons_succ, run_underlying hT.und, hS.size_run, Nat.min_self, h1, h2, g1]
 exact ⟨Γ', ⟨rfl, rfl, rfl⟩, e2⟩
end
end Go.Vc
namespace Go.Vc
section
variable {κ : Type} {kv : κ → Value} [DecidableEq κ]
variable {P : Program} {w0 : World} {n : Nat} {sh : Shared} {Q : Exit → Env → List Deferred → List Asn → Prop} {k : List Item} {ρ : Env} {df : List Deferred} {Γ : List Asn} {hF : Heap}
variable {ops : Array Oper} {l : List (Fl × Nat × Oper)} {b : Fl} {i d : Nat} {ty : TypeId} {pos : String} {aft : Array Edge}
variable {x y : Operand} {t kt et : TypeId} {a : κ}
theorem reg_deleteN {dst : Option Tmp} {t2 : TypeId} [hT : TUnd P t (.map kt et)] [hK : KeyK P kt kv] (hx : ev ρ x = .map none) (hy : ev ρ y = kv a)
   (h : Reg P w0 n sh Q ops l k (ρ.setO dst (.tuple #[])) df Γ) : Reg P w0 n sh Q ops ((Fl.loud, i, ⟨dst, .call ⟨.builtin .delete, #[x, y], #[t, t2]⟩, ty, pos, aft, none⟩) :: l) k ρ df Γ := by
 refine reg_loud rfl (fun v' df' Γ'' => v' = .tuple #[] ∧ df' = df ∧ Γ'' = Γ) (fun hF _ w hst => ?_) (fun v' df' Γ' ⟨h1, h2, h3⟩ => by subst h1; subst h2; subst h3; exact h)
 have hck : (Instr.checkKey true 10000 kt (kv a)).run P w = .ok () w := hK.check true w a
 have hd : (Builtin.delete_ #[t, t2] ty #[.map none, kv a]).run P w = .ok (.tuple #[]) w := by
   simp only [Builtin.delete_, List.getElem?_toArray, List.getElem?_cons_zero, List.getElem?_cons_succ, Sem.run_bind, run_underlying hT.und, Result.andThen_ok, hck, Sem.run_pure]
 have : (execOp (ev ρ) ⟨dst, .call ⟨.builtin .delete, #[x, y], #[t, t2]⟩, ty, pos, aft, none⟩).run P w = .ok (.value (.tuple #[])) w := by
   simp [execOp, resolve, invoke, builtin, hx, hy, hd]
 rw [this]
 exact ⟨Γ, ⟨rfl, rfl, rfl⟩, hst⟩
theorem reg_makeSliceN {e : TypeId} {agg : Bool} {sz bytes m : Nat} {lo ca : Operand} {cs : List Value} {zv : Value} [hT : TUnd P t (.slice e)] [hS : TShape P e agg sz] [hZ : TZeroV P e zv] [hI : TInfo P e bytes]
   (hl : ev ρ lo = .int .i64 (m : Int)) (hc : ev ρ ca = .int .i64 (m : Int)) (hm : 0 < m ∧ m ≤ 100) (hsz : sz ≠ 0) (hbytes : bytes ≤ 1000) (hcs : (Array.range (m * sz)).map (fun x => zv.cells[x % zv.cells.size]!) = List.toArray cs)
   (h : ∀ nb, Reg P w0 n sh Q ops l k (ρ.set d (.slice (some ⟨nb, 0, none⟩) m m)) df (Γ ++ [pt nb (.cells (List.toArray cs) e (0, 0))])) :
   Reg P w0 n sh Q ops ((Fl.loud, i, ⟨some d, .makeSlice t lo ca, ty, pos, aft, none⟩) :: l) k ρ df Γ :=
 reg_new (val := fun nb => .slice (some ⟨nb, 0, none⟩) m m) rfl (fun w => by
   obtain ⟨ti, hti, hbt⟩ := hI.info_run w
   have hw : IntKind.i64.wrap (m : Int) = m := wrap64_id (by omega) (by omega)
   have hbm : (bytes : Int) * m ≤ 1000 * 100 := Int.mul_le_mul (by omega) (by omega) (by omega) (by omega)
   have h3 : ¬ ((m : Int) < 0) := by omega
   have h5 : decide ((2 : Int) ^ 48 < (bytes : Int) * m) = false := decide_eq_false (by omega)
   have h6 : ¬ (m * sz = 0) := by
     intro h
     rcases Nat.mul_eq_zero.1 h with h | h <;> omega
   simp only [execOp, Instr.makeSlice, hl, hc, Sem.run_bind, run_underlying hT.und, Result.andThen_ok, asInt, asIntOf, Sem.run_pure, hti, hbt, hw, h3, h5, Int.lt_irrefl, gt_iff_lt, decide_false, Bool.or_false, Bool.or_self, Bool.false_eq_true, if_false, run_askRoom, hS.size_run, Int.toNat_natCast, h6]
   simp only [Sem.run_bind, hZ.zero_run, Result.andThen_ok, Sem.run_pure, newRow, run_newObj, hcs]) h
end
end Go.Vc
namespace Go.Vc
section
variable {P : Program} {w0 : World} {sh : Shared} {Γ : List Asn}
theorem Fn.opened {f : FuncId} {args : List Value} {ι : Type} {A : Asn} (B : ι → List Asn) (φ : ι → Prop) {R : Value → List Asn → Prop} (hen : Enters P f) (hA : ∀ h, A h → ∃ i, φ i ∧ Stars (B i) h) (h : ∀ i, φ i → Fn P w0 sh f args (B i) R) : Fn P w0 sh f args [A] R :=
 ⟨hen, fun hF w hsh ⟨g, hs, hd, ha⟩ => by
   obtain ⟨i, hi, hs2⟩ := hA g (Stars.one.1 hs)
   exact (h i hi).calls hF w hsh ⟨g, hs2, hd, ha⟩⟩
end
end Go.Vc
namespace Go.Vc
section
variable {P : Program} {w0 : World} {n : Nat} {sh : Shared} {Q : Exit → Env → List Deferred → List Asn → Prop} {k : List Item} {ρ : Env} {df : List Deferred} {Γ : List Asn} {hF : Heap}
variable {ops : Array Oper} {l : List (Fl × Nat × Oper)} {b : Fl} {i d : Nat} {ty : TypeId} {pos : String} {aft : Array Edge}
variable {x : Operand} {t : TypeId}
theorem reg_indexByte {f : FuncId} {fo : Operand} {cargs : Array Operand} {ats : Array TypeId} {dst : Option Tmp} {s : ByteArray} {c : Int} (hext : ∀ args w, (callFunc f args).run P w = ((Extern.BytealgIndexByte.indexByte args).run P w).andThen fun v w' => .ok (.value v) w')
   (hfo : ev ρ fo = .func (.func f) #[] #[]) (hargs : cargs.toList.map (ev ρ) = [.string s, .int .u8 c])
   (h : Reg P w0 n sh Q ops l k (ρ.setO dst (.int .i64 (Lib.indexByte s.data.toList c.toNat.toUInt8))) df Γ) :
   Reg P w0 n sh Q ops ((Fl.loud, i, ⟨dst, .call ⟨.value fo, cargs, ats⟩, ty, pos, aft, none⟩) :: l) k ρ df Γ := by
 refine reg_loud rfl (fun v' df' Γ' => v' = .int .i64 (Lib.indexByte s.data.toList c.toNat.toUInt8) ∧ df' = df ∧ Γ' = Γ) (fun hF hsh w hst => ?_)
   (fun v' df' Γ' ⟨h1, h2, h3⟩ => by subst h1; subst h2; subst h3; exact h)
 have e1 : (#[] : Array Value) ++ cargs.map (ev ρ) ++ #[] = #[.string s, .int .u8 c] := by
   apply Array.ext'; simpa using hargs
 simp only [execOp, resolve, Deferred.ofValue, hfo, Sem.run_bind, Sem.run_pure, Result.andThen_ok, invoke, e1, hext, Lib.run_indexByteString]
 exact ⟨_, ⟨rfl, rfl, rfl⟩, hst⟩
theorem reg_sufS {lo : Operand} {s : ByteArray} {z : Int} [hT : TUnd P t .string] (hx : ev ρ x = .string s) (hl : ev ρ lo = .int .i64 z) (hb : 0 ≤ z ∧ z ≤ s.size)
   (h : Reg P w0 n sh Q ops l k (ρ.set d (.string (s.extract z.toNat s.size))) df Γ) : Reg P w0 n sh Q ops ((b, i, ⟨some d, .slice t x (some lo) none none, ty, pos, aft, none⟩) :: l) k ρ df Γ :=
 reg_quiet rfl (fun hF _ => quiet_of_run fun w => by
   obtain ⟨h0, h2⟩ := hb
   simp only [execOp, hx, Option.map_some, Option.map_none, hl, Instr.sliceAt, Instr.slice, Sem.run_bind, run_underlying hT.und, Result.andThen_ok, Instr.sliceBounds, Instr.sliceBound, asIntOf, Sem.run_pure, Option.isSome_none, Bool.false_eq_true, if_false]
   simp only [h0, h2, and_self, if_true, Sem.run_pure, Result.andThen_ok]) h
end
end Go.Vc
