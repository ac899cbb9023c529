import Derived.Laws.Bits64
import Derived.Laws.Bits64b
import Derived.Test.YtloekplbhknepaaGreatKitA
/- Lemmas and walks for the claims of this seat (own work): Vc24 Vc25 Vc26 Vc27 Vc28 Vc29 Vc30 Vc31 Vc32 Vc33 Vc34 Vc35. -/
namespace Go.Vc
section
variable {P : Program} {w0 : World} {n : Nat} {sh : Shared} {Q : Exit → Env → List Deferred → List Asn → Prop} {k : List Item} {ρ : Env} {df : List Deferred} {Γ : List Asn} {hF : Heap}
variable {α : Type} {encE : α → List Value} {m : Nat} {v : Value} {l : List α}
def RdSl (w0 : World) (sh : Shared) (encE : α → List Value) (m : Nat) (v : Value) (l : List α) : Prop :=
  ∃ a cap, v = .slice a l.length cap ∧ l.length ≤ cap ∧ (l = [] ∨ ∃ b off c T fr, a = some ⟨b, off, none⟩ ∧ (∀ hF Γ w, Sh sh hF → St w0 hF Γ w → w.heap[b]? = some (.cells c T fr)) ∧
    ∀ (i : Nat) (x : α), l[i]? = some x → (encE x).length = m ∧ ∀ k u, (encE x)[k]? = some u → c[off + (i * m + k)]? = some u)
theorem InSl.rd (h : InSl w0 encE m v l) : RdSl w0 sh encE m v l := by
  obtain ⟨a, cap, h1, h2, h3⟩ := h
  refine ⟨a, cap, h1, h2.1, h3.imp id fun ⟨b, off, c, T, fr, e, hh, hc⟩ => ⟨b, off, c, T, fr, e, fun hF Γ w _ hst => ?_, hc⟩⟩
  rw [hst.base (Array.getElem?_eq_some_iff.1 hh).1]; exact hh
theorem RdSl.mono {sh' : Shared} (h : RdSl w0 sh encE m v l) (hs : ∀ p ∈ sh, p ∈ sh') : RdSl w0 sh' encE m v l := by
  obtain ⟨a, cap, h1, h0, h3⟩ := h
  exact ⟨a, cap, h1, h0, h3.imp id fun ⟨b, off, c, T, fr, e, hh, hc⟩ => ⟨b, off, c, T, fr, e, fun hF Γ w hsh hst => hh hF Γ w (fun p hp => hsh p (hs p hp)) hst, hc⟩⟩
theorem RdSl.nil {a : Option Addr} {cap : Nat} : RdSl w0 sh encE m (.slice a 0 cap) ([] : List α) := ⟨a, cap, rfl, Nat.zero_le _, .inl rfl⟩
abbrev encI : Int → List Value := fun x => [.int .i64 x]
def intsV (l : List Int) : List Value := l.map (Value.int .i64)
theorem intsV_one : ∀ (l : List Int), allOne (intsV l) = true
  | [] => rfl
  | _ :: l => intsV_one l
theorem RdSl.ints {b cap : Nat} {l : List Int} {spare : List Value} {T : TypeId} {fr : Nat × Nat} (hm : (b, Obj.cells (List.toArray (intsV l ++ spare)) T fr) ∈ sh) (hcap : l.length ≤ cap) : RdSl w0 sh encI 1 (.slice (some ⟨b, 0, none⟩) l.length cap) l := by
  refine ⟨_, _, rfl, hcap, .inr ⟨b, 0, _, T, fr, rfl, fun hF Γ w hsh hst => (hst.frame (hsh _ hm)).2, fun i x hx => ⟨rfl, fun k u hu => ?_⟩⟩⟩
  have hk : k = 0 := by have := (List.getElem?_eq_some_iff.1 hu).1; simp at this; omega
  subst hk
  simp at hu; subst hu
  have hil := (List.getElem?_eq_some_iff.1 hx).1
  simp only [Nat.mul_one, Nat.add_zero, Nat.zero_add, List.getElem?_toArray]
  rw [List.getElem?_append_left (by simp [intsV]; exact hil), intsV, List.getElem?_map, hx]; rfl
theorem rd_one {c : Array Value} {o : Nat} {u : Value} (h : c[o]? = some u) (o' : Nat) (ho : o' = o) : rd false 1 c.toList o' = some u := by
  subst ho
  show nth c.toList _ = _
  rw [nth_eq]; simpa using h
theorem RdSl.at {l : List Int} {a : Option Addr} {cap len : Nat} (h : RdSl w0 sh encI 1 (.slice a len cap) l) {i : Nat} {x : Int} (hx : l[i]? = some x) :
    ∃ b off c T fr, a = some ⟨b, off, none⟩ ∧ (∀ hF Γ w, Sh sh hF → St w0 hF Γ w → w.heap[b]? = some (.cells c T fr)) ∧ ∀ o, o = off + i * 1 → rd false 1 c.toList o = some (.int .i64 x) := by
  obtain ⟨a', cap', h1, _, h2⟩ := h
  cases h1
  have hne : l ≠ [] := by intro e; subst e; simp at hx
  obtain ⟨b, off, c, T, fr, e, hh, hc⟩ := h2.resolve_left hne
  exact ⟨b, off, c, T, fr, e, hh, fun o ho => rd_one ((hc i x hx).2 0 _ rfl) o (by omega)⟩
theorem RdSl.len {a : Option Addr} {cap len : Nat} (h : RdSl w0 sh encE m (.slice a len cap) l) : len = l.length := by
  obtain ⟨a', cap', h1, _, h2⟩ := h; cases h1; rfl
theorem RdSl.cap {a : Option Addr} {cap len : Nat} (h : RdSl w0 sh encE m (.slice a len cap) l) : len ≤ cap := by
  obtain ⟨a', cap', h1, h0, h2⟩ := h; cases h1; exact h0
theorem RdSl.take {l : List Int} {b off cap len : Nat} (h : RdSl w0 sh encI 1 (.slice (some ⟨b, off, none⟩) len cap) l) (hne : l ≠ []) :
    ∃ c T fr, (∀ hF Γ w, Sh sh hF → St w0 hF Γ w → w.heap[b]? = some (.cells (List.toArray c) T fr)) ∧ (c.drop off).take l.length = intsV l ∧ off + l.length ≤ c.length := by
  obtain ⟨a', cap', h1, _, h2⟩ := h
  obtain ⟨b', off', c, T, fr, e, hh, hc⟩ := h2.resolve_left hne
  cases h1
  cases e
  have key : ∀ i x, l[i]? = some x → c.toList[off + i]? = some (.int .i64 x) := fun i x hx => by
    have := (hc i x hx).2 0 _ rfl
    simpa using this
  have hle : off + l.length ≤ c.toList.length := by
    cases hl : l.length with
    | zero => exact absurd (List.length_eq_zero_iff.1 hl) hne
    | succ q =>
      have hx : l[q]? = some l[q] := List.getElem?_eq_getElem (by omega)
      have := (List.getElem?_eq_some_iff.1 (key q _ hx)).1
      omega
  refine ⟨c.toList, T, fr, fun hF Γ w h1 h2 => by simpa using hh hF Γ w h1 h2, ?_, hle⟩
  apply List.ext_getElem?
  intro i
  by_cases hi : i < l.length
  · have hx : l[i]? = some l[i] := List.getElem?_eq_getElem hi
    rw [List.getElem?_take, if_pos hi, List.getElem?_drop, key i _ hx, intsV, List.getElem?_map, hx]; rfl
  · rw [List.getElem?_eq_none (by simp; omega), List.getElem?_eq_none (by simp [intsV]; omega)]

variable {ops : Array Oper} {rest : List (Fl × Nat × Oper)} {b : Fl} {i d : Nat} {ty : TypeId} {pos : String} {aft : Array Edge} {x y : Operand}
theorem zad {t T : TypeId} {agg : Bool} {q bb off : Nat} {c : Array Value} {fr : Nat × Nat} {u : Value} [hT : TShape P t agg q] (hx : ev ρ x = .pointer (some ⟨bb, off, none⟩))
    (hm : ∀ hF Γ w, Sh sh hF → St w0 hF Γ w → w.heap[bb]? = some (.cells c T fr)) (hr : rd agg q c.toList off = some u)
    (h : Reg P w0 n sh Q ops rest k (ρ.set d u) df Γ) : Reg P w0 n sh Q ops ((b, i, ⟨some d, .load t x, ty, pos, aft, none⟩) :: rest) k ρ df Γ :=
  reg_quiet rfl (fun hF hsh w Γ hst => ⟨w, load_of hT hx (hm hF Γ w hsh hst) hr, hst⟩) h

theorem opW_append0 {dst : Option Tmp} {a a2 : Option Addr} {len cap cap2 sz : Nat} {agg : Bool} {t e t2 e2 : TypeId} {j : Nat} {cs : List Value}
    [hT : TUnd P t (.slice e)] [hS : TShape P e agg sz] [hT2 : TUnd P t2 (.slice e2)]
    (hx : ev ρ x = .slice a len cap) (hy : ev ρ y = .slice a2 0 cap2) (hj : getAt j Γ = some (SlA e sz a len cap cs)) (hbig : len ≤ 9223372036854775807) :
    OpW P w0 hF ⟨dst, .call ⟨.builtin .append, #[x, y], #[t, t2]⟩, ty, pos, aft, none⟩ ρ df Γ fun v df' Γ' => ∃ a' cap', v = .slice a' (len + 0) cap' ∧ df' = df ∧ putAt j (SlA e sz a' (len + 0) cap' (cs ++ [])) Γ = some Γ' := by
  intro w hst
  obtain ⟨r, hst1, hback⟩ := hst.at hj
  obtain ⟨g, hA, hB⟩ := hst1.head
  have hlc := (SlA_len hA).2
  have hfirst : ∀ w, (Builtin.firstCells sz 0 (.slice a2 0 cap2)).run P w = .ok #[] w := fun w => by
    cases a2 <;> simp [Builtin.firstCells, loadCells, loadCellsFrom]
  have hmax : ¬ ((len + 0 : Nat) : Int) > IntKind.i64.max := by rw [IntKind.max_i64]; omega
  simp only [execOp, resolve, invoke, builtin, Builtin.append_, Builtin.lenOf]
  simp only [List.map_toArray, List.map_cons, List.map_nil, hx, hy, Sem.run_bind, Sem.run_pure, Result.andThen_ok]
  simp only [List.getElem?_toArray, List.getElem?_cons_zero, List.getElem?_cons_succ, Sem.run_bind, Sem.run_pure, Result.andThen_ok, run_underlying hT.und, run_underlying hT2.und, hS.size_run, Bool.false_eq_true, if_false, Bool.not_false, if_true]
  have hfit : len + 0 ≤ cap := by omega
  simp only [hfit, if_true, Sem.run_bind, hfirst w, Result.andThen_ok]
  have hst2 := hback (SlA e sz a (len + 0) cap (cs ++ [])) w (hB _ (by rw [List.append_nil]; exact hA))
  obtain ⟨Γ', h5, h6⟩ := hst2
  cases a with
  | none =>
    simp only [Sem.run_pure, Result.andThen_ok]
    exact ⟨Γ', ⟨none, cap, rfl, rfl, h5⟩, h6⟩
  | some ad =>
    simp only [storeCells, Sem.run_bind, Sem.run_pure, Result.andThen_ok]
    exact ⟨Γ', ⟨some ad, cap, rfl, rfl, by simpa using h5⟩, h6⟩
theorem reg_slice2 {t e : TypeId} {agg : Bool} {sz : Nat} {a : Option Addr} {len cap : Nat} {hi : Operand} {h' : Int} [hT : TUnd P t (.slice e)] [hS : TShape P e agg sz] (hx : ev ρ x = .slice a len cap) (hh : ev ρ hi = .int .i64 h') (hb : 0 ≤ h' ∧ h' ≤ cap)
    (h : Reg P w0 n sh Q ops rest k (ρ.set d (.slice a h'.toNat cap)) df Γ) : Reg P w0 n sh Q ops ((b, i, ⟨some d, .slice t x none (some hi) none, ty, pos, aft, none⟩) :: rest) k ρ df Γ :=
  reg_quiet rfl (fun hF _ => quiet_of_run fun w => by
    obtain ⟨h0, h1⟩ := hb
    simp only [execOp, hx, Option.map_some, Option.map_none, hh, Instr.sliceAt, Instr.slice, Sem.run_bind, run_underlying hT.und, Result.andThen_ok, Instr.sliceBounds, Instr.sliceBound, asIntOf, Sem.run_pure]
    simp only [h0, h1, and_self, if_true, Sem.run_pure, Result.andThen_ok, hS.size_run]
    by_cases hz : cap = 0
    · simp [hz]
    · simp [hz]
      cases a with
      | none => rfl
      | some ad => simp [Addr.add_zero']) h
theorem SlA_cutc {T : TypeId} {sz len cap q : Nat} {a : Option Addr} {cs : List Value} {h : Heap} (hA : SlA T sz a len cap cs h) (hq : q ≤ len) : SlA T sz a q cap (cs.take (q * sz)) h := by
  cases a with
  | none =>
    obtain ⟨e1, e2, e3, e4⟩ := SlA.none_iff.1 hA
    subst e1; subst e2; subst e3
    exact SlA.none_iff.2 ⟨by omega, rfl, by simp, e4⟩
  | some ad =>
    obtain ⟨b', spare, e1, e2, e3, e4, e5⟩ := SlA.some_iff.1 hA
    have hq2 : q * sz ≤ len * sz := Nat.mul_le_mul_right _ hq
    refine SlA.some_iff.2 ⟨b', cs.drop (q * sz) ++ spare, e1, by simp; omega, by omega, by simp; omega, ?_⟩
    rw [← List.append_assoc, List.take_append_drop]; exact e5
def LstA (T : TypeId) (v : Value) (l : List Int) : Asn := fun h => ∃ a cap, v = .slice a l.length cap ∧ SlA T 1 a l.length cap (intsV l) h
theorem run_emp {A : Asn} (hA : A Heap.emp) (h : Run P w0 n sh Q k ρ df (Γ ++ [A])) : Run P w0 n sh Q k ρ df Γ :=
  ⟨fun hF hsh a w ha hn hd hst => h.go hF hsh a w ha hn hd ((St.emp_head hA hst).perm (List.perm_append_comm (l₁ := [_])))⟩
theorem run_lend (is : List Nat) {T : TypeId} {l : List Int} {Γr : List Asn} (hp : pick is Γ = some ([LstA T v l], Γr))
    (h : ∀ sh', (∀ p ∈ sh, p ∈ sh') → RdSl w0 sh' encI 1 v l → Run P w0 n sh' (fun e ρ df Γ' => Q e ρ df (Γ' ++ [LstA T v l])) k ρ df Γr) : Run P w0 n sh Q k ρ df Γ := by
  refine ⟨?_⟩
  intro hF hsh a w ha hn hd hst
  have h1 : St w0 hF (Γr ++ [LstA T v l]) w := (hst.perm (pick_perm hp)).perm List.perm_append_comm
  obtain ⟨g, hg, hdj, hst2⟩ := h1.split
  obtain ⟨a', cap, hv, hS⟩ := Stars.one.1 hg
  cases a' with
  | none =>
    obtain ⟨e1, e2, e3, e4⟩ := SlA.none_iff.1 hS
    subst e4
    have hl : l = [] := List.length_eq_zero_iff.1 e1
    subst hl
    refine ((h sh (fun _ h => h) (hv ▸ RdSl.nil)).go hF hsh a w ha hn hd ?_).mono ?_
    · simpa [Heap.emp_or] using hst2
    · rintro e a' w' ⟨h3, Γ', h4, h5⟩
      exact ⟨h3, _, h4, (St.emp_head (A := LstA T v []) ⟨none, cap, hv, hS⟩ h5).perm (List.perm_append_comm (l₁ := [_]))⟩
  | some ad =>
    obtain ⟨b', spare, e1, e2, e3, e4, e5⟩ := SlA.some_iff.1 hS
    have hg1 := e5
    simp only [pt] at hg1
    subst hg1
    have hsub : ∀ c oc, hF c = some oc → ((Heap.one b' (.cells (List.toArray (intsV l ++ spare)) T (0, 0))).or hF) c = some oc := fun c oc hc => by
      rcases hdj c with e | e
      · simp [Heap.or, e, hc]
      · rw [e] at hc; cases hc
    refine ((h ((b', .cells (List.toArray (intsV l ++ spare)) T (0, 0)) :: sh) (fun p hp => List.mem_cons_of_mem _ hp) (by rw [hv, e1]; exact RdSl.ints (List.mem_cons_self ..) e3)).go _ (fun p hp => ?_) a w ha hn hd hst2).mono ?_
    · rcases List.mem_cons.1 hp with rfl | hp
      · simp [Heap.or, Heap.one]
      · exact hsub _ _ (hsh p hp)
    · rintro e a' w' ⟨h3, Γ', h4, h5⟩
      exact ⟨h3, _, h4, h5.join hg hdj⟩
theorem ends_takeconv (is : List Nat) {fn : Func} {R : Value → List Asn → Prop} {Γp Γr Γ' : List Asn} (hp : pick is Γ = some (Γp, Γr)) (hΓ : ∀ h, Stars Γp h → Stars Γ' h) (h : Ends P w0 sh fn ρ Γ fun v Γ'' => Γ'' = Γ ∧ R v Γ') : Ends P w0 sh fn ρ Γ R :=
  fun hF a w hsh ha hst => by
    obtain ⟨v, Γ'', h1, ⟨h2, h3⟩, h4⟩ := h hF a w hsh ha hst
    subst h2
    obtain ⟨g, hs, hd, hsat⟩ := (h4.perm (pick_perm hp)).left
    exact ⟨v, Γ', h1, h3, g, hΓ g hs, hd, hsat⟩
theorem stars_two {A B A' B' : Asn} (hA : ∀ g, A g → A' g) (hB : ∀ g, B g → B' g) {h : Heap} (hs : Stars [A, B] h) : Stars [A', B'] h := by
  obtain ⟨g1, g2, hd, e, h1, h2⟩ := hs
  exact ⟨g1, g2, hd, e, hA _ h1, Stars.one.2 (hB _ (Stars.one.1 h2))⟩
theorem LstA.cut {T : TypeId} {a : Option Addr} {len cap q : Nat} {l : List Int} {h : Heap} (hA : LstA T (.slice a len cap) l h) (hq : q ≤ l.length) (n : Nat) (hn : n = q) : LstA T (.slice a n cap) (l.take q) h := by
  subst hn
  obtain ⟨a', cap', e, hS⟩ := hA
  cases e
  refine ⟨a, cap, by rw [List.length_take, Nat.min_eq_left hq], ?_⟩
  have := SlA_cutc hS hq
  rw [Nat.mul_one] at this
  rw [List.length_take, Nat.min_eq_left hq, show intsV (l.take n) = (intsV l).take n by simp [intsV, List.map_take]]
  exact this
theorem Fn.lend {f : FuncId} {args : List Value} {T : TypeId} {l : List Int} {R : Value → List Asn → Prop} (hen : Enters P f) (h : ∀ sh', (∀ p ∈ sh, p ∈ sh') → RdSl w0 sh' encI 1 v l → Fn P w0 sh' f args Γ R) :
    Fn P w0 sh f args (LstA T v l :: Γ) fun r Γ' => ∃ Γ'', R r Γ'' ∧ Γ' = Γ'' ++ [LstA T v l] := by
  refine ⟨hen, fun hF w hsh hst => ?_⟩
  have h1 : St w0 hF (Γ ++ [LstA T v l]) w := hst.perm (List.perm_append_comm (l₁ := [_]))
  obtain ⟨g, hg, hdj, hst2⟩ := h1.split
  obtain ⟨a', cap, hv, hS⟩ := Stars.one.1 hg
  cases a' with
  | none =>
    obtain ⟨e1, e2, e3, e4⟩ := SlA.none_iff.1 hS
    subst e4
    have hl : l = [] := List.length_eq_zero_iff.1 e1
    subst hl
    refine ((h sh (fun _ h => h) (hv ▸ RdSl.nil)).calls hF w hsh (by simpa [Heap.emp_or] using hst2)).mono ?_
    rintro e w' ⟨r, Γ', he, h4, h5⟩
    exact ⟨r, _, he, ⟨Γ', h4, rfl⟩, (St.emp_head (A := LstA T v []) ⟨none, cap, hv, hS⟩ h5).perm (List.perm_append_comm (l₁ := [_]))⟩
  | some ad =>
    obtain ⟨b', spare, e1, e2, e3, e4, e5⟩ := SlA.some_iff.1 hS
    have hg1 := e5
    simp only [pt] at hg1
    subst hg1
    have hsub : ∀ c oc, hF c = some oc → ((Heap.one b' (.cells (List.toArray (intsV l ++ spare)) T (0, 0))).or hF) c = some oc := fun c oc hc => by
      rcases hdj c with e | e
      · simp [Heap.or, e, hc]
      · rw [e] at hc; cases hc
    refine ((h ((b', .cells (List.toArray (intsV l ++ spare)) T (0, 0)) :: sh) (fun p hp => List.mem_cons_of_mem _ hp) (by rw [hv, e1]; exact RdSl.ints (List.mem_cons_self ..) e3)).calls _ w (fun p hp => ?_) hst2).mono ?_
    · rcases List.mem_cons.1 hp with rfl | hp
      · simp [Heap.or, Heap.one]
      · exact hsub _ _ (hsh p hp)
    · rintro e w' ⟨r, Γ', he, h4, h5⟩
      exact ⟨r, _, he, ⟨Γ', h4, rfl⟩, h5.join hg hdj⟩
theorem rd_cells {c : Array Value} {o q : Nat} {vs : List Value} (hq : vs.length = q) (h : ∀ (k : Nat) (u : Value), vs[k]? = some u → c[o + k]? = some u) (o' : Nat) (ho : o' = o) : rd true q c.toList o' = some (.agg (List.toArray vs)) := by
  subst ho
  have key : ∀ (vs : List Value) (cs : List Value), (∀ (k : Nat) (u : Value), vs[k]? = some u → cs[k]? = some u) → takeL vs.length cs = some vs := by
    intro vs
    induction vs with
    | nil => intro cs _; cases cs <;> rfl
    | cons x vs ih =>
      intro cs h
      cases cs with
      | nil => have := h 0 x rfl; simp at this
      | cons y cs =>
        have h0 := h 0 x rfl
        simp at h0; subst h0
        have := ih cs (fun k u hu => by simpa using h (k + 1) u (by simpa using hu))
        simp only [List.length_cons, takeL, this]
  have h2 := key vs (dropL o' c.toList) (fun k u hu => by
    rw [dropL_eq, List.getElem?_drop]
    simpa using h k u hu)
  rw [hq] at h2
  simp only [rd, h2]
end
end Go.Vc

namespace Go.Vc
section
variable {P : Program} {w0 : World} {n : Nat} {sh : Shared} {Q : Exit → Env → List Deferred → List Asn → Prop} {k : List Item} {ρ : Env} {df : List Deferred} {Γ : List Asn} {hF : Heap}
variable {ops : Array Oper} {l : List (Fl × Nat × Oper)} {b : Fl} {i d : Nat} {ty : TypeId} {pos : String} {aft : Array Edge}
variable {x y : Operand} {t e : TypeId} {N cap bb : Nat} {D : Array Int} {z v : Int}
def Dat (e : TypeId) (bb N cap : Nat) (D : Array Int) : Asn := SlA e 1 (some ⟨bb, 0, none⟩) N cap (intsV D.toList)
theorem Dat.size {h : Heap} (hA : Dat e bb N cap D h) : D.size = N := by
  have := (SlA_len hA).1
  simpa [intsV] using this
theorem intsV_get {o : Nat} (h : o < D.size) : (intsV D.toList)[o]? = some (.int .i64 D[o]!) := by
  simp [intsV, h]
theorem wr_one_at : ∀ (cs : List Value) (o : Nat) (u : Value), o < cs.length → wr [u] o cs = some (cs.set o u)
  | [], o, u, h => by simp at h
  | c :: cs, 0, u, _ => by simp [wr, over]
  | c :: cs, o + 1, u, h => by
    simp only [wr, wr_one_at cs o u (by simpa using h), List.set_cons_succ]
theorem reg_load_d (j : Nat) [hT : TShape P t false 1] (hx : ev ρ x = .pointer (some ⟨bb, 0 + z.toNat * 1, none⟩)) (hj : getAt j Γ = some (Dat e bb N cap D)) (hz : 0 ≤ z ∧ z < N)
    (h : Reg P w0 n sh Q ops l k (ρ.set d (.int .i64 D[z.toNat]!)) df Γ) (hb : notQuiet b = true := by rfl) : Reg P w0 n sh Q ops ((b, i, ⟨some d, .load t x, ty, pos, aft, none⟩) :: l) k ρ df Γ := by
  refine reg_read rfl hb (fun hF _ w hst => ?_) h
  obtain ⟨r, hp⟩ := getAt_perm hj
  obtain ⟨g, hA, hB⟩ := (hst.perm hp).head
  have hs := hA.size
  obtain ⟨b', spare, h1, h2, h3, h4, h5⟩ := SlA.some_iff.1 hA
  have hb : bb = b' := by injection h1
  subst hb
  refine ⟨w, load_of hT hx (hB _ h5).get.2 ?_, hst⟩
  have hr : rd false 1 (intsV D.toList) (0 + z.toNat * 1) = some (.int .i64 D[z.toNat]!) := by
    show nth _ _ = _
    rw [nth_eq, Nat.zero_add, Nat.mul_one]; exact intsV_get (by omega)
  simpa using rd_append (sp := spare) hr (fun h => by cases h)
theorem reg_store_d (j : Nat) {Γ' : List Asn} {dst : Option Tmp} [hT : TShape P t false 1] (hx : ev ρ x = .pointer (some ⟨bb, 0 + z.toNat * 1, none⟩)) (hv : ev ρ y = .int .i64 v) (hj : getAt j Γ = some (Dat e bb N cap D)) (hz : 0 ≤ z ∧ z < N)
    (hput : putAt j (Dat e bb N cap (D.setIfInBounds z.toNat v)) Γ = some Γ')
    (h : Reg P w0 n sh Q ops l k (ρ.setO dst undef) df Γ') : Reg P w0 n sh Q ops ((Fl.loud, i, ⟨dst, .store t x y, ty, pos, aft, none⟩) :: l) k ρ df Γ := by
  refine reg_loud rfl (fun v' df' Γ'' => v' = undef ∧ df' = df ∧ Γ'' = Γ') (fun hF _ w hst => ?_) (fun v' df' Γ'' ⟨h1, h2, h3⟩ => by subst h1; subst h2; subst h3; exact h)
  obtain ⟨r, hst1, hback⟩ := hst.at hj
  obtain ⟨g, hA, hB⟩ := hst1.head
  have hs := hA.size
  obtain ⟨b', spare, h1, h2, h3, h4, h5⟩ := SlA.some_iff.1 hA
  have hb : bb = b' := by injection h1
  subst hb
  have hst2 := hB _ h5
  have hw : wr [.int .i64 v] (0 + z.toNat * 1) (intsV D.toList) = some (intsV (D.setIfInBounds z.toNat v).toList) := by
    rw [wr_one_at _ _ _ (by simp [intsV]; omega), Nat.zero_add, Nat.mul_one]
    simp [intsV, List.map_set]
  obtain ⟨w', g1, g2, g3, g4, g5, g6, g7⟩ := run_storeVar (P := P) (off := 0 + z.toNat * 1) (v := ev ρ y) (t := t) (vs := [.int .i64 v]) (n := 1) hst2.get.2 (by rw [hv]; rfl) rfl rfl (by have := wr_append (sp := spare) hw; simpa using this)
  simp only [execOp, hx, Instr.storeAt, Instr.sureAddr, Sem.run_bind, Sem.run_pure, Result.andThen_ok, g1]
  have hl' : (intsV (D.setIfInBounds z.toNat v).toList).length = (intsV D.toList).length := by simp [intsV]
  obtain ⟨Γ'', h7, h8⟩ := hback (Dat e bb N cap (D.setIfInBounds z.toNat v)) w' ((hst2.upd g5 g6 g7 g3 g2 g4).exch fun g hg => SlA.some_iff.2 ⟨bb, spare, rfl, by rw [hl']; exact h2, h3, by rw [hl']; exact h4, by rw [Array.toList_setIfInBounds]; exact hg⟩)
  rw [hput] at h7
  cases h7
  exact ⟨Γ', ⟨rfl, rfl, rfl⟩, h8⟩
theorem run_dat (j : Nat) (hj : getAt j Γ = some (Dat e bb N cap D)) (h : D.size = N → Run P w0 n sh Q k ρ df Γ) : Run P w0 n sh Q k ρ df Γ :=
  run_know (fun hF w _ hst => by
    obtain ⟨r, hp⟩ := getAt_perm hj
    obtain ⟨g, hA, _⟩ := (hst.perm hp).head
    exact hA.size) h
end
end Go.Vc

namespace Go.Vc
section
variable {P : Program} {w0 : World} {n : Nat} {sh : Shared} {Q : Exit → Env → List Deferred → List Asn → Prop} {k : List Item} {ρ : Env} {df : List Deferred} {Γ : List Asn} {hF : Heap}
variable {ops : Array Oper} {l : List (Fl × Nat × Oper)} {b : Fl} {i d : Nat} {ty : TypeId} {pos : String} {aft : Array Edge}
variable {x y : Operand} {t yt : TypeId} {ky kd : IntKind} {X Y : Nat} {z : Int}
theorem reg_shl_u64 (s c : Nat) (hx : ev ρ x = .int .u64 (X : Int)) (hy : ev ρ y = .int ky z) (hz : z = s) (hs : s ≤ 64) (hc : 2 ^ s = c)
    (h : Reg P w0 n sh Q ops l k (ρ.set d (.int .u64 ((X * c % 18446744073709551616 : Nat) : Int))) df Γ) :
    Reg P w0 n sh Q ops ((b, i, ⟨some d, .binOp .shl t x y yt, ty, pos, aft, none⟩) :: l) k ρ df Γ :=
  reg_quiet rfl (fun hF _ => quiet_of_run fun w => by
    subst hz
    have h1 : ¬ ((s : Int) < 0) := by omega
    have h2 : min (s : Int).toNat IntKind.u64.bits = s := by
      have : IntKind.u64.bits = 64 := rfl
      rw [this]; omega
    have h3 : IntKind.u64.wrap ((X : Int) * 2 ^ s) = ((X * c % 18446744073709551616 : Nat) : Int) := by
      rw [IntKind.wrap_u64, ← hc, Int.natCast_emod, Int.natCast_mul, Int.natCast_pow]; rfl
    have e : binOp .shl t (.int .u64 (X : Int)) (.int ky (s : Int)) = pure (.int .u64 ((X * c % 18446744073709551616 : Nat) : Int)) := by
      show Op.shift .shl .u64 (X : Int) ky (s : Int) = _
      simp only [Op.shift, if_neg h1, h2, h3]
    simp [execOp, hx, hy, e, eqGuard]) h
theorem reg_shr_u64 (s c : Nat) (hx : ev ρ x = .int kd (X : Int)) (hy : ev ρ y = .int ky z) (hz : z = s) (hs : s ≤ kd.bits) (hc : 2 ^ s = c)
    (h : Reg P w0 n sh Q ops l k (ρ.set d (.int kd ((X / c : Nat) : Int))) df Γ) :
    Reg P w0 n sh Q ops ((b, i, ⟨some d, .binOp .shr t x y yt, ty, pos, aft, none⟩) :: l) k ρ df Γ :=
  reg_quiet rfl (fun hF _ => quiet_of_run fun w => by
    subst hz
    have h1 : ¬ ((s : Int) < 0) := by omega
    have h2 : min (s : Int).toNat kd.bits = s := by omega
    have h3 : (X : Int).fdiv (2 ^ s) = ((X / c : Nat) : Int) := by
      have hp : (0 : Int) < 2 ^ s := Int.pow_pos (by decide)
      rw [← hc, Int.fdiv_eq_ediv_of_nonneg _ (Int.le_of_lt hp)]; push_cast; rfl
    have e : binOp .shr t (.int kd (X : Int)) (.int ky (s : Int)) = pure (.int kd ((X / c : Nat) : Int)) := by
      show Op.shift .shr kd (X : Int) ky (s : Int) = _
      simp only [Op.shift, if_neg h1, h2, h3]
    simp [execOp, hx, hy, e, eqGuard]) h
theorem reg_xor_u64 (hx : ev ρ x = .int .u64 (X : Int)) (hy : ev ρ y = .int .u64 (Y : Int)) (hX : X < 18446744073709551616) (hY : Y < 18446744073709551616)
    (h : Reg P w0 n sh Q ops l k (ρ.set d (.int .u64 ((X ^^^ Y : Nat) : Int))) df Γ) :
    Reg P w0 n sh Q ops ((b, i, ⟨some d, .binOp .xor t x y yt, ty, pos, aft, none⟩) :: l) k ρ df Γ :=
  reg_quiet rfl (fun hF _ => quiet_of_run fun w => by
    have e : binOp .xor t (.int .u64 (X : Int)) (.int .u64 (Y : Int)) = pure (.int .u64 ((X ^^^ Y : Nat) : Int)) := by
      show (pure (Value.int .u64 (bits .xor .u64 (X : Int) (Y : Int))) : Sem Value) = _
      rw [bits_xor_u64_nat X Y hX hY]
    simp [execOp, hx, hy, e, eqGuard]) h
theorem reg_and_u64 (hx : ev ρ x = .int .u64 (X : Int)) (hy : ev ρ y = .int .u64 (Y : Int)) (hX : X < 18446744073709551616) (hY : Y < 18446744073709551616)
    (h : Reg P w0 n sh Q ops l k (ρ.set d (.int .u64 ((X &&& Y : Nat) : Int))) df Γ) :
    Reg P w0 n sh Q ops ((b, i, ⟨some d, .binOp .and t x y yt, ty, pos, aft, none⟩) :: l) k ρ df Γ :=
  reg_quiet rfl (fun hF _ => quiet_of_run fun w => by
    have e : binOp .and t (.int .u64 (X : Int)) (.int .u64 (Y : Int)) = pure (.int .u64 ((X &&& Y : Nat) : Int)) := by
      show (pure (Value.int .u64 (bits .and .u64 (X : Int) (Y : Int))) : Sem Value) = _
      rw [bits_and_u64_nat X Y hX hY]
    simp [execOp, hx, hy, e, eqGuard]) h
theorem reg_convN {src dst : TypeId} {sd : TypeDesc} {kd' : IntKind} (m : Int) [hs : TUnd P src sd] [hd : TUnd P dst (.int kd')] (hx : ev ρ x = .int kd z) (hm : kd'.wrap z = m)
    (h : Reg P w0 n sh Q ops l k (ρ.set d (.int kd' m)) df Γ) : Reg P w0 n sh Q ops ((b, i, ⟨some d, .convert src dst x, ty, pos, aft, none⟩) :: l) k ρ df Γ :=
  zca hx (by rw [hm]; exact h)
theorem reg_index_str {s : ByteArray} {c : UInt8} [hT : TUnd P t .string] (hx : ev ρ x = .string s) (hy : ev ρ y = .int kd z) (hz : 0 ≤ z) (hc : s[z.toNat]? = some c)
    (h : Reg P w0 n sh Q ops l k (ρ.set d (.int .u8 (c.toNat : Int))) df Γ) : Reg P w0 n sh Q ops ((b, i, ⟨some d, .index t x y, ty, pos, aft, none⟩) :: l) k ρ df Γ :=
  reg_quiet rfl (fun hF _ => quiet_of_run fun w => by
    simp [execOp, hx, hy, Instr.index, run_underlying hT.und, if_pos hz, hc, asIntOf]) h
end
end Go.Vc

namespace Go.Vc
section
variable {P : Program} {w0 : World} {n : Nat} {sh : Shared} {Q : Exit → Env → List Deferred → List Asn → Prop} {k : List Item} {ρ : Env} {df : List Deferred} {Γ : List Asn} {hF : Heap}
variable {ops : Array Oper} {l : List (Fl × Nat × Oper)} {b : Fl} {i d : Nat} {ty : TypeId} {pos : String} {aft : Array Edge}
variable {x y : Operand} {t e T : TypeId} {agg : Bool} {sz len cap bb : Nat} {cs z : List Value} {v : Value} {kd : IntKind} {ix : Int} {a : Option Addr}
theorem reg_slice1 {lo : Operand} {q : Int} [hT : TUnd P t (.slice e)] [hS : TShape P e agg 1] (hx : ev ρ x = .slice (some ⟨bb, 0, none⟩) len cap) (hl : ev ρ lo = .int .i64 q) (hb : 0 ≤ q ∧ q ≤ len) (hlt : q < cap)
    (h : Reg P w0 n sh Q ops l k (ρ.set d (.slice (some ⟨bb, q.toNat, none⟩) (len - q.toNat) (cap - q.toNat))) df Γ) : Reg P w0 n sh Q ops ((b, i, ⟨some d, .slice t x (some lo) none none, ty, pos, aft, none⟩) :: l) k ρ df Γ :=
  reg_quiet rfl (fun hF _ => quiet_of_run fun w => by
    obtain ⟨h0, h1⟩ := hb
    simp only [execOp, hx, Option.map_some, Option.map_none, hl, Instr.sliceAt, Instr.slice, Sem.run_bind, run_underlying hT.und, Result.andThen_ok, Instr.sliceBounds, Instr.sliceBound, asIntOf, Sem.run_pure]
    simp only [h0, h1, and_self, if_true, Sem.run_pure, Result.andThen_ok, hS.size_run]
    have h5 : ¬ (cap = q.toNat) := by omega
    simp [h5, Addr.add_lit]) h
end
theorem run_bind_eq2 {P : Program} {w0 : World} {n : Nat} {sh : Shared} {Q : Exit → Env → List Deferred → List Asn → Prop} {k : List Item} {ρ : Env} {df : List Deferred} {Γ : List Asn} {σ : Type} {c : Code} {l' : σ → List (Nat × Value)} {Γ' : σ → List Asn}
    (h : Run P w0 n sh (cutE P w0 n sh Q k fun ρ' df' Γ2 => df' = df ∧ ∃ st, AllAt ρ' (l' st) ∧ Γ2 = Γ' st) [.code c] ρ df Γ)
    (hk : ∀ st junk, Run P w0 n sh Q k (mkE (l' st) junk) df (Γ' st)) : Run P w0 n sh Q (.code c :: k) ρ df Γ :=
  run_cut _ h fun ρ' df' Γ2 ⟨h1, st, h2, h3⟩ => by
    subst h1; subst h3
    have := hk st ρ'
    rwa [mkE_self h2] at this
end Go.Vc

namespace Go.Vc
section
variable {P : Program} {w0 : World} {n : Nat} {sh : Shared} {Q : Exit → Env → List Deferred → List Asn → Prop} {k : List Item} {ρ : Env} {df : List Deferred} {Γ : List Asn} {hF : Heap}
variable {ops : Array Oper} {l : List (Fl × Nat × Oper)} {b : Fl} {i d : Nat} {ty : TypeId} {pos : String} {aft : Array Edge}
variable {x y : Operand} {t e T : TypeId} {agg : Bool} {len cap bb : Nat} {cs : List Value}
theorem allOne_rep {z : Value} (hz : allOne [z] = true) : ∀ m, allOne (List.replicate m z) = true
  | 0 => rfl
  | m + 1 => by
    simp only [allOne, Bool.and_true] at hz
    simp only [List.replicate_succ, allOne, Bool.and_eq_true]
    exact ⟨hz, allOne_rep (by simpa [allOne] using hz) m⟩
theorem reg_clear (j : Nat) {dst : Option Tmp} {Γ' : List Asn} {z zv : Value} {q m c : Nat} [hT : TUnd P t (.slice e)] [hZ : TZeroV P e zv] (hx : ev ρ x = .slice (some ⟨bb, q, none⟩) m c) (hz : zv.cells = #[z]) (hone : allOne [z] = true)
    (hj : getAt j Γ = some (SlA T 1 (some ⟨bb, 0, none⟩) len cap cs)) (hm : q + m ≤ len)
    (hput : putAt j (SlA T 1 (some ⟨bb, 0, none⟩) len cap (cs.take q ++ List.replicate m z ++ cs.drop (q + m))) Γ = some Γ')
    (h : Reg P w0 n sh Q ops l k (ρ.setO dst (.tuple #[])) df Γ') :
    Reg P w0 n sh Q ops ((Fl.loud, i, ⟨dst, .call ⟨.builtin .clear, #[x], #[t]⟩, ty, pos, aft, none⟩) :: l) k ρ df Γ := by
  refine reg_loud rfl (fun v' df' Γ'' => v' = .tuple #[] ∧ df' = df ∧ Γ'' = Γ') (fun hF _ w hst => ?_) (fun v' df' Γ'' ⟨h1, h2, h3⟩ => by subst h1; subst h2; subst h3; exact h)
  obtain ⟨r, hst1, hback⟩ := hst.at hj
  obtain ⟨g, hA, hB⟩ := hst1.head
  obtain ⟨b', spare, h1, h2, h3, h4, h5⟩ := SlA.some_iff.1 hA
  have hb : bb = b' := by injection h1
  subst hb
  have hst2 := hB _ h5
  have hlen : cs.length = len := by rw [h2, Nat.mul_one]
  by_cases hm0 : m = 0
  · subst hm0
    have e0 : cs.take q ++ List.replicate 0 z ++ cs.drop (q + 0) = cs := by simp
    rw [e0] at hput
    simp only [execOp, resolve, invoke, builtin, List.map_toArray, List.map_cons, List.map_nil, hx, Sem.run_bind, Sem.run_pure, Result.andThen_ok]
    simp only [Builtin.clear_, List.getElem?_toArray, List.getElem?_cons_zero, Sem.run_bind, run_underlying hT.und, Result.andThen_ok, Sem.run_pure]
    obtain ⟨Γ'', h7, h8⟩ := hback (SlA T 1 (some ⟨bb, 0, none⟩) len cap cs) w (hst2.exch fun g hg => SlA.some_iff.2 ⟨bb, spare, rfl, h2, h3, h4, hg⟩)
    rw [hput] at h7
    cases h7
    exact ⟨Γ', ⟨rfl, rfl, rfl⟩, h8⟩
  · obtain ⟨w', c', g1, g2, g3, g4, g5, g6, g7, g8⟩ := run_storeCells (P := P) (off := q) (List.replicate m z) 0 _ w hst2.get.2 (allOne_rep hone m) (by simp; omega)
    have hzc : Builtin.zeroCells zv.cells m = (List.replicate m z).toArray := by
      rw [hz]
      apply Array.ext
      · simp [Builtin.zeroCells]
      · intro i hi1 hi2
        simp [Builtin.zeroCells, Nat.mod_one]
    obtain ⟨m', rfl⟩ : ∃ m', m = m' + 1 := ⟨m - 1, by omega⟩
    simp only [execOp, resolve, invoke, builtin, List.map_toArray, List.map_cons, List.map_nil, hx, Sem.run_bind, Sem.run_pure, Result.andThen_ok]
    simp only [Builtin.clear_, List.getElem?_toArray, List.getElem?_cons_zero, Sem.run_bind, run_underlying hT.und, Result.andThen_ok, Sem.run_pure, hZ.zero_run, hzc]
    rw [g1]
    simp only [Result.andThen_ok]
    have e1 : c'.toList = (cs.take q ++ List.replicate (m' + 1) z ++ cs.drop (q + (m' + 1))) ++ spare := by
      rw [g3]
      simp only [Nat.add_zero, List.length_replicate]
      rw [List.take_append_of_le_length (by omega), List.drop_append_of_le_length (by omega)]
      simp [List.append_assoc]
    have e2 : c' = List.toArray ((cs.take q ++ List.replicate (m' + 1) z ++ cs.drop (q + (m' + 1))) ++ spare) := by
      apply Array.ext'; simpa using e1
    have el : (cs.take q ++ List.replicate (m' + 1) z ++ cs.drop (q + (m' + 1))).length = cs.length := by simp; omega
    rw [e2] at g2
    obtain ⟨Γ'', h7, h8⟩ := hback (SlA T 1 (some ⟨bb, 0, none⟩) len cap (cs.take q ++ List.replicate (m' + 1) z ++ cs.drop (q + (m' + 1)))) w'
      ((hst2.upd g6 g7 g8 g4 g2 g5).exch fun g hg => SlA.some_iff.2 ⟨bb, spare, rfl, by rw [el]; exact h2, h3, by rw [el]; exact h4, hg⟩)
    rw [hput] at h7
    cases h7
    exact ⟨Γ', ⟨rfl, rfl, rfl⟩, h8⟩
end
end Go.Vc

namespace Go.Vc
section
variable {P : Program} {w0 : World} {n : Nat} {sh : Shared} {Q : Exit → Env → List Deferred → List Asn → Prop} {k : List Item} {ρ : Env} {df : List Deferred} {Γ : List Asn} {hF : Heap}
variable {ops : Array Oper} {l : List (Fl × Nat × Oper)} {b : Fl} {i d : Nat} {ty : TypeId} {pos : String} {aft : Array Edge}
variable {x y : Operand} {t kt et : TypeId} {r : Nat} {ml : List (Int × Value)}
theorem sh_know (j : Nat) {A : Obj} {bb : Nat} (hj : getAt j sh = some (bb, A)) : ∀ hF w, Sh sh hF → St w0 hF Γ w → w.heap[bb]? = some A := fun _ _ hsh hst => (hst.frame (hsh _ (getAt_mem hj))).2
theorem reg_len_mapS (j : Nat) [hT : TUnd P t (.map kt et)] (hx : ev ρ x = .map (some r)) (hj : getAt j sh = some (r, mapI ml))
    (h : Reg P w0 n sh Q ops l k (ρ.set d (.int .i64 ml.length)) df Γ) : Reg P w0 n sh Q ops ((b, i, ⟨some d, .call ⟨.builtin .len, #[x], #[t]⟩, ty, pos, aft, none⟩) :: l) k ρ df Γ :=
  reg_quiet rfl (fun hF hsh w Γ hst => ⟨w, by
    have hg := run_getObj_map (P := P) (hst.frame (hsh _ (getAt_mem hj))).2
    have : (execOp (ev ρ) ⟨some d, .call ⟨.builtin .len, #[x], #[t]⟩, ty, pos, aft, none⟩).run P w = .ok (.value (.int .i64 ml.length)) w := by
      simp [execOp, resolve, invoke, builtin, Builtin.len_, hx, run_underlying hT.und, hg, goInt]
      simp [mapI, ents_length]
    exact this, hst⟩) h
theorem reg_rangeK [hT : TUnd P t (.map kt et)] (hx : ev ρ x = .map (some r)) (hk : ∀ hF w, Sh sh hF → St w0 hF Γ w → w.heap[r]? = some (mapI ml))
    (h : ∀ nb, Reg P w0 n sh Q ops l k (ρ.set d (.pointer (some ⟨nb, 0, none⟩))) df (Γ ++ [pt nb (iterI r ml.length [] ml.length)])) :
    Reg P w0 n sh Q ops ((Fl.loud, i, ⟨some d, .range t x, ty, pos, aft, none⟩) :: l) k ρ df Γ := by
  refine reg_loud rfl (fun v' df' Γ' => ∃ nb, v' = .pointer (some ⟨nb, 0, none⟩) ∧ df' = df ∧ Γ' = Γ ++ [pt nb (iterI r ml.length [] ml.length)]) (fun hF hsh w hst => ?_)
    (fun v' df' Γ' ⟨nb, h1, h2, h3⟩ => by subst h1; subst h2; subst h3; exact h nb)
  have hg := run_getObj_map (P := P) (hk hF w hsh hst)
  simp only [execOp, hx, Instr.range, Sem.run_bind, run_underlying hT.und, hg, Result.andThen_ok]
  simp only [mapI, Sem.run_bind, Sem.run_pure, run_newObj, Result.andThen_ok]
  exact ⟨_, ⟨_, rfl, rfl, rfl⟩, (hst.alloc (iterI r ml.length [] ml.length)).perm (List.perm_append_comm (l₁ := [_]))⟩
end
end Go.Vc

namespace Go.Vc
def StarsA (L : List Asn) : Asn := fun h => Stars L h
section
variable {P : Program} {w0 : World} {n : Nat} {sh : Shared} {Q : Exit → Env → List Deferred → List Asn → Prop} {k : List Item} {ρ : Env} {df : List Deferred} {Γ : List Asn} {hF : Heap}
variable {fn : Func} {R : Value → List Asn → Prop}
theorem run_unpack {L Γr : List Asn} (is : List Nat) (hp : pick is Γ = some ([StarsA L], Γr)) (h : Run P w0 n sh Q k ρ df (L ++ Γr)) : Run P w0 n sh Q k ρ df Γ :=
  run_open is (fun _ : Unit => L) hp (fun _ hh => ⟨(), hh⟩) fun _ => h
theorem run_pack {L Γr : List Asn} (is : List Nat) (hp : pick is Γ = some (L, Γr)) (h : Run P w0 n sh Q k ρ df (StarsA L :: Γr)) : Run P w0 n sh Q k ρ df Γ :=
  run_close (A := StarsA L) is hp (fun _ hh => hh) h
theorem stars_pack {A : Asn} {L : List Asn} : ∀ h, Stars (A :: L) h → Stars [A, StarsA L] h := fun _ ⟨g1, g2, hd, e, h1, h2⟩ => ⟨g1, g2, hd, e, h1, Stars.one.2 h2⟩
theorem LstA.ofSl {T : TypeId} {a : Option Addr} {cap : Nat} {l : List Int} : ∀ g, SlA T 1 a l.length cap (intsV l) g → LstA T (.slice a l.length cap) l g := fun _ h => ⟨a, cap, rfl, h⟩
theorem ends_pack {A : Asn} {L Γr : List Asn} (is : List Nat) (hp : pick is Γ = some (A :: L, Γr)) (h : Ends P w0 sh fn ρ Γ fun v Γ' => Γ' = Γ ∧ R v [A, StarsA L]) : Ends P w0 sh fn ρ Γ R :=
  ends_takeconv is hp stars_pack h
end
theorem Fn.share {P : Program} {w0 : World} {sh sh' : Shared} {f : FuncId} {args : List Value} {Γ : List Asn} {R : Value → List Asn → Prop} (h : Fn P w0 sh f args Γ R) (hs : ∀ p ∈ sh, p ∈ sh') : Fn P w0 sh' f args Γ R :=
  ⟨h.enters, fun hF w hsh hst => h.calls hF w (fun p hp => hsh p (hs p hp)) hst⟩
end Go.Vc

namespace Go.Vc
section
variable {P : Program} {w0 : World} {n : Nat} {sh : Shared} {Q : Exit → Env → List Deferred → List Asn → Prop} {k : List Item} {ρ : Env} {df : List Deferred} {Γ : List Asn}
theorem run_shareV (is : List Nat) {T : TypeId} {a : Option Addr} {len cap : Nat} {vs : List Value} {Γr : List Asn} (hp : pick is Γ = some ([SlA T 1 a len cap vs], Γr))
    (h : ∀ sh', (∀ p ∈ sh, p ∈ sh') → (vs.length = len ∧ len ≤ cap) → (∀ (j : Nat) v, vs[j]? = some v → ∃ bb c T fr, a = some ⟨bb, 0, none⟩ ∧ (∀ hF Γ w, Sh sh' hF → St w0 hF Γ w → w.heap[bb]? = some (.cells c T fr)) ∧ c[j]? = some v) → Run P w0 n sh' Q k ρ df Γr) : Run P w0 n sh Q k ρ df Γ := by
  refine run_open is (ι := Unit) (fun _ => [SlA T 1 a len cap vs]) hp (fun g hg => ⟨(), Stars.one.2 hg⟩) (fun _ => ?_)
  refine run_sl_cases 0 rfl (fun _ h1 h2 h3 => ?_) (fun nb h1 h2 h3 => ?_)
  · refine run_drop (h sh (fun _ h => h) ⟨by rw [h3, h1]; rfl, by omega⟩ (fun j v hv => ?_))
    rw [h3] at hv; simp at hv
  · subst h1
    refine run_share_sl [0] rfl fun spare => ?_
    refine h _ (fun p hp => .tail _ hp) ⟨by omega, h3⟩ (fun j v hv => ⟨nb, _, T, (0, 0), rfl, fun hF Γ w h1 h2 => (h2.frame (h1 _ (.head _))).2, ?_⟩)
    rw [List.getElem?_toArray, List.getElem?_append_left (List.getElem?_eq_some_iff.1 hv).1]
    exact hv
end
end Go.Vc

namespace Go.Vc
section
variable {P : Program} {w0 : World} {n : Nat} {sh : Shared} {Q : Exit → Env → List Deferred → List Asn → Prop} {k : List Item} {ρ : Env} {df : List Deferred} {Γ : List Asn} {hF : Heap}
variable {ops : Array Oper} {l : List (Fl × Nat × Oper)} {b : Fl} {i d : Nat} {ty : TypeId} {pos : String} {aft : Array Edge}
variable {x y : Operand} {t T e : TypeId} {agg : Bool} {m sz len cap : Nat} {cs : List Value} {a : Option Addr} {v : Value}
variable {f : FuncId} {args : List Value} {Γp Γr : List Asn} {R : Value → List Asn → Prop} {shf : Shared} {cargs : Array Operand} {ats : Array TypeId} {fo : Operand}
class TMeth (P : Program) (t : TypeId) (v : Value) (name : String) (f : outParam FuncId) : Prop where
  meth : ∀ w, (method (P.types.size + Made.depth) t v name).run P w = .ok (f, v) w
theorem opW_invoke {dst : Option Tmp} {name : String} [hm : TMeth P t v name f] (hfo : ev ρ fo = .iface t v) (spec : Fn P w0 shf f args Γp R) (hargs : v :: cargs.toList.map (ev ρ) = args)
    {is : List Nat} (hp : pick is Γ = some (Γp, Γr)) (hsh : Vc.Sh shf hF) :
    OpW P w0 hF ⟨dst, .call ⟨.invoke fo name, cargs, ats⟩, ty, pos, aft, none⟩ ρ df Γ fun v df' Γ' => ∃ Γ'', R v Γ'' ∧ df' = df ∧ Γ' = Γ'' ++ Γr := by
  intro w hst
  have e1 : #[v] ++ cargs.map (ev ρ) = args.toArray := by
    rw [← hargs]; apply Array.ext'; simp
  have he : (callFunc f args.toArray).run P w = .ok (.enter f args.toArray) w := spec.enters _ _
  have e2 : (#[Value.iface t v] ++ cargs.map (ev ρ)).extract 1 (#[Value.iface t v] ++ cargs.map (ev ρ)).size = cargs.map (ev ρ) := by
    apply Array.ext'; simp [List.take_of_length_le]
  have e3 : (#[Value.iface t v] ++ cargs.map (ev ρ))[0]? = some (Value.iface t v) := by rw [Array.getElem?_append_left (by simp)]; rfl
  have hprog : ∀ w, (program).run P w = .ok P w := fun w => rfl
  simp only [execOp, resolve, hfo, Sem.run_bind, Sem.run_pure, Result.andThen_ok, invoke, e2, e3, callMethod, hprog, hm.meth, e1, he]
  obtain ⟨g, hg, hd, hst1⟩ := (hst.perm (pick_perm hp)).split
  have hsh1 : Vc.Sh shf (g.or hF) := fun p hp => by
    have := hsh p hp
    rcases hd p.1 with e | e
    · simp [Heap.or, e, this]
    · rw [e] at this; cases this
  exact (spec.calls _ w hsh1 hst1).mono fun e w' ⟨v, Γ', he, hR, hst'⟩ => ⟨v, Γ' ++ Γr, he, ⟨Γ', hR, rfl, rfl⟩, hst'.join hg hd⟩
theorem reg_invoke (is : List Nat) {dst : Option Tmp} {name : String} [hm : TMeth P t v name f] (spec : Fn P w0 shf f args Γp R) (hfo : ev ρ fo = .iface t v) (hargs : v :: cargs.toList.map (ev ρ) = args)
    (hp : pick is Γ = some (Γp, Γr)) (hsh : ∀ p ∈ shf, p ∈ sh) (h : ∀ v Γ', R v Γ' → Reg P w0 n sh Q ops l k (ρ.setO dst v) df (Γ' ++ Γr)) :
    Reg P w0 n sh Q ops ((Fl.loud, i, ⟨dst, .call ⟨.invoke fo name, cargs, ats⟩, ty, pos, aft, none⟩) :: l) k ρ df Γ :=
  reg_loud rfl _ (fun hF hs => opW_invoke hfo spec hargs hp (fun p hp => hs p (hsh p hp))) (fun v df' Γ' ⟨Γ'', hR, h2, h3⟩ => by subst h2; subst h3; exact h v Γ'' hR)
theorem reg_invokeE (is : List Nat) {dst : Option Tmp} {name : String} {u : Value} {Γ' Γ2 : List Asn} [hm : TMeth P t v name f] (spec : FnE P w0 shf f args Γp u Γ') (hfo : ev ρ fo = .iface t v) (hargs : v :: cargs.toList.map (ev ρ) = args)
    (hp : pick is Γ = some (Γp, Γr)) (hsh : ∀ p ∈ shf, p ∈ sh) (happ : Γ' ++ Γr = Γ2) (h : Reg P w0 n sh Q ops l k (ρ.setO dst u) df Γ2) :
    Reg P w0 n sh Q ops ((Fl.loud, i, ⟨dst, .call ⟨.invoke fo name, cargs, ats⟩, ty, pos, aft, none⟩) :: l) k ρ df Γ :=
  reg_invoke is spec hfo hargs hp hsh (fun v' Γ'' ⟨h1, h2⟩ => by subst h1; subst h2; rw [happ]; exact h)
theorem reg_shr {kd kd' : IntKind} {u : Int} {q : Nat} {t2 : TypeId} (hx : ev ρ x = .int kd u) (hy : ev ρ y = .int kd' (q : Int)) (hq : q ≤ kd.bits) (h : Reg P w0 n sh Q ops l k (ρ.set d (.int kd (u / 2 ^ q))) df Γ) :
    Reg P w0 n sh Q ops ((b, i, ⟨some d, .binOp .shr t x y t2, ty, pos, aft, none⟩) :: l) k ρ df Γ :=
  reg_quiet rfl (fun hF _ => quiet_of_run fun w => by
    have e : u.fdiv (2 ^ q) = u / 2 ^ q := Int.fdiv_eq_ediv_of_nonneg _ (Int.le_of_lt (Int.pow_pos (by decide)))
    have e2 : min ((q : Int)).toNat kd.bits = q := by rw [Int.toNat_natCast]; exact Nat.min_eq_left hq
    have e3 : ¬ ((q : Int) < 0) := by omega
    simp only [execOp, hx, hy, eqGuard, binOp, Op.shift, Sem.run_bind, Sem.run_pure, Result.andThen_ok, e2, if_neg e3, e, Bool.not_false, if_true]) h
theorem reg_nilI {u : Value} (hx : ev ρ x = .iface t u) (h : Reg P w0 n sh Q ops l k (ρ.set d (.iface t u)) df Γ) :
    Reg P w0 n sh Q ops ((b, i, ⟨some d, .nilCheck x, ty, pos, aft, none⟩) :: l) k ρ df Γ :=
  reg_quiet rfl (fun hF _ => quiet_of_run fun w => by simp only [execOp, hx]; rfl) h
theorem reg_xor {kd : IntKind} {u v' : Int} {t2 : TypeId} (hx : ev ρ x = .int kd u) (hy : ev ρ y = .int kd v') (h : Reg P w0 n sh Q ops l k (ρ.set d (.int kd (kd.wrap ((BitVec.ofInt kd.bits u ^^^ BitVec.ofInt kd.bits v').toNat : Nat)))) df Γ) :
    Reg P w0 n sh Q ops ((b, i, ⟨some d, .binOp .xor t x y t2, ty, pos, aft, none⟩) :: l) k ρ df Γ :=
  reg_quiet rfl (fun hF _ => quiet_of_run fun w => by
    simp only [execOp, hx, hy, eqGuard, binOp, Op.intBits, Sem.run_bind, Sem.run_pure, Result.andThen_ok, Bool.not_false, if_true, ne_eq, not_true_eq_false, if_false]) h
theorem getAt_putAt_ne {α : Type _} : ∀ {j j2 : Nat} {l l' : List α} {y : α}, j ≠ j2 → putAt j2 y l = some l' → getAt j l' = getAt j l
  | _, _, [], _, _, _, h => by simp [putAt] at h
  | 0, 0, _ :: _, _, _, hne, _ => absurd rfl hne
  | 0, j2 + 1, z :: l, l', y, _, h => by
    simp only [putAt] at h
    cases hp : putAt j2 y l with
    | none => simp [hp] at h
    | some q => simp [hp] at h; subst h; rfl
  | j + 1, 0, z :: l, l', y, _, h => by simp [putAt] at h; subst h; rfl
  | j + 1, j2 + 1, z :: l, l', y, hne, h => by
    simp only [putAt] at h
    cases hp : putAt j2 y l with
    | none => simp [hp] at h
    | some q =>
      simp [hp] at h; subst h
      exact getAt_putAt_ne (j := j) (j2 := j2) (fun e => hne (by rw [e])) hp
theorem getAt_putAt {α : Type _} : ∀ {j : Nat} {l l' : List α} {y : α}, putAt j y l = some l' → getAt j l' = some y
  | _, [], _, _, h => by simp [putAt] at h
  | 0, _ :: _, _, _, h => by simp [putAt] at h; subst h; rfl
  | j + 1, z :: l, l', y, h => by
    simp only [putAt] at h
    cases hp : putAt j y l with
    | none => simp [hp] at h
    | some q => simp [hp] at h; subst h; exact getAt_putAt (j := j) hp
theorem putAt_self {α : Type _} : ∀ {j : Nat} {l : List α} {y : α}, getAt j l = some y → putAt j y l = some l
  | _, [], _, h => by simp [getAt] at h
  | 0, _ :: _, _, h => by simp [getAt] at h; subst h; rfl
  | j + 1, z :: l, y, h => by
    simp only [getAt] at h
    simp [putAt, putAt_self (j := j) h]
theorem reg_append_own (j j2 : Nat) {G : Asn → Option Addr → Nat → List Asn} {dst : Option Tmp} {a a2 : Option Addr} {len cap m cap2 bytes : Nat} {agg : Bool} {t e t2 e2 T2 : TypeId} {cs new : List Value} {zv : Value}
    [hT : TUnd P t (.slice e)] [hS : TShape P e agg sz] [hZ : TZeroV P e zv] [hI : TInfo P e bytes] [hT2 : TUnd P t2 (.slice e2)]
    (hx : ev ρ x = .slice a len cap) (hy : ev ρ y = .slice a2 m cap2) (hj : getAt j Γ = some (SlA e sz a len cap cs)) (hj2 : getAt j2 Γ = some (SlA T2 sz a2 m cap2 new)) (hne : j ≠ j2) (hone : allOne new = true)
    (hzs : zv.cells.size = sz) (hsmall : (2 * (len + m) + 192) * bytes ≤ 281474976710656 ∧ len + m ≤ 9223372036854775807)
    (hput : ∀ X a' cap', (putAt j2 X Γ).bind (putAt j (SlA e sz a' (len + m) cap' (cs ++ new))) = some (G X a' cap'))
    (h : ∀ X a' cap', Reg P w0 n sh Q ops l k (ρ.setO dst (.slice a' (len + m) cap')) df (G X a' cap')) :
    Reg P w0 n sh Q ops ((Fl.loud, i, ⟨dst, .call ⟨.builtin .append, #[x, y], #[t, t2]⟩, ty, pos, aft, none⟩) :: l) k ρ df Γ := by
  refine reg_loud rfl (fun v df' Γ' => ∃ X a' cap', v = .slice a' (len + m) cap' ∧ df' = df ∧ (putAt j2 X Γ).bind (putAt j (SlA e sz a' (len + m) cap' (cs ++ new))) = some Γ') (fun hF hsh => ?_) ?_
  · intro w hst
    obtain ⟨r, hst1, hback⟩ := hst.at hj2
    obtain ⟨g, hA, hB⟩ := hst1.head
    cases a2 with
    | none =>
      obtain ⟨h1, h2, h3, h4⟩ := SlA.none_iff.1 hA
      subst h1; subst h2; subst h3
      refine (opW_append0 (sz := sz) (e2 := e2) hx hy hj (by simpa using hsmall.2) w hst).mono ?_
      rintro v df' Γ' w' _ ⟨a', cap', h5, h6, h7⟩
      refine ⟨SlA T2 sz none 0 0 [], a', cap', h5, h6, ?_⟩
      rw [putAt_self hj2]
      exact h7
    | some ad =>
      obtain ⟨bb, spare, h1, h2, h3, h4, h5⟩ := SlA.some_iff.1 hA
      subst h1
      obtain ⟨Γo, h6, h7⟩ := hback _ w (hB _ h5)
      have hjo : getAt j Γo = some (SlA e sz a len cap cs) := by rw [getAt_putAt_ne hne h6]; exact hj
      have hjo2 := getAt_putAt h6
      refine (opW_append (T2 := T2) (fr := (0, 0)) (hT := hT) (hS := hS) (hZ := hZ) (hI := hI) (hT2 := hT2) (c2 := new ++ spare) (off2 := 0) (new := new) rfl hx hy hjo (fun w hst => ?_) ?_ ?_ hone hzs hsmall.1 hsmall.2 w h7).mono ?_
      · obtain ⟨r, hp⟩ := getAt_perm hjo2
        exact (hst.perm hp).get.2
      · simp [← h2]
      · simp [← h2]
      · rintro v df' Γ' w' _ ⟨a', cap', h8, h9, h10⟩
        exact ⟨pt bb (.cells (List.toArray (new ++ spare)) T2 (0, 0)), a', cap', h8, h9, by rw [h6]; exact h10⟩
  · rintro v df' Γ' ⟨X, a', cap', h3, h4, h5⟩
    subst h3; subst h4
    rw [hput] at h5
    cases h5
    exact h X a' cap'
end
end Go.Vc

namespace Go.Vc
section
variable {P : Program} {w0 : World} {n : Nat} {sh : Shared} {Q : Exit → Env → List Deferred → List Asn → Prop} {k : List Item} {ρ : Env} {df : List Deferred} {Γ : List Asn} {hF : Heap}
variable {ops : Array Oper} {l : List (Fl × Nat × Oper)} {b : Fl} {i d : Nat} {ty : TypeId} {pos : String} {aft : Array Edge}
variable {x y : Operand} {t e : TypeId} {N cap bb : Nat} {D : Array (Int × Int)} {z : Int} {v : Int × Int}
abbrev prVal (q : Int × Int) : Value := .agg (List.toArray [.int .i64 q.1, .int .i64 q.2])
def prsV (l : List (Int × Int)) : List Value := l.flatMap fun q => [.int .i64 q.1, .int .i64 q.2]
theorem prsV_cons (q : Int × Int) (l : List (Int × Int)) : prsV (q :: l) = .int .i64 q.1 :: .int .i64 q.2 :: prsV l := by simp [prsV]
theorem prsV_len : ∀ (l : List (Int × Int)), (prsV l).length = l.length * 2
  | [] => rfl
  | q :: l => by rw [prsV_cons, List.length_cons, List.length_cons, prsV_len l, List.length_cons]; omega
theorem prsV_get : ∀ (l : List (Int × Int)) (o : Nat) (q : Int × Int), l[o]? = some q → (prsV l)[o * 2]? = some (.int .i64 q.1) ∧ (prsV l)[o * 2 + 1]? = some (.int .i64 q.2)
  | [], o, q, h => by simp at h
  | p :: l, 0, q, h => by
    simp only [List.getElem?_cons_zero, Option.some.injEq] at h
    subst h
    rw [prsV_cons]; exact ⟨rfl, rfl⟩
  | p :: l, o + 1, q, h => by
    have h1 := prsV_get l o q (by simpa using h)
    rw [prsV_cons, show (o + 1) * 2 = o * 2 + 1 + 1 by omega]
    simpa only [List.getElem?_cons_succ] using h1
theorem prsV_rd {l : List (Int × Int)} {o : Nat} {q : Int × Int} (h : l[o]? = some q) (o' : Nat) (ho : o' = o * 2) : rd true 2 (prsV l) o' = some (prVal q) := by
  obtain ⟨h1, h2⟩ := prsV_get l o q h
  have := rd_cells (c := (prsV l).toArray) (o := o * 2) (q := 2) (vs := [.int .i64 q.1, .int .i64 q.2]) rfl (fun k u hk => by
    match k with
    | 0 => simp only [List.getElem?_cons_zero, Option.some.injEq] at hk; subst hk; simpa using h1
    | 1 => simp only [List.getElem?_cons_succ, List.getElem?_cons_zero, Option.some.injEq] at hk; subst hk; simpa using h2
    | k + 2 => simp at hk) o' ho
  exact this
theorem prsV_wr (v : Int × Int) : ∀ (l : List (Int × Int)) (o : Nat), o < l.length → ∀ o', o' = o * 2 → wr [.int .i64 v.1, .int .i64 v.2] o' (prsV l) = some (prsV (l.set o v))
  | [], o, h, _, _ => by simp at h
  | p :: l, 0, h, o', e => by subst e; rw [prsV_cons, List.set_cons_zero, prsV_cons]; rfl
  | p :: l, o + 1, h, o', e => by
    have h1 := prsV_wr v l o (by simpa using h) (o * 2) rfl
    subst e
    rw [prsV_cons, show (o + 1) * 2 = o * 2 + 1 + 1 by omega, List.set_cons_succ, prsV_cons]
    simp only [wr, h1]
def Dat2 (e : TypeId) (bb N cap : Nat) (D : Array (Int × Int)) : Asn := SlA e 2 (some ⟨bb, 0, none⟩) N cap (prsV D.toList)
theorem Dat2.size {h : Heap} (hA : Dat2 e bb N cap D h) : D.size = N := by
  have := (SlA_len hA).1
  rw [prsV_len] at this
  simp only [Array.length_toList] at this
  omega
theorem run_dat2 (j : Nat) (hj : getAt j Γ = some (Dat2 e bb N cap D)) (h : D.size = N → Run P w0 n sh Q k ρ df Γ) : Run P w0 n sh Q k ρ df Γ :=
  run_know (fun hF w _ hst => by
    obtain ⟨r, hp⟩ := getAt_perm hj
    obtain ⟨g, hA, _⟩ := (hst.perm hp).head
    exact hA.size) h
theorem reg_load_d2 (j : Nat) [hT : TShape P t true 2] (hx : ev ρ x = .pointer (some ⟨bb, 0 + z.toNat * 2, none⟩)) (hj : getAt j Γ = some (Dat2 e bb N cap D)) (hz : 0 ≤ z ∧ z < N)
    (h : Reg P w0 n sh Q ops l k (ρ.set d (prVal D[z.toNat]!)) df Γ) (hb : notQuiet b = true := by rfl) : Reg P w0 n sh Q ops ((b, i, ⟨some d, .load t x, ty, pos, aft, none⟩) :: l) k ρ df Γ := by
  refine reg_read rfl hb (fun hF _ w hst => ?_) h
  obtain ⟨r, hp⟩ := getAt_perm hj
  obtain ⟨g, hA, hB⟩ := (hst.perm hp).head
  have hs := hA.size
  obtain ⟨b', spare, h1, h2, h3, h4, h5⟩ := SlA.some_iff.1 hA
  have hb : bb = b' := by injection h1
  subst hb
  refine ⟨w, load_of hT hx (hB _ h5).get.2 ?_, hst⟩
  have hr : rd true 2 (prsV D.toList) (0 + z.toNat * 2) = some (prVal D[z.toNat]!) := prsV_rd (o := z.toNat) (by simp [getElem!_def]; rw [Array.getElem?_eq_getElem (by omega)]) _ (by omega)
  simpa using rd_append (sp := spare) hr (fun _ => by omega)
theorem reg_store_d2 (j : Nat) {Γ' : List Asn} {dst : Option Tmp} [hT : TShape P t true 2] (hx : ev ρ x = .pointer (some ⟨bb, 0 + z.toNat * 2, none⟩)) (hv : ev ρ y = prVal v) (hj : getAt j Γ = some (Dat2 e bb N cap D)) (hz : 0 ≤ z ∧ z < N)
    (hput : putAt j (Dat2 e bb N cap (D.setIfInBounds z.toNat v)) Γ = some Γ')
    (h : Reg P w0 n sh Q ops l k (ρ.setO dst undef) df Γ') : Reg P w0 n sh Q ops ((Fl.loud, i, ⟨dst, .store t x y, ty, pos, aft, none⟩) :: l) k ρ df Γ := by
  refine reg_loud rfl (fun v' df' Γ'' => v' = undef ∧ df' = df ∧ Γ'' = Γ') (fun hF _ w hst => ?_) (fun v' df' Γ'' ⟨h1, h2, h3⟩ => by subst h1; subst h2; subst h3; exact h)
  obtain ⟨r, hst1, hback⟩ := hst.at hj
  obtain ⟨g, hA, hB⟩ := hst1.head
  have hs := hA.size
  obtain ⟨b', spare, h1, h2, h3, h4, h5⟩ := SlA.some_iff.1 hA
  have hb : bb = b' := by injection h1
  subst hb
  have hst2 := hB _ h5
  have hw : wr [.int .i64 v.1, .int .i64 v.2] (0 + z.toNat * 2) (prsV D.toList) = some (prsV (D.setIfInBounds z.toNat v).toList) := by
    rw [Array.toList_setIfInBounds]
    exact prsV_wr v _ _ (by rw [Array.length_toList]; omega) _ (by omega)
  obtain ⟨w', g1, g2, g3, g4, g5, g6, g7⟩ := run_storeVar (P := P) (off := 0 + z.toNat * 2) (v := ev ρ y) (t := t) (vs := [.int .i64 v.1, .int .i64 v.2]) (n := 2) hst2.get.2 (by rw [hv]; rfl) rfl rfl (by have := wr_append (sp := spare) hw; simpa using this)
  simp only [execOp, hx, Instr.storeAt, Instr.sureAddr, Sem.run_bind, Sem.run_pure, Result.andThen_ok, g1]
  have hl' : (prsV (D.setIfInBounds z.toNat v).toList).length = (prsV D.toList).length := by simp [prsV_len]
  obtain ⟨Γ'', h7, h8⟩ := hback (Dat2 e bb N cap (D.setIfInBounds z.toNat v)) w' ((hst2.upd g5 g6 g7 g3 g2 g4).exch fun g hg => SlA.some_iff.2 ⟨bb, spare, rfl, by rw [hl']; exact h2, h3, by rw [hl']; exact h4, by rw [Array.toList_setIfInBounds]; exact hg⟩)
  rw [hput] at h7
  cases h7
  exact ⟨Γ', ⟨rfl, rfl, rfl⟩, h8⟩
end
end Go.Vc

namespace Go.Vc
theorem Fn.unpack {P : Program} {w0 : World} {sh : Shared} {f : FuncId} {args : List Value} {L : List Asn} {R R' : Value → List Asn → Prop} (h : Fn P w0 sh f args [StarsA L] R)
    (hR : ∀ v Γ, R v Γ → ∃ A L', Γ = [A, StarsA L'] ∧ R' v (A :: L')) : Fn P w0 sh f args L R' :=
  ⟨h.enters, fun hF w hsh ⟨g, h1, h2, h3⟩ => (h.calls hF w hsh ⟨g, Stars.one.2 h1, h2, h3⟩).mono fun e w' ⟨v, Γ', e1, e2, e3⟩ => by
    obtain ⟨A, L', rfl, e4⟩ := hR v Γ' e2
    obtain ⟨g, ⟨g1, g2, d1, d2, d3, d4⟩, g3, g4⟩ := e3
    exact ⟨v, _, e1, e4, g, ⟨g1, g2, d1, d2, d3, Stars.one.1 d4⟩, g3, g4⟩⟩
theorem RdSl.cells {α : Type} {encE : α → List Value} {q : Nat} {w0 : World} {sh : Shared} {l : List α} {a : Option Addr} {cap len : Nat} (h : RdSl w0 sh encE q (.slice a len cap) l) {i : Nat} {x : α} (hx : l[i]? = some x) :
    ∃ b off c T fr, a = some ⟨b, off, none⟩ ∧ (∀ hF Γ w, Sh sh hF → St w0 hF Γ w → w.heap[b]? = some (.cells c T fr)) ∧ (∀ o, o = off + i * q → rd true q c.toList o = some (.agg (List.toArray (encE x)))) ∧ ∀ k u, (encE x)[k]? = some u → ∀ o, o = off + i * q + k → rd false 1 c.toList o = some u := by
  obtain ⟨a', cap', h1, _, h2⟩ := h
  cases h1
  have hne : l ≠ [] := by intro e; subst e; simp at hx
  obtain ⟨b, off, c, T, fr, e, hh, hc⟩ := h2.resolve_left hne
  exact ⟨b, off, c, T, fr, e, hh, rd_cells (hc i x hx).1 (fun k u hu => by rw [Nat.add_assoc]; exact (hc i x hx).2 k u hu), fun k u hu o ho => rd_one ((hc i x hx).2 k u hu) o (by omega)⟩
theorem flat_at {α : Type} {encE : α → List Value} {q : Nat} : ∀ (l : List α), (∀ x ∈ l, (encE x).length = q) → ∀ (i : Nat) (x : α), l[i]? = some x → ∀ k u, (encE x)[k]? = some u → (l.flatMap encE)[i * q + k]? = some u
  | [], _, i, x, hx, _, _, _ => by simp at hx
  | y :: l, hq, i, x, hx, k, u, hu => by
    have hy := hq y (by simp)
    have hk := (List.getElem?_eq_some_iff.1 hu).1
    rw [List.flatMap_cons]
    cases i with
    | zero =>
      simp only [List.getElem?_cons_zero, Option.some.injEq] at hx
      subst hx
      rw [List.getElem?_append_left (by omega), show 0 * q + k = k by omega]
      exact hu
    | succ i =>
      rw [List.getElem?_cons_succ] at hx
      have e : (i + 1) * q + k = q + (i * q + k) := by rw [Nat.succ_mul]; omega
      rw [List.getElem?_append_right (by omega), e, hy, Nat.add_sub_cancel_left]
      exact flat_at l (fun z hz => hq z (by simp [hz])) i x hx k u hu
theorem flat_len {α : Type} {encE : α → List Value} {q : Nat} : ∀ (l : List α), (∀ x ∈ l, (encE x).length = q) → (l.flatMap encE).length = l.length * q
  | [], _ => by simp
  | y :: l, hq => by
    rw [List.flatMap_cons, List.length_append, hq y (by simp), flat_len l (fun z hz => hq z (by simp [hz])), List.length_cons, Nat.succ_mul]; omega
theorem RdSl.flatS {α : Type} {encE : α → List Value} {q b cap : Nat} {w0 : World} {sh : Shared} {l : List α} {spare : List Value} {T : TypeId} {fr : Nat × Nat} (hq : ∀ x ∈ l, (encE x).length = q) (hm : (b, Obj.cells (List.toArray (l.flatMap encE ++ spare)) T fr) ∈ sh) (hcap : l.length ≤ cap) :
    RdSl w0 sh encE q (.slice (some ⟨b, 0, none⟩) l.length cap) l := by
  refine ⟨_, _, rfl, hcap, .inr ⟨b, 0, _, T, fr, rfl, fun hF Γ w hsh hst => (hst.frame (hsh _ hm)).2, fun i x hx => ⟨hq x (List.mem_of_getElem? hx), fun k u hu => ?_⟩⟩⟩
  have h1 := flat_at l hq i x hx k u hu
  rw [List.getElem?_toArray, Nat.zero_add, List.getElem?_append_left (List.getElem?_eq_some_iff.1 h1).1]
  exact h1
theorem RdSl.flat {α : Type} {encE : α → List Value} {q b : Nat} {w0 : World} {sh : Shared} {l : List α} {T : TypeId} {fr : Nat × Nat} (hq : ∀ x ∈ l, (encE x).length = q) (hm : (b, Obj.cells (List.toArray (l.flatMap encE)) T fr) ∈ sh) :
    RdSl w0 sh encE q (.slice (some ⟨b, 0, none⟩) l.length l.length) l := RdSl.flatS (spare := []) hq (by rw [List.append_nil]; exact hm) (Nat.le_refl _)
theorem Fn.owned {P : Program} {w0 : World} {sh : Shared} {f : FuncId} {args : List Value} {Γ : List Asn} {R : Value → List Asn → Prop} {b : Nat} {o : Obj} (h : Fn P w0 ((b, o) :: sh) f args Γ R) :
    Fn P w0 sh f args (pt b o :: Γ) fun r Γ' => ∃ Γ'', R r Γ'' ∧ Γ' = Γ'' ++ [pt b o] := by
  refine ⟨h.enters, fun hF w hsh hst => ?_⟩
  have h1 : St w0 hF (Γ ++ [pt b o]) w := hst.perm (List.perm_append_comm (l₁ := [_]))
  obtain ⟨g, hg, hdj, hst2⟩ := h1.split
  have hg1 : pt b o g := Stars.one.1 hg
  simp only [pt] at hg1
  subst hg1
  have hsub : ∀ c oc, hF c = some oc → ((Heap.one b o).or hF) c = some oc := fun c oc hc => by
    rcases hdj c with e | e
    · simp [Heap.or, e, hc]
    · rw [e] at hc; cases hc
  refine (h.calls _ w (fun p hp => ?_) hst2).mono ?_
  · rcases List.mem_cons.1 hp with rfl | hp
    · simp [Heap.or, Heap.one]
    · exact hsub _ _ (hsh p hp)
  · rintro e w' ⟨r, Γ', he, h4, h5⟩
    exact ⟨r, _, he, ⟨Γ', h4, rfl⟩, h5.join hg hdj⟩
section
variable {P : Program} {w0 : World} {n : Nat} {sh : Shared} {Q : Exit → Env → List Deferred → List Asn → Prop} {k : List Item} {ρ : Env} {df : List Deferred} {Γ : List Asn} {hF : Heap}
variable {α : Type} {encE : α → List Value} {m : Nat} {v : Value} {l : List α}
variable {ops : Array Oper} {rest : List (Fl × Nat × Oper)} {b : Fl} {i d : Nat} {ty : TypeId} {pos : String} {aft : Array Edge} {x y : Operand}
theorem RdSl.pre {a : Option Addr} {cap q : Nat} (h : RdSl w0 sh encE m (.slice a l.length cap) l) (hq : q ≤ l.length) : RdSl w0 sh encE m (.slice a q cap) (l.take q) := by
  obtain ⟨a', cap', h1, h0, h2⟩ := h
  cases h1
  refine ⟨a, cap, by rw [List.length_take, Nat.min_eq_left hq], by rw [List.length_take]; omega, ?_⟩
  rcases h2 with rfl | ⟨b, off, c, T, fr, e, hh, hc⟩
  · exact .inl (by simp)
  · refine .inr ⟨b, off, c, T, fr, e, hh, fun i x hx => hc i x ?_⟩
    rw [List.getElem?_take] at hx
    split at hx
    · exact hx
    · cases hx
def tailV (a : Option Addr) (len cap sz q : Nat) : Value := .slice (if cap = q then a else a.map (·.add (q * sz))) (len - q) (cap - q)
theorem RdSl.tail {a : Option Addr} {cap q : Nat} (h : RdSl w0 sh encE m (.slice a l.length cap) l) (hq : q ≤ l.length) : RdSl w0 sh encE m (tailV a l.length cap m q) (l.drop q) := by
  obtain ⟨a', cap', h1, h0, h2⟩ := h
  cases h1
  unfold tailV
  refine ⟨_, _, by rw [List.length_drop], by rw [List.length_drop]; omega, ?_⟩
  by_cases hz : q = l.length
  · exact .inl (by rw [hz]; simp)
  rcases h2 with rfl | ⟨b, off, c, T, fr, e, hh, hc⟩
  · exact .inl (by simp)
  · refine .inr ⟨b, off + q * m, c, T, fr, ?_, hh, fun i x hx => ?_⟩
    · rw [if_neg (by omega), e]; simp [Addr.add_lit]
    · rw [List.getElem?_drop] at hx
      obtain ⟨g1, g2⟩ := hc _ x hx
      exact ⟨g1, fun k u hu => by rw [← g2 k u hu]; congr 1; rw [Nat.add_mul]; omega⟩
theorem reg_sliceT {t e : TypeId} {agg : Bool} {sz : Nat} {a : Option Addr} {len cap : Nat} {lo : Operand} {q : Int} [hT : TUnd P t (.slice e)] [hS : TShape P e agg sz] (hx : ev ρ x = .slice a len cap) (hl : ev ρ lo = .int .i64 q) (hb : 0 ≤ q ∧ q ≤ len)
    (h : Reg P w0 n sh Q ops rest k (ρ.set d (tailV a len cap sz q.toNat)) df Γ) : Reg P w0 n sh Q ops ((b, i, ⟨some d, .slice t x (some lo) none none, ty, pos, aft, none⟩) :: rest) k ρ df Γ :=
  reg_quiet rfl (fun hF _ => quiet_of_run fun w => by
    obtain ⟨h0, h1⟩ := hb
    simp only [execOp, hx, Option.map_some, Option.map_none, hl, Instr.sliceAt, Instr.slice, Sem.run_bind, run_underlying hT.und, Result.andThen_ok, Instr.sliceBounds, Instr.sliceBound, asIntOf, Sem.run_pure]
    simp only [h0, h1, and_self, if_true, Sem.run_pure, Result.andThen_ok, hS.size_run]
    rfl) h
theorem RdSl.blk {b off cap len : Nat} (h : RdSl w0 sh encE m (.slice (some ⟨b, off, none⟩) len cap) l) (hne : l ≠ []) (hm : 0 < m) :
    ∃ c T fr, (∀ hF Γ w, Sh sh hF → St w0 hF Γ w → w.heap[b]? = some (.cells (List.toArray c) T fr)) ∧ (c.drop off).take (l.length * m) = l.flatMap encE ∧ off + l.length * m ≤ c.length := by
  obtain ⟨a', cap', h1, _, h2⟩ := h
  obtain ⟨b', off', c, T, fr, e, hh, hc⟩ := h2.resolve_left hne
  cases h1
  cases e
  have hq : ∀ x ∈ l, (encE x).length = m := fun x hx => by
    obtain ⟨i, hi⟩ := List.mem_iff_getElem?.1 hx
    exact (hc i x hi).1
  have key : ∀ j, j < l.length * m → c.toList[off + j]? = (l.flatMap encE)[j]? := fun j hj => by
    have hi : j / m < l.length := Nat.div_lt_of_lt_mul (by rw [Nat.mul_comm]; exact hj)
    have hx : l[j / m]? = some l[j / m] := List.getElem?_eq_getElem hi
    have hk : j % m < (encE l[j / m]).length := by rw [hq _ (List.getElem_mem hi)]; exact Nat.mod_lt _ hm
    have hu : (encE l[j / m])[j % m]? = some (encE l[j / m])[j % m] := List.getElem?_eq_getElem hk
    have g1 := (hc _ _ hx).2 _ _ hu
    have g2 := flat_at l hq _ _ hx _ _ hu
    have e : j / m * m + j % m = j := by rw [Nat.mul_comm]; exact Nat.div_add_mod j m
    rw [e] at g1 g2
    rw [g2, ← g1]; simp
  have hlen : (l.flatMap encE).length = l.length * m := flat_len l hq
  have hle : off + l.length * m ≤ c.toList.length := by
    cases hl : l.length * m with
    | zero =>
      have : 0 < l.length := List.length_pos_iff.2 hne
      have := Nat.mul_pos this hm
      omega
    | succ q =>
      have h3 := key q (by omega)
      rw [List.getElem?_eq_getElem (show q < (l.flatMap encE).length by omega)] at h3
      have := (List.getElem?_eq_some_iff.1 h3).1
      omega
  refine ⟨c.toList, T, fr, fun hF Γ w h1 h2 => by simpa using hh hF Γ w h1 h2, ?_, hle⟩
  apply List.ext_getElem?
  intro j
  by_cases hj : j < l.length * m
  · rw [List.getElem?_take, if_pos hj, List.getElem?_drop, key j hj]
  · rw [List.getElem?_eq_none (by rw [List.length_take]; omega), List.getElem?_eq_none (by omega)]
theorem reg_append_rdE (j : Nat) {G : Option Addr → Nat → List Asn} {dst : Option Tmp} {a : Option Addr} {len cap bytes : Nat} {agg : Bool} {t e t2 e2 : TypeId} {cs : List Value} {zv : Value}
    [hT : TUnd P t (.slice e)] [hS : TShape P e agg m] [hZ : TZeroV P e zv] [hI : TInfo P e bytes] [hT2 : TUnd P t2 (.slice e2)]
    (hx : ev ρ x = .slice a len cap) (hy : ev ρ y = v) (hv : RdSl w0 sh encE m v l) (hm : 0 < m) (hone : allOne (l.flatMap encE) = true) (hj : getAt j Γ = some (SlA e m a len cap cs))
    (hzs : zv.cells.size = m) (hsmall : (2 * (len + l.length) + 192) * bytes ≤ 281474976710656 ∧ len + l.length ≤ 9223372036854775807)
    (hput : ∀ a' cap', putAt j (SlA e m a' (len + l.length) cap' (cs ++ l.flatMap encE)) Γ = some (G a' cap'))
    (h : ∀ a' cap', Reg P w0 n sh Q ops rest k (ρ.setO dst (.slice a' (len + l.length) cap')) df (G a' cap')) :
    Reg P w0 n sh Q ops ((Fl.loud, i, ⟨dst, .call ⟨.builtin .append, #[x, y], #[t, t2]⟩, ty, pos, aft, none⟩) :: rest) k ρ df Γ := by
  refine reg_loud rfl (fun v df' Γ' => ∃ a' cap', v = .slice a' (len + l.length) cap' ∧ df' = df ∧ putAt j (SlA e m a' (len + l.length) cap' (cs ++ l.flatMap encE)) Γ = some Γ') (fun hF hsh => ?_) ?_
  · by_cases hne : l = []
    · subst hne
      obtain ⟨a2, cap2, h1, _, _⟩ := hv
      exact opW_append0 (sz := m) (e2 := e2) hx (hy.trans h1) hj (by simpa using hsmall.2)
    · obtain ⟨a2, cap2, h1, _, h2⟩ := id hv
      obtain ⟨b', off', _, _, _, e', _⟩ := h2.resolve_left hne
      subst e'
      rw [h1] at hv
      obtain ⟨c, T, fr, g1, g2, g3⟩ := hv.blk hne hm
      exact opW_append (T2 := T) (fr := fr) (c2 := c) (hT := hT) (hS := hS) (hZ := hZ) (hI := hI) (hT2 := hT2) (new := l.flatMap encE) rfl hx (hy.trans h1) hj (fun w hst => g1 hF _ w hsh hst) g2 g3 hone hzs hsmall.1 hsmall.2
  · rintro v df' Γ' ⟨a', cap', h3, h4, h5⟩
    subst h3; subst h4
    rw [hput] at h5
    cases h5
    exact h a' cap'
def LstE (encE : α → List Value) (q : Nat) (T : TypeId) (v : Value) (l : List α) : Asn := fun h => (∀ x ∈ l, (encE x).length = q) ∧ ∃ a cap, v = .slice a l.length cap ∧ SlA T q a l.length cap (l.flatMap encE) h
theorem LstE.ofSl {q : Nat} {T : TypeId} {a : Option Addr} {len cap : Nat} (hq : ∀ x ∈ l, (encE x).length = q) (hl : l.length = len) (g : Heap) (hg : SlA T q a len cap (l.flatMap encE) g) : LstE encE q T (.slice a len cap) l g := by
  subst hl; exact ⟨hq, a, cap, rfl, hg⟩
theorem LstE.nil {q : Nat} {T : TypeId} : LstE encE q T (.slice none 0 0) ([] : List α) Heap.emp := ⟨fun x hx => by simp at hx, none, 0, rfl, SlA_nil⟩
theorem run_lendE (is : List Nat) {q : Nat} {T : TypeId} {Γr : List Asn} (hp : pick is Γ = some ([LstE encE q T v l], Γr))
    (h : ∀ sh', (∀ p ∈ sh, p ∈ sh') → RdSl w0 sh' encE q v l → Run P w0 n sh' (fun e ρ df Γ' => Q e ρ df (Γ' ++ [LstE encE q T v l])) k ρ df Γr) : Run P w0 n sh Q k ρ df Γ := by
  refine ⟨?_⟩
  intro hF hsh a w ha hn hd hst
  have h1 : St w0 hF (Γr ++ [LstE encE q T v l]) w := (hst.perm (pick_perm hp)).perm List.perm_append_comm
  obtain ⟨g, hg, hdj, hst2⟩ := h1.split
  obtain ⟨hq, a', cap, hv, hS⟩ := Stars.one.1 hg
  cases a' with
  | none =>
    obtain ⟨e1, e2, e3, e4⟩ := SlA.none_iff.1 hS
    subst e4
    have hl : l = [] := List.length_eq_zero_iff.1 e1
    subst hl
    refine ((h sh (fun _ h => h) (hv ▸ RdSl.nil)).go hF hsh a w ha hn hd ?_).mono ?_
    · simpa [Heap.emp_or] using hst2
    · rintro e a' w' ⟨h3, Γ', h4, h5⟩
      exact ⟨h3, _, h4, (St.emp_head (A := LstE encE q T v []) ⟨fun x hx => by simp at hx, none, cap, hv, hS⟩ h5).perm (List.perm_append_comm (l₁ := [_]))⟩
  | some ad =>
    obtain ⟨b', spare, e1, e2, e3, e4, e5⟩ := SlA.some_iff.1 hS
    have hg1 := e5
    simp only [pt] at hg1
    subst hg1
    have hsub : ∀ c oc, hF c = some oc → ((Heap.one b' (.cells (List.toArray (l.flatMap encE ++ spare)) T (0, 0))).or hF) c = some oc := fun c oc hc => by
      rcases hdj c with e | e
      · simp [Heap.or, e, hc]
      · rw [e] at hc; cases hc
    refine ((h ((b', .cells (List.toArray (l.flatMap encE ++ spare)) T (0, 0)) :: sh) (fun p hp => List.mem_cons_of_mem _ hp) (by rw [hv, e1]; exact RdSl.flatS hq (List.mem_cons_self ..) e3)).go _ (fun p hp => ?_) a w ha hn hd hst2).mono ?_
    · rcases List.mem_cons.1 hp with rfl | hp
      · simp [Heap.or, Heap.one]
      · exact hsub _ _ (hsh p hp)
    · rintro e a' w' ⟨h3, Γ', h4, h5⟩
      exact ⟨h3, _, h4, h5.join hg hdj⟩
end
end Go.Vc

namespace Go.Vc
section
variable {P : Program} {w0 : World} {n : Nat} {sh : Shared} {Q : Exit → Env → List Deferred → List Asn → Prop} {k : List Item} {ρ : Env} {df : List Deferred} {Γ : List Asn}
variable {ops : Array Oper} {l : List (Fl × Nat × Oper)} {i : Nat} {ty yt : TypeId} {pos : String} {aft : Array Edge}
variable {b : Fl} {x y : Operand} {d : Tmp}
theorem reg_eq_nilI {t u : TypeId} {v : Value} {ms : Array (String × TypeId)} [hT : TUnd P t (.interface ms)] (hx : ev ρ x = .iface u v) (hy : ev ρ y = .nilIface) (h : Reg P w0 n sh Q ops l k (ρ.set d (.bool false)) df Γ) :
    Reg P w0 n sh Q ops ((b, i, ⟨some d, .binOp .eql t x y yt, ty, pos, aft, none⟩) :: l) k ρ df Γ :=
  reg_eq_gen hx hy (by rfl) (by rfl) (fun d w => by simp only [Op.equalIn, Sem.run_bind, run_underlying hT.und, Result.andThen_ok, Sem.run_pure]) h
theorem reg_mkI {t : TypeId} {v : Value} (hs : ∀ w, (Instr.makeInterface t v).run P w = .ok (.iface t v) w) (hx : ev ρ x = v) (h : Reg P w0 n sh Q ops l k (ρ.set d (.iface t v)) df Γ) :
    Reg P w0 n sh Q ops ((b, i, ⟨some d, .makeInterface t x, ty, pos, aft, none⟩) :: l) k ρ df Γ :=
  reg_quiet rfl (fun hF _ => quiet_of_run fun w => by
    simp only [execOp, hx, Sem.run_bind, hs, Result.andThen_ok, Sem.run_map]; rfl) h
theorem reg_orE {kd : IntKind} {u v r : Int} {t2 t : TypeId} (hx : ev ρ x = .int kd u) (hy : ev ρ y = .int kd v) (hr : kd.wrap ((BitVec.ofInt kd.bits u ||| BitVec.ofInt kd.bits v).toNat : Nat) = r) (h : Reg P w0 n sh Q ops l k (ρ.set d (.int kd r)) df Γ) :
    Reg P w0 n sh Q ops ((b, i, ⟨some d, .binOp .or t x y t2, ty, pos, aft, none⟩) :: l) k ρ df Γ :=
  reg_quiet rfl (fun hF _ => quiet_of_run fun w => by
    simp only [execOp, hx, hy, eqGuard, binOp, Op.intBits, Sem.run_bind, Sem.run_pure, Result.andThen_ok, Bool.not_false, if_true, ne_eq, not_true_eq_false, if_false, hr]) h
theorem reg_shlE {kd kd' : IntKind} {u r : Int} {q : Nat} {t2 t : TypeId} (hx : ev ρ x = .int kd u) (hy : ev ρ y = .int kd' (q : Int)) (hq : q ≤ kd.bits) (hr : kd.wrap (u * 2 ^ q) = r) (h : Reg P w0 n sh Q ops l k (ρ.set d (.int kd r)) df Γ) :
    Reg P w0 n sh Q ops ((b, i, ⟨some d, .binOp .shl t x y t2, ty, pos, aft, none⟩) :: l) k ρ df Γ :=
  reg_quiet rfl (fun hF _ => quiet_of_run fun w => by
    have e2 : min ((q : Int)).toNat kd.bits = q := by rw [Int.toNat_natCast]; exact Nat.min_eq_left hq
    have e3 : ¬ ((q : Int) < 0) := by omega
    simp only [execOp, hx, hy, eqGuard, binOp, Op.shift, Sem.run_bind, Sem.run_pure, Result.andThen_ok, e2, if_neg e3, hr, Bool.not_false, if_true]) h
theorem wrap_u64 {x : Int} (h : 0 ≤ x ∧ x ≤ 18446744073709551615) : IntKind.u64.wrap x = x := by rw [IntKind.wrap_u64]; omega
variable {kt et : TypeId} {kd : IntKind} {zv : Value} {r : Nat} {ml : List (Int × Value)} {a : Int}
theorem reg_lookup_at {t : TypeId} {ok : Bool} {v : Value} [hT : TUnd P t (.map kt et)] [hK : TUnd P kt (.int kd)] [hZ : TZeroV P et zv] (hj : (r, mapI ml) ∈ sh) (hx : ev ρ x = .map (some r)) (hy : ev ρ y = .int .i64 a)
    (hv : (if ok then .tuple #[(look ml a).getD zv, .bool (look ml a).isSome] else (look ml a).getD zv) = v)
    (h : Reg P w0 n sh Q ops l k (ρ.set d v) df Γ) : Reg P w0 n sh Q ops ((b, i, ⟨some d, .lookup t x y ok, ty, pos, aft, none⟩) :: l) k ρ df Γ :=
  reg_quiet rfl (fun _ hsh w _ hst => ⟨w, by
    simp only [execOp, hx, hy, Sem.run_bind, lookup_run hT.und hK.und hZ.zero_run (hst.frame (hsh _ hj)).2, Sem.run_pure, Result.andThen_ok, hv], hst⟩) h
end
end Go.Vc

