import Derived.Sort.AssemblyPlain
import Derived.Test.YtpcnbaddkblbhaaPart1
import Derived.Test.YtpcnbaddkblbhaaKit1
/- Lemmas and walks for the claims of this seat (own work): Vw0 Vp0 Fl1 Fl2 Fl3 Fl4 Fa0 Fa1 Fa2 So0 So1 So2 So3 So4 So5 So6 So7 So8. -/
/- Memory seen through a space: what programs do to it. -/
namespace Sim
open Go Go.Vc
def upd (m : Int → Int) (a v : Int) : Int → Int := fun x => if x = a then v else m x
theorem upd_same (m : Int → Int) (a v : Int) : upd m a v a = v := by simp [upd]
theorem upd_ne {m : Int → Int} {a v x : Int} (h : x ≠ a) : upd m a v x = m x := by simp [upd, h]
/-- The words 0..N-1 are known, and read as `m`; what was written since `s0` stands behind what was written before. -/
structure Vw (s0 : Sp) (N : Int) (s : Sp) (m : Int → Int) : Prop where
  live : s.ended = false
  kn : s.kn = s0.kn
  all : ∀ a, 0 ≤ a → a < N → ∃ w, lookW s.kn a = some w
  ext : ∃ l, s.puts = s0.puts ++ l
  val : ∀ a, 0 ≤ a → a < N → (s.value a).1 = m a
theorem lastV_add : ∀ (l : List (Int × Int)) (p : Int × Int) (x : Int), lastV (l ++ [p]) x = if p.1 = x then some p.2 else lastV l x
  | [], p, x => by simp [lastV]
  | (a, v) :: l, p, x => by
    simp only [List.cons_append, lastV, lastV_add l p x]
    by_cases h : p.1 = x <;> simp [h]
section
variable {s0 s : Sp} {N : Int} {m : Int → Int} {a v : Int}
theorem Vw.reads (h : Vw s0 N s m) (h0 : 0 ≤ a) (h1 : a < N) : s.reads a = (true, { s with rd := insI s.rd a }) := by
  obtain ⟨w, hw⟩ := h.all a h0 h1
  simp [Sp.reads, h.live, hw]
theorem Vw.get (h : Vw s0 N s m) (h0 : 0 ≤ a) (h1 : a < N) : (s.get a).1 = m a ∧ Vw s0 N (s.get a).2 m := by
  have hv := h.val a h0 h1
  have e : s.get a = ((s.value a).1, { s with rd := insI s.rd a }) := by simp only [Sp.get, h.reads h0 h1, if_true]; rfl
  rw [e]
  exact ⟨hv, h.live, h.kn, h.all, h.ext, h.val⟩
theorem Vw.put (h : Vw s0 N s m) (h0 : 0 ≤ a) (h1 : a < N) (v : Int) : Vw s0 N (s.put a v) (upd m a v) := by
  have e : s.put a v = { s with rd := insI s.rd a, puts := s.puts ++ [(a, v)] } := by simp [Sp.put, h.reads h0 h1]
  rw [e]
  refine ⟨h.live, h.kn, h.all, ?_, fun x hx0 hx1 => ?_⟩
  · obtain ⟨l, hl⟩ := h.ext
    exact ⟨l ++ [(a, v)], by simp [hl]⟩
  · have hv := h.val x hx0 hx1
    simp only [Sp.value, lastV_add] at hv ⊢
    by_cases e : a = x
    · subst e; simp [upd]
    · rw [if_neg e, upd_ne (Ne.symm e)]; exact hv
theorem Vw.base (h : Vw s0 N s m) : Vw s N s m := ⟨h.live, rfl, h.all, ⟨[], by simp⟩, h.val⟩
theorem Vw.back {s1 : Sp} {m1 : Int → Int} (h : Vw s0 N s m) (h1 : Vw s N s1 m1) : Vw s0 N (s1.back s.puts.length) m := by
  obtain ⟨l, hl⟩ := h1.ext
  have e : s1.back s.puts.length = { s1 with puts := s.puts } := by
    have h2 : (s.puts.length : Int) ≤ s1.puts.length := by rw [hl]; simp; omega
    simp only [Sp.back, h1.live, hl] at h2 ⊢
    rw [if_pos ⟨trivial, by omega, h2⟩]
    simp
  rw [e]
  refine ⟨h1.live, h1.kn.trans h.kn, h1.all, h.ext, fun x hx0 hx1 => ?_⟩
  have := h.val x hx0 hx1
  simp only [Sp.value, h1.kn] at this ⊢
  exact this
theorem Vw.trans {s1 : Sp} {m1 : Int → Int} (h : Vw s0 N s m) (h1 : Vw s N s1 m1) : Vw s0 N s1 m1 := by
  obtain ⟨l, hl⟩ := h.ext
  obtain ⟨l1, hl1⟩ := h1.ext
  exact ⟨h1.live, h1.kn.trans h.kn, h1.all, ⟨l ++ l1, by rw [hl1, hl, List.append_assoc]⟩, h1.val⟩
end
/-- From the memory `m` the program comes to a result and a memory in `Q`. -/
def Pg.Ok {α : Type} (N : Int) (g : Pg α) (m : Int → Int) (Q : α → (Int → Int) → Prop) : Prop :=
  ∀ s0 s, Vw s0 N s m → ∃ m', Vw s0 N (Pg.run g s).2 m' ∧ Q (Pg.run g s).1 m'
namespace Pg
variable {α β : Type} {N : Int} {m : Int → Int} {Q : α → (Int → Int) → Prop} {a v : Int}
theorem Ok.pure {r : α} (h : Q r m) : Ok N (Pure.pure r : Pg α) m Q := fun _ _ hv => ⟨m, hv, h⟩
theorem Ok.get {k : Int → Pg α} (h0 : 0 ≤ a) (h1 : a < N) (h : Ok N (k (m a)) m Q) : Ok N (gt a >>= k) m Q := fun s0 s hv => by
  obtain ⟨h2, h3⟩ := hv.get h0 h1
  rw [run_bind]
  show ∃ m', Vw s0 N (run (k (s.get a).1) (s.get a).2).2 m' ∧ Q (run (k (s.get a).1) (s.get a).2).1 m'
  rw [h2]
  exact h s0 _ h3
theorem Ok.put {k : Unit → Pg α} (h0 : 0 ≤ a) (h1 : a < N) (h : Ok N (k ()) (upd m a v) Q) : Ok N (pt a v >>= k) m Q := fun s0 s hv => by
  rw [run_bind]
  exact h s0 _ (hv.put h0 h1 v)
theorem Ok.bind {g : Pg β} {k : β → Pg α} (Q1 : β → (Int → Int) → Prop) (hg : Ok N g m Q1) (h : ∀ r m', Q1 r m' → Ok N (k r) m' Q) : Ok N (g >>= k) m Q := fun s0 s hv => by
  rw [run_bind]
  obtain ⟨m', h1, h2⟩ := hg s0 s hv
  exact h _ m' h2 s0 _ h1
theorem Ok.mono {Q' : α → (Int → Int) → Prop} {g : Pg α} (hg : Ok N g m Q) (h : ∀ r m', Q r m' → Q' r m') : Ok N g m Q' := fun s0 s hv =>
  let ⟨m', h1, h2⟩ := hg s0 s hv; ⟨m', h1, h _ _ h2⟩
/-- A result that is known, and the memory after it. -/
theorem Ok.bindE {g : Pg β} {k : β → Pg α} {r : β} {m' : Int → Int} (hg : Ok N g m fun x y => x = r ∧ y = m') (h : Ok N (k r) m' Q) : Ok N (g >>= k) m Q :=
  Ok.bind _ hg fun _ _ ⟨h1, h2⟩ => h1 ▸ h2 ▸ h
theorem Ok.ite {c : Prop} [Decidable c] {x y : Pg α} (h1 : c → Ok N x m Q) (h2 : ¬ c → Ok N y m Q) : Ok N (if c then x else y) m Q := by
  split
  · exact h1 ‹_›
  · exact h2 ‹_›
/-- A mark, and the way back to it. -/
theorem Ok.roll {g : Pg β} {k : Nat → β → Pg α} (bad : β → Prop) (Q1 : β → (Int → Int) → Prop) (hg : Ok N g m Q1)
    (hb : ∀ r m' n, Q1 r m' → bad r → ∃ r', k n r = (bk n >>= fun _ => Pure.pure r') ∧ Q r' m)
    (hgd : ∀ r m' n, Q1 r m' → ¬ bad r → Ok N (k n r) m' Q) : Ok N (mk >>= fun n => g >>= k n) m Q := fun s0 s hv => by
  rw [run_bind]
  show ∃ m', Vw s0 N (run (g >>= k s.puts.length) s).2 m' ∧ Q (run (g >>= k s.puts.length) s).1 m'
  rw [run_bind]
  obtain ⟨m', h1, h2⟩ := hg s s hv.base
  by_cases hbad : bad (run g s).1
  · obtain ⟨r', h3, h4⟩ := hb _ m' s.puts.length h2 hbad
    rw [h3, run_bind]
    exact ⟨m, hv.back h1, h4⟩
  · exact hgd _ m' s.puts.length h2 hbad s0 _ (hv.trans h1)
end Pg

/-! ### What any program keeps -/
/-- Each location that is read is known, and met once; each that is written is read. -/
structure Wf (s : Sp) : Prop where
  nd : s.rd.Nodup
  rk : ∀ x ∈ s.rd, lookW s.kn x ≠ none
  pr : ∀ p ∈ s.puts, p.1 ∈ s.rd
theorem mem_insI : ∀ (l : List Int) (x y : Int), y ∈ insI l x ↔ y ∈ l ∨ y = x
  | [], x, y => by simp [insI]
  | a :: l, x, y => by
    simp only [insI]
    split
    · rename_i h; subst h; simp; intro h; exact .inl h
    · rw [List.mem_cons, mem_insI l x y, List.mem_cons, or_assoc]
theorem nodup_insI : ∀ (l : List Int) (x : Int), l.Nodup → (insI l x).Nodup
  | [], x, _ => by simp [insI]
  | a :: l, x, h => by
    simp only [insI]
    split
    · exact h
    · rename_i hne
      rw [List.nodup_cons] at h ⊢
      refine ⟨fun hm => ?_, nodup_insI l x h.2⟩
      rcases (mem_insI l x a).1 hm with h1 | h1
      · exact h.1 h1
      · exact hne h1
theorem reads_kn (s : Sp) (a : Int) : (s.reads a).2.kn = s.kn := by unfold Sp.reads; split; rfl; split <;> rfl
theorem get_kn (s : Sp) (a : Int) : (s.get a).2.kn = s.kn := by simp only [Sp.get]; split <;> exact reads_kn s a
theorem put_kn (s : Sp) (a v : Int) : (s.put a v).kn = s.kn := by simp only [Sp.put]; split <;> exact reads_kn s a
theorem back_kn (s : Sp) (m : Int) : (s.back m).kn = s.kn := by simp only [Sp.back]; split <;> rfl
theorem Wf.reads {s : Sp} (h : Wf s) (a : Int) : Wf (s.reads a).2 ∧ ((s.reads a).1 = true → a ∈ (s.reads a).2.rd) := by
  unfold Sp.reads
  split
  · exact ⟨h, fun e => by cases e⟩
  · split
    · exact ⟨⟨h.nd, h.rk, h.pr⟩, fun e => by cases e⟩
    · rename_i w hw
      refine ⟨⟨nodup_insI _ _ h.nd, fun x hx => ?_, fun p hp => (mem_insI _ _ _).2 (.inl (h.pr p hp))⟩, fun _ => (mem_insI _ _ _).2 (.inr rfl)⟩
      rcases (mem_insI _ _ _).1 hx with h1 | h1
      · exact h.rk x h1
      · subst h1; rw [hw]; exact fun e => by cases e
theorem Wf.get {s : Sp} (h : Wf s) (a : Int) : Wf (s.get a).2 := by
  unfold Sp.get
  split <;> exact (h.reads a).1
theorem Wf.put {s : Sp} (h : Wf s) (a v : Int) : Wf (s.put a v) := by
  unfold Sp.put
  split
  · rename_i hr
    have h1 := h.reads a
    refine ⟨h1.1.nd, h1.1.rk, fun p hp => ?_⟩
    rcases List.mem_append.1 hp with hp | hp
    · have := h1.1.pr p
      rw [Pg.reads_puts'] at this
      exact this hp
    · simp at hp; subst hp; exact h1.2 hr
  · exact (h.reads a).1
theorem Wf.back {s : Sp} (h : Wf s) (m : Int) : Wf (s.back m) := by
  unfold Sp.back
  split
  · exact ⟨h.nd, h.rk, fun p hp => h.pr p (List.mem_of_mem_take hp)⟩
  · exact h
theorem Pg.wf {α : Type} : ∀ (g : Pg α) {s : Sp}, Wf s → Wf (Pg.run g s).2 ∧ (Pg.run g s).2.kn = s.kn
  | .ret _, _, h => ⟨h, rfl⟩
  | .get x k, s, h => let ⟨h1, h2⟩ := Pg.wf (k (s.get x).1) (h.get x); ⟨h1, h2.trans (get_kn s x)⟩
  | .put x v k, s, h => let ⟨h1, h2⟩ := Pg.wf k (h.put x v); ⟨h1, h2.trans (put_kn s x v)⟩
  | .mark k, s, h => Pg.wf (k s.puts.length) h
  | .back m k, s, h => let ⟨h1, h2⟩ := Pg.wf k (h.back m); ⟨h1, h2.trans (back_kn s m)⟩
end Sim

/- The pool in memory. -/
namespace Sim
open Go Go.Vc
/-- A pool whose three cells stand before its nodes. -/
structure Pl.Fine (P : Pl) : Prop where
  ok : P.Ok
  apart : P.root + 3 ≤ P.frm
  some : P.nodes ≤ 100
  low : P.frm ≤ 1000
def Pl.top (P : Pl) : Int := P.frm + 8 * P.nodes
/-- One of the first `h` nodes. -/
def isNd (P : Pl) (h a : Int) : Prop := ∃ k, 0 ≤ k ∧ k < h ∧ a = P.frm + 8 * k
section
variable {P : Pl} {h a : Int}
theorem isNd.mono {h' : Int} (hk : h ≤ h') (ha : isNd P h a) : isNd P h' a := by obtain ⟨k, h0, h1, h2⟩ := ha; exact ⟨k, h0, by omega, h2⟩
theorem isNd.lo (ha : isNd P h a) : P.frm ≤ a ∧ a + 8 ≤ P.frm + 8 * h := by obtain ⟨k, h0, h1, rfl⟩ := ha; omega
theorem nd_inj {b : Int} {i j : Int} (ha : isNd P h a) (hb : isNd P h b) (hi : 0 ≤ i ∧ i < 8) (hj : 0 ≤ j ∧ j < 8) (e : a + i = b + j) : a = b ∧ i = j := by
  obtain ⟨k, _, _, rfl⟩ := ha
  obtain ⟨q, _, _, rfl⟩ := hb
  omega
theorem node_iff (hP : P.Fine) (a : Int) (h0 : -1000000 ≤ a) (h1 : a ≤ 1000000) : P.node a = true ↔ isNd P P.nodes a := by
  obtain ⟨⟨_, o1, o2, o3, o4, o5, o6⟩, f1, f2, f3⟩ := hP
  have e1 : w64 (a - P.frm) = a - P.frm := w64_in (by omega) (by omega)
  simp only [Pl.node, e1, Bool.and_eq_true, decide_eq_true_eq]
  constructor
  · rintro ⟨⟨h2, h3⟩, h4⟩
    have h5 : (8 : Int) ∣ a - P.frm := Int.dvd_of_tmod_eq_zero h3
    obtain ⟨k, hk⟩ := h5
    have e2 : (a - P.frm).tdiv 8 = k := by rw [hk, Int.mul_tdiv_cancel_left _ (by decide)]
    rw [e2, w64_in (by omega) (by omega)] at h4
    exact ⟨k, by omega, h4, by omega⟩
  · rintro ⟨k, h2, h3, rfl⟩
    have e3 : P.frm + 8 * k - P.frm = 8 * k := by omega
    rw [e3, Int.mul_tmod_right, Int.mul_tdiv_cancel_left _ (by decide), w64_in (by omega) (by omega)]
    exact ⟨⟨by omega, rfl⟩, h3⟩
end
def chn (m : Int → Int) : Int → List Int → Prop
  | p, [] => m p = 0
  | p, a :: F => m p = a ∧ chn m a F
theorem chn_eq {m m' : Int → Int} : ∀ {p : Int} {F : List Int}, m' p = m p → (∀ a ∈ F, m' a = m a) → chn m p F → chn m' p F
  | p, [], hp, _, h => by simp only [chn] at h ⊢; rw [hp]; exact h
  | p, a :: F, hp, hF, h => by
    simp only [chn] at h ⊢
    exact ⟨by rw [hp]; exact h.1, chn_eq (hF a (by simp)) (fun b hb => hF b (by simp [hb])) h.2⟩
/-- The pool: its used nodes `U`, their number `c`. -/
def PoolIs (P : Pl) (m : Int → Int) (U : Int → Prop) (c : Int) : Prop :=
  ∃ F h, 0 ≤ h ∧ h ≤ P.nodes ∧ m (P.root + 1) = h ∧ m (P.root + 2) = (F.length : Int) ∧ chn m P.root F ∧ F.Nodup ∧ (∀ a ∈ F, isNd P h a) ∧ (∀ b, U b ↔ isNd P h b ∧ b ∉ F) ∧ c = h - F.length ∧ 0 ≤ c
section
variable {P : Pl} {m m' : Int → Int} {U : Int → Prop} {c N : Int}
theorem PoolIs.eq (h : PoolIs P m U c) (h3 : m' P.root = m P.root) (h4 : m' (P.root + 1) = m (P.root + 1)) (h5 : m' (P.root + 2) = m (P.root + 2)) (hF : ∀ a, isNd P P.nodes a → ¬ U a → m' a = m a) : PoolIs P m' U c := by
  obtain ⟨F, h, e0, e1, e2, e3, e4, e5, e6, e7, e8, e9⟩ := h
  exact ⟨F, h, e0, e1, h4.trans e2, h5.trans e3, chn_eq h3 (fun a ha => hF a ((e6 a ha).mono e1) (fun hU => ((e7 a).1 hU).2 ha)) e4, e5, e6, e7, e8, e9⟩
theorem PoolIs.sub {U' : Int → Prop} (h : PoolIs P m U c) (hU : ∀ b, U b ↔ U' b) : PoolIs P m U' c := by
  obtain ⟨F, h, e0, e1, e2, e3, e4, e5, e6, e7, e8, e9⟩ := h
  exact ⟨F, h, e0, e1, e2, e3, e4, e5, e6, fun b => (hU b).symm.trans (e7 b), e8, e9⟩
theorem PoolIs.node (h : PoolIs P m U c) {a : Int} (ha : U a) : isNd P P.nodes a := by
  obtain ⟨F, h, e0, e1, e2, e3, e4, e5, e6, e7, e8, e9⟩ := h
  exact ((e7 a).1 ha).1.mono e1
theorem PoolIs.pos (h : PoolIs P m U c) : 0 ≤ c := by
  obtain ⟨F, h, e0, e1, e2, e3, e4, e5, e6, e7, e8, e9⟩ := h
  exact e9
theorem pool_take (hP : P.Fine) (hN : P.top ≤ N) (hp : PoolIs P m U c) (hc : c < P.nodes) :
    Pg.Ok N P.takeP m fun r m' => r.2 = 0 ∧ isNd P P.nodes r.1 ∧ ¬ U r.1 ∧ PoolIs P m' (fun b => U b ∨ b = r.1) (c + 1) ∧ (∀ x, x < P.root ∨ P.root + 2 < x → m' x = m x) := by
  obtain ⟨⟨_, o1, o2, o3, o4, o5, o6⟩, f1, f2, f3⟩ := id hP
  obtain ⟨F, h, e0, e1, e2, e3, e4, e5, e6, e7, e8, e9⟩ := hp
  have ht : P.top = P.frm + 8 * P.nodes := rfl
  unfold Pl.takeP
  refine Pg.Ok.get (by omega) (by omega) ?_
  cases F with
  | nil =>
    simp only [chn] at e4
    simp only [List.length_nil] at e8 e3
    rw [if_neg (by omega)]
    refine Pg.Ok.get (by omega) (by omega) ?_
    rw [if_neg (by omega)]
    refine Pg.Ok.put (by omega) (by omega) (Pg.Ok.pure ⟨rfl, ⟨h, e0, by omega, by rw [e2]⟩, fun hU => ?_, ?_, fun x hx => upd_ne (by omega)⟩)
    · dsimp only at hU
      obtain ⟨⟨k, h0, h1, h2⟩, _⟩ := (e7 _).1 hU
      omega
    · refine ⟨[], h + 1, by omega, by omega, by rw [upd_same, e2], by rw [upd_ne (by omega), e3]; simp, ?_, List.nodup_nil, by simp, fun b => ?_, by simp; omega, by omega⟩
      · simp only [chn]; rw [upd_ne (by omega), e4]
      · show (U b ∨ b = P.frm + 8 * m (P.root + 1)) ↔ _
        rw [e7, e2]
        simp only [List.not_mem_nil, not_false_eq_true, and_true]
        constructor
        · rintro (⟨k, h0, h1, h2⟩ | h0)
          · exact ⟨k, h0, by omega, h2⟩
          · exact ⟨h, e0, by omega, h0⟩
        · rintro ⟨k, h0, h1, h2⟩
          by_cases hk : k = h
          · subst hk; exact .inr h2
          · exact .inl ⟨k, h0, by omega, h2⟩
  | cons a F =>
    obtain ⟨c1, c2⟩ := e4
    have ha := e6 a (by simp)
    have haK := ha.mono e1
    have hal := haK.lo
    rw [if_pos (by omega), c1, if_pos ((node_iff hP a (by omega) (by omega)).2 haK)]
    refine Pg.Ok.get (by omega) (by omega) (Pg.Ok.put (by omega) (by omega) ?_)
    unfold Pl.addP
    rw [Pg.bind_assoc]
    refine Pg.Ok.get (by omega) (by omega) ?_
    rw [Pg.bind_assoc]
    refine Pg.Ok.put (by omega) (by omega) (Pg.Ok.pure ⟨rfl, haK, fun hU => ((e7 a).1 hU).2 (by simp), ?_, fun x hx => by rw [upd_ne (by omega), upd_ne (by omega)]⟩)
    have h5 : upd m P.root (m a) (P.root + 2) = m (P.root + 2) := upd_ne (by omega)
    have hl : ((a :: F).length : Int) = F.length + 1 := by simp
    have hnd := List.nodup_cons.1 e5
    refine ⟨F, h, e0, e1, ?_, ?_, ?_, hnd.2, fun b hb => e6 b (by simp [hb]), fun b => ?_, by rw [hl] at e8; omega, by omega⟩
    · rw [upd_ne (by omega), upd_ne (by omega), e2]
    · rw [upd_same, h5, e3, hl, w64_in (by omega) (by omega)]; omega
    · have key : ∀ (w : Int) x, x ≠ P.root → x ≠ P.root + 2 → upd (upd m P.root (m a)) (P.root + 2) w x = m x := fun w x h3 h5 => by rw [upd_ne h5, upd_ne h3]
      cases F with
      | nil =>
        simp only [chn] at c2 ⊢
        rw [upd_ne (by omega), upd_same, c2]
      | cons b F =>
        simp only [chn] at c2 ⊢
        refine ⟨by rw [upd_ne (by omega), upd_same, c2.1], chn_eq ?_ (fun x hx => ?_) c2.2⟩
        · have := (e6 b (by simp)).lo; exact key _ b (by omega) (by omega)
        · have := (e6 x (by simp [hx])).lo; exact key _ x (by omega) (by omega)
    · show (U b ∨ b = _) ↔ _
      rw [e7]
      constructor
      · rintro (⟨h1, h2⟩ | rfl)
        · exact ⟨h1, fun h3 => h2 (by simp [h3])⟩
        · exact ⟨ha, hnd.1⟩
      · rintro ⟨h1, h2⟩
        by_cases hb : b = a
        · exact .inr hb
        · exact .inl ⟨h1, by simp [hb, h2]⟩
theorem pool_full (hP : P.Fine) (hN : P.top ≤ N) (hp : PoolIs P m U c) (hc : P.nodes ≤ c) : Pg.Ok N P.takeP m fun r m' => r = (0, 9) ∧ m' = m := by
  obtain ⟨⟨_, o1, o2, o3, o4, o5, o6⟩, f1, f2, f3⟩ := id hP
  obtain ⟨F, h, e0, e1, e2, e3, e4, e5, e6, e7, e8, e9⟩ := hp
  have ht : P.top = P.frm + 8 * P.nodes := rfl
  have hF : F = [] := List.length_eq_zero_iff.1 (by omega)
  subst hF
  simp only [chn] at e4
  simp only [List.length_nil] at e8
  unfold Pl.takeP
  refine Pg.Ok.get (by omega) (by omega) ?_
  rw [if_neg (by omega)]
  refine Pg.Ok.get (by omega) (by omega) ?_
  rw [if_pos (by omega)]
  exact Pg.Ok.pure ⟨rfl, rfl⟩
theorem pool_give (hP : P.Fine) (hN : P.top ≤ N) (hp : PoolIs P m U c) (hc : 1 ≤ c) {a : Int} (ha : U a) :
    Pg.Ok N (P.giveP a) m fun r m' => r = 0 ∧ PoolIs P m' (fun b => U b ∧ b ≠ a) (c - 1) ∧ (∀ x, x < P.root ∨ P.root + 2 < x → x ≠ a → m' x = m x) := by
  obtain ⟨⟨_, o1, o2, o3, o4, o5, o6⟩, f1, f2, f3⟩ := id hP
  obtain ⟨F, h, e0, e1, e2, e3, e4, e5, e6, e7, e8, e9⟩ := hp
  have ht : P.top = P.frm + 8 * P.nodes := rfl
  obtain ⟨hN, hnF⟩ := (e7 a).1 ha
  have haK := hN.mono e1
  have hal := haK.lo
  unfold Pl.giveP
  rw [if_pos ((node_iff hP a (by omega) (by omega)).2 haK)]
  refine Pg.Ok.get (by omega) (by omega) (Pg.Ok.put (by omega) (by omega) (Pg.Ok.put (by omega) (by omega) ?_))
  unfold Pl.addP
  rw [Pg.bind_assoc]
  refine Pg.Ok.get (by omega) (by omega) ?_
  rw [Pg.bind_assoc]
  refine Pg.Ok.put (by omega) (by omega) (Pg.Ok.pure ?_)
  have h5 : upd (upd m a (m P.root)) P.root a (P.root + 2) = m (P.root + 2) := by rw [upd_ne (by omega), upd_ne (by omega)]
  have key : ∀ (w : Int) x, x ≠ P.root → x ≠ P.root + 2 → x ≠ a → upd (upd (upd m a (m P.root)) P.root a) (P.root + 2) w x = m x := fun w x h3 h5 ha => by rw [upd_ne h5, upd_ne h3, upd_ne ha]
  refine ⟨rfl, ⟨a :: F, h, e0, e1, ?_, ?_, ?_, List.nodup_cons.2 ⟨hnF, e5⟩, ?_, fun b => ?_, by simp; omega, by omega⟩, fun x hx hxa => key _ x (by omega) (by omega) hxa⟩
  · rw [key _ (P.root + 1) (by omega) (by omega) (by omega), e2]
  · rw [upd_same, h5, e3, w64_in (by omega) (by omega)]; simp
  · simp only [chn]
    have hka : ∀ w, upd (upd (upd m a (m P.root)) P.root a) (P.root + 2) w a = m P.root := fun w => by rw [upd_ne (by omega), upd_ne (by omega), upd_same]
    refine ⟨by rw [upd_ne (by omega), upd_same], ?_⟩
    cases F with
    | nil => simp only [chn] at e4 ⊢; rw [hka, e4]
    | cons b F =>
      simp only [chn] at e4 ⊢
      have hb := (e6 b (by simp)).lo
      refine ⟨(hka _).trans e4.1, chn_eq (key _ b (by omega) (by omega) (fun e => hnF (by simp [e]))) (fun x hx => ?_) e4.2⟩
      have := (e6 x (by simp [hx])).lo
      exact key _ x (by omega) (by omega) (fun e => hnF (by simp [← e, hx]))
  · intro b hb
    rcases List.mem_cons.1 hb with rfl | hb
    · exact hN
    · exact e6 b hb
  · show (U b ∧ b ≠ a) ↔ _
    rw [e7]
    simp only [List.mem_cons, not_or]
    constructor
    · rintro ⟨⟨h1, h2⟩, h3⟩; exact ⟨h1, h3, h2⟩
    · rintro ⟨h1, h3, h2⟩; exact ⟨⟨h1, h2⟩, h3⟩
theorem pool_left (hP : P.Fine) (hN : P.top ≤ N) (hp : PoolIs P m U c) : Pg.Ok N P.leftP m fun r m' => r = P.nodes - c ∧ m' = m := by
  obtain ⟨⟨_, o1, o2, o3, o4, o5, o6⟩, f1, f2, f3⟩ := id hP
  obtain ⟨F, h, e0, e1, e2, e3, e4, e5, e6, e7, e8, e9⟩ := hp
  have ht : P.top = P.frm + 8 * P.nodes := rfl
  unfold Pl.leftP
  refine Pg.Ok.get (by omega) (by omega) (Pg.Ok.get (by omega) (by omega) (Pg.Ok.pure ⟨?_, rfl⟩))
  rw [e3, e2, w64_in (x := (F.length : Int) + P.nodes) (by omega) (by omega), w64_in (by omega) (by omega)]
  omega
end
end Sim

/- The forest in memory. -/
namespace Sim
open Go Go.Vc
def f0 (K : Int) : Fo := ⟨⟨1, 64, K⟩, 16⟩
theorem f0_pool {K : Int} (hK : 0 ≤ K ∧ K ≤ 38) : (f0 K).pool.Ok := by
  refine ⟨?_, ?_⟩
  · unfold Pl.chk f0
    dsimp only
    rw [if_neg (by omega), if_neg (by omega), if_neg (by omega)]
  · unfold f0; dsimp only; omega
theorem f0_ok {K : Int} (hK : 0 ≤ K ∧ K ≤ 38) : (f0 K).Ok := ⟨f0_pool hK, by unfold f0; dsimp only; omega⟩
theorem f0_fine {K : Int} (hK : 0 ≤ K ∧ K ≤ 38) : (f0 K).pool.Fine := ⟨f0_pool hK, by unfold f0; dsimp only; omega, by unfold f0; dsimp only; omega, by unfold f0; dsimp only; omega⟩
theorem f0_top {K : Int} (hK : 0 ≤ K ∧ K ≤ 38) : (f0 K).pool.top ≤ 368 := by unfold Pl.top f0; dsimp only; omega
def Vx (nc tc i : Nat) : Prop := i < nc ∨ (100 ≤ i ∧ i < 100 + tc)
def nC (k : Nat) : Nat := (k + 1) / 2
def tC (k : Nat) : Nat := ((k + 1) / 2 + 7) / 8
def cN (k : Nat) : Nat := (k + 1) / 2 + ((k + 1) / 2 + 7) / 8
def el (ad : Nat → Int) (x : Int) : Int := ad ((x - 1) / 2).toNat + (x - 1) % 2 * 4
def Ah (m : Int → Int) (ad : Nat → Int) : Jn → Prop
  | [] => True
  | (b, _) :: J => m (el ad b + 2) = lastJ J ∧ Ah m ad J
structure Mm (K : Int) (m : Int → Int) (k nc tc : Nat) (J : Jn) (ad : Nat → Int) : Prop where
  le : k ≤ 64
  le1 : k ≤ 2 * nc
  le2 : nc ≤ 8 * tc
  le3 : tc ≤ 4
  vd : Vd k J
  many : m 16 = k
  sets : m 17 = k - J.length
  last : m 18 = lastJ J
  nodes : m 23 = (nc + tc : Nat)
  inj : ∀ i j, Vx nc tc i → Vx nc tc j → ad i = ad j → i = j
  pool : PoolIs (f0 K).pool m (fun b => ∃ i, Vx nc tc i ∧ b = ad i) (nc + tc : Nat)
  tab : ∀ j : Nat, j < tc → m (19 + j) = ad (100 + j)
  nod : ∀ q : Nat, q < nc → m (ad (100 + q / 8) + (q % 8 : Nat)) = ad q
  els : ∀ x : Int, 1 ≤ x → x ≤ k → m (el ad x) = par J x ∧ m (el ad x + 1) = sz J x
  ahead : Ah m ad J
section
variable {K : Int} {m : Int → Int} {k nc tc : Nat} {J : Jn} {ad : Nat → Int}
theorem Mm.isn (h : Mm K m k nc tc J ad) {i : Nat} (hi : Vx nc tc i) : isNd (f0 K).pool K (ad i) := h.pool.node ⟨i, hi, rfl⟩
theorem nd_bd {a : Int} (hK : 0 ≤ K ∧ K ≤ 38) (h : isNd (f0 K).pool K a) : 64 ≤ a ∧ a + 8 ≤ 368 := by
  have := h.lo
  unfold f0 at this
  dsimp only at this
  omega
theorem node_yes (hK : 0 ≤ K ∧ K ≤ 38) {a : Int} (h : isNd (f0 K).pool K a) : Fo.nodeN a = a ∧ (f0 K).nodeB a = true := by
  have h1 := nd_bd hK h
  unfold Fo.nodeN Fo.nodeB
  rw [if_neg (by omega), if_neg (by omega)]
  exact ⟨rfl, (node_iff (f0_fine hK) a (by omega) (by omega)).2 h⟩
/-- The place of an element's node. -/
theorem elq {x : Int} (h1 : 1 ≤ x) : ∃ q : Nat, (x - 1) / 2 = q ∧ ((x - 1) / 2).toNat = q ∧ (x - 1) / 2 / 8 = ((q / 8 : Nat) : Int) ∧ (x - 1) / 2 % 8 = ((q % 8 : Nat) : Int) := by
  refine ⟨((x - 1) / 2).toNat, by omega, rfl, by omega, by omega⟩
theorem el_lo (h : Mm K m k nc tc J ad) {x : Int} (h1 : 1 ≤ x) (h2 : x ≤ 2 * nc) : ∃ q : Nat, q < nc ∧ el ad x = ad q + (x - 1) % 2 * 4 ∧ isNd (f0 K).pool K (ad q) ∧ (x - 1) / 2 = q := by
  obtain ⟨q, e1, e2, _, _⟩ := elq h1
  refine ⟨q, by omega, by unfold el; rw [e2], h.isn (.inl (by omega)), e1⟩
theorem el_inj (h : Mm K m k nc tc J ad) {x y : Int} (h1 : 1 ≤ x) (h2 : x ≤ 2 * nc) (g1 : 1 ≤ y) (g2 : y ≤ 2 * nc) {c d : Int} (hc : 0 ≤ c ∧ c < 4) (hd : 0 ≤ d ∧ d < 4) (e : el ad x + c = el ad y + d) : x = y ∧ c = d := by
  obtain ⟨q, q1, q2, q3, q4⟩ := el_lo h h1 h2
  obtain ⟨p, p1, p2, p3, p4⟩ := el_lo h g1 g2
  rw [q2, p2] at e
  obtain ⟨e1, e2⟩ := nd_inj q3 p3 (i := (x - 1) % 2 * 4 + c) (j := (y - 1) % 2 * 4 + d) (by omega) (by omega) (by omega)
  have := h.inj q p (.inl q1) (.inl p1) e1
  omega
theorem cell_ok (hK : 0 ≤ K ∧ K ≤ 38) (h : Mm K m k nc tc J ad) {x : Int} {q : Nat} (hq : (x - 1) / 2 = q) (hq2 : q < 8 * tc) :
    Pg.Ok 368 ((f0 K).cell x) m fun r m' => r = (ad (100 + q / 8) + ((q % 8 : Nat) : Int), true) ∧ m' = m := by
  have e3 : (x - 1) / 2 / 8 = ((q / 8 : Nat) : Int) := by omega
  have e4 : (x - 1) / 2 % 8 = ((q % 8 : Nat) : Int) := by omega
  have hle1 := h.le1
  have hle2 := h.le2
  have hle3 := h.le3
  have ht := h.tab (q / 8) (by omega)
  obtain ⟨n1, n2⟩ := node_yes hK (h.isn (i := 100 + q / 8) (.inr ⟨by omega, by omega⟩))
  unfold Fo.cell
  rw [e3, e4]
  have ea : (f0 K).root + 3 + ((q / 8 : Nat) : Int) = 19 + ((q / 8 : Nat) : Int) := by unfold f0; dsimp only; omega
  rw [ea]
  refine Pg.Ok.get (by omega) (by omega) (Pg.Ok.pure ?_)
  rw [ht, n1, n2]
  exact ⟨rfl, rfl⟩
theorem place_ok (hK : 0 ≤ K ∧ K ≤ 38) (h : Mm K m k nc tc J ad) {x : Int} (h1 : 1 ≤ x) (h2 : x ≤ 2 * nc) :
    Pg.Ok 368 ((f0 K).place x) m fun r m' => r = (el ad x, true) ∧ m' = m := by
  obtain ⟨q, q1, q2, q3, q4⟩ := el_lo h h1 h2
  have hle1 := h.le1
  have hle2 := h.le2
  have hle3 := h.le3
  have hn := h.nod q q1
  have hb := nd_bd hK (h.isn (i := 100 + q / 8) (.inr ⟨by omega, by omega⟩))
  obtain ⟨n1, n2⟩ := node_yes hK q3
  unfold Fo.place
  refine Pg.Ok.bindE (cell_ok hK h q4 (by omega)) ?_
  rw [if_pos rfl]
  refine Pg.Ok.get (by dsimp only; omega) (by dsimp only; omega) (Pg.Ok.pure ?_)
  dsimp only
  rw [hn, n1, n2, q2]
  exact ⟨rfl, rfl⟩
theorem el_bd (hK : 0 ≤ K ∧ K ≤ 38) (h : Mm K m k nc tc J ad) {x : Int} (h1 : 1 ≤ x) (h2 : x ≤ 2 * nc) : 64 ≤ el ad x ∧ el ad x + 4 ≤ 368 := by
  obtain ⟨q, q1, q2, q3, q4⟩ := el_lo h h1 h2
  have := nd_bd hK q3
  rw [q2]; omega
theorem many_ok (h : Mm K m k nc tc J ad) : Pg.Ok 368 (f0 K).many m fun r m' => r = ((k : Int), true) ∧ m' = m := by
  have hle := h.le
  unfold Fo.many
  refine Pg.Ok.get (by unfold f0; dsimp only; omega) (by unfold f0; dsimp only; omega) (Pg.Ok.pure ⟨?_, rfl⟩)
  rw [show (f0 K).root = 16 from rfl, h.many]
  have e1 : decide ((0 : Int) ≤ k) = true := decide_eq_true (by omega)
  have e2 : decide ((k : Int) ≤ 64) = true := decide_eq_true (by omega)
  rw [e1, e2]; rfl
theorem check_ok' (h : Mm K m k nc tc J ad) (x : Int) : Pg.Ok 368 ((f0 K).check x) m fun r m' => r = (if 1 ≤ x ∧ x ≤ k then 0 else 10) ∧ m' = m := by
  unfold Fo.check
  refine Pg.Ok.ite (fun hx => Pg.Ok.pure ⟨?_, rfl⟩) (fun hx => ?_)
  · rw [if_neg (by omega)]
  · refine Pg.Ok.get (by unfold f0; dsimp only; omega) (by unfold f0; dsimp only; omega) ?_
    rw [show (f0 K).root = 16 from rfl, h.many]
    refine Pg.Ok.ite (fun h2 => Pg.Ok.pure ⟨?_, rfl⟩) (fun h2 => Pg.Ok.pure ⟨?_, rfl⟩)
    · rw [if_neg (by omega)]
    · rw [if_pos (by omega)]
theorem check_yes (h : Mm K m k nc tc J ad) {x : Int} (hx : 1 ≤ x ∧ x ≤ k) : Pg.Ok 368 ((f0 K).check x) m fun r m' => r = 0 ∧ m' = m := by
  have := check_ok' h x
  rw [if_pos hx] at this; exact this
theorem check_no (h : Mm K m k nc tc J ad) {x : Int} (hx : ¬ (1 ≤ x ∧ x ≤ k)) : Pg.Ok 368 ((f0 K).check x) m fun r m' => r = 10 ∧ m' = m := by
  have := check_ok' h x
  rw [if_neg hx] at this; exact this
theorem climb_ok (hK : 0 ≤ K ∧ K ≤ 38) (h : Mm K m k nc tc J ad) : ∀ (f : Nat) (x : Int), 1 ≤ x → x ≤ k → dep J x < f → Pg.Ok 368 ((f0 K).climb k f x) m fun r m' => r = (rep J x, 0) ∧ m' = m
  | 0, _, _, _, hd => absurd hd (Nat.not_lt_zero _)
  | f + 1, x, h1, h2, hd => by
    have hb := el_bd hK h h1 (by have := h.le1; omega)
    unfold Fo.climb
    refine Pg.Ok.bindE (place_ok hK h h1 (by have := h.le1; omega)) ?_
    rw [if_pos rfl]
    refine Pg.Ok.get (by dsimp only; omega) (by dsimp only; omega) ?_
    dsimp only
    rw [(h.els x h1 h2).1]
    refine Pg.Ok.ite (fun h0 => Pg.Ok.pure ⟨?_, rfl⟩) (fun h0 => ?_)
    · rw [root_rep h.vd x h0]
    · obtain ⟨e1, e2⟩ := up_one h.vd x h0
      rcases par_in h.vd x with h3 | ⟨h3, h4⟩
      · exact absurd h3 h0
      · rw [if_neg (by omega), ← e1]
        exact climb_ok hK h f (par J x) h3 h4 (by omega)
theorem find_ok (hK : 0 ≤ K ∧ K ≤ 38) (h : Mm K m k nc tc J ad) {x : Int} (h1 : 1 ≤ x) (h2 : x ≤ k) : Pg.Ok 368 ((f0 K).find x) m fun r m' => r = (rep J x, 0) ∧ m' = m := by
  have hd := dep_le h.le h.vd h1 h2
  unfold Fo.find
  refine Pg.Ok.bindE (check_yes h ⟨h1, h2⟩) ?_
  rw [if_neg (by decide)]
  refine Pg.Ok.bindE (many_ok h) ?_
  rw [if_pos rfl]
  exact climb_ok hK h 65 x h1 h2 (by omega)
theorem find_none (h : Mm K m k nc tc J ad) {x : Int} (h1 : ¬ (1 ≤ x ∧ x ≤ k)) : Pg.Ok 368 ((f0 K).find x) m fun r m' => r = (0, 10) ∧ m' = m := by
  unfold Fo.find
  refine Pg.Ok.bindE (check_no h h1) ?_
  rw [if_pos (by decide)]
  exact Pg.Ok.pure ⟨rfl, rfl⟩
theorem both_ok (hK : 0 ≤ K ∧ K ≤ 38) (h : Mm K m k nc tc J ad) {x y : Int} (h1 : 1 ≤ x ∧ x ≤ k) (h2 : 1 ≤ y ∧ y ≤ k) : Pg.Ok 368 ((f0 K).both x y) m fun r m' => r = ((rep J x, rep J y), 0) ∧ m' = m := by
  unfold Fo.both
  refine Pg.Ok.bindE (check_yes h h1) ?_
  rw [if_neg (by decide)]
  refine Pg.Ok.bindE (check_yes h h2) ?_
  rw [if_neg (by decide)]
  refine Pg.Ok.bindE (find_ok hK h h1.1 h1.2) ?_
  rw [if_neg (fun h => h rfl)]
  refine Pg.Ok.bindE (find_ok hK h h2.1 h2.2) ?_
  rw [if_neg (fun h => h rfl)]
  exact Pg.Ok.pure ⟨rfl, rfl⟩
theorem both_none (h : Mm K m k nc tc J ad) {x y : Int} (h1 : ¬ ((1 ≤ x ∧ x ≤ k) ∧ (1 ≤ y ∧ y ≤ k))) : Pg.Ok 368 ((f0 K).both x y) m fun r m' => r = ((0, 0), 10) ∧ m' = m := by
  unfold Fo.both
  by_cases hx : 1 ≤ x ∧ x ≤ k
  · refine Pg.Ok.bindE (check_yes h hx) ?_
    rw [if_neg (by decide)]
    refine Pg.Ok.bindE (check_no h (fun hy => h1 ⟨hx, hy⟩)) ?_
    rw [if_pos (by decide)]
    exact Pg.Ok.pure ⟨rfl, rfl⟩
  · refine Pg.Ok.bindE (check_no h hx) ?_
    rw [if_pos (by decide)]
    exact Pg.Ok.pure ⟨rfl, rfl⟩
theorem same_ok (hK : 0 ≤ K ∧ K ≤ 38) (h : Mm K m k nc tc J ad) {x y : Int} (h1 : 1 ≤ x ∧ x ≤ k) (h2 : 1 ≤ y ∧ y ≤ k) : Pg.Ok 368 ((f0 K).same x y) m fun r m' => r = (decide (rep J x = rep J y), 0) ∧ m' = m := by
  unfold Fo.same
  refine Pg.Ok.bindE (both_ok hK h h1 h2) (Pg.Ok.pure ⟨?_, rfl⟩)
  simp
theorem same_none (h : Mm K m k nc tc J ad) {x y : Int} (h1 : ¬ ((1 ≤ x ∧ x ≤ k) ∧ (1 ≤ y ∧ y ≤ k))) : Pg.Ok 368 ((f0 K).same x y) m fun r m' => r = (false, 10) ∧ m' = m := by
  unfold Fo.same
  refine Pg.Ok.bindE (both_none h h1) (Pg.Ok.pure ⟨?_, rfl⟩)
  simp
theorem size_ok (hK : 0 ≤ K ∧ K ≤ 38) (h : Mm K m k nc tc J ad) {x : Int} (h1 : 1 ≤ x) (h2 : x ≤ k) : Pg.Ok 368 ((f0 K).sizeOf x) m fun r m' => r = (sz J (rep J x), 0) ∧ m' = m := by
  obtain ⟨g1, g2⟩ := rep_in h.vd x h1 h2
  have hb := el_bd hK h g1 (by have := h.le1; omega)
  unfold Fo.sizeOf
  refine Pg.Ok.bindE (find_ok hK h h1 h2) ?_
  rw [if_neg (fun h => h rfl)]
  refine Pg.Ok.bindE (place_ok hK h g1 (by have := h.le1; omega)) ?_
  rw [if_pos rfl]
  refine Pg.Ok.get (by dsimp only; omega) (by dsimp only; omega) (Pg.Ok.pure ⟨?_, rfl⟩)
  dsimp only
  rw [(h.els _ g1 g2).2]
theorem size_none (h : Mm K m k nc tc J ad) {x : Int} (h1 : ¬ (1 ≤ x ∧ x ≤ k)) : Pg.Ok 368 ((f0 K).sizeOf x) m fun r m' => r = (0, 10) ∧ m' = m := by
  unfold Fo.sizeOf
  refine Pg.Ok.bindE (find_none h h1) ?_
  rw [if_pos (by decide)]
  exact Pg.Ok.pure ⟨rfl, rfl⟩
end
end Sim

/- The forest in memory: Union, Undo. -/
namespace Sim
open Go Go.Vc
variable {K : Int} {m : Int → Int} {k nc tc : Nat} {J : Jn} {ad : Nat → Int}
theorem par_mem {n : Int} : ∀ {J : Jn}, Vd n J → ∀ p ∈ J, par J p.1 ≠ 0 ∧ 1 ≤ p.1 ∧ p.1 ≤ n
  | [], _, p, h => by cases h
  | (b, a) :: J, ⟨h1, h2, h3, h4, h5, h6, h7⟩, p, hp => by
    rcases List.mem_cons.1 hp with rfl | hp
    · simp only [par, if_true]; exact ⟨by omega, h6⟩
    · obtain ⟨g1, g2⟩ := par_mem h1 p hp
      simp only [par]
      refine ⟨?_, g2⟩
      split
      · omega
      · exact g1
theorem Ah.eq {m' : Int → Int} : ∀ {J : Jn}, (∀ p ∈ J, m' (el ad p.1 + 2) = m (el ad p.1 + 2)) → Ah m ad J → Ah m' ad J
  | [], _, _ => trivial
  | (b, a) :: J, h, ⟨h1, h2⟩ => ⟨(h (b, a) (by simp)).trans h1, Ah.eq (fun p hp => h p (by simp [hp])) h2⟩
/-- What is left as it was outside of the elements' cells. -/
theorem Mm.frame (h : Mm K m k nc tc J ad) {m' : Int → Int} (h1 : ∀ z, z < 64 → z ≠ 17 → z ≠ 18 → m' z = m z) (h2 : ∀ i c : Nat, Vx nc tc i → 100 ≤ i → c < 8 → m' (ad i + c) = m (ad i + c)) (h3 : ∀ a, isNd (f0 K).pool K a → (∀ i, Vx nc tc i → a ≠ ad i) → m' a = m a) :
    m' 16 = k ∧ m' 23 = (nc + tc : Nat) ∧ PoolIs (f0 K).pool m' (fun b => ∃ i, Vx nc tc i ∧ b = ad i) (nc + tc : Nat) ∧ (∀ j : Nat, j < tc → m' (19 + j) = ad (100 + j)) ∧ (∀ q : Nat, q < nc → m' (ad (100 + q / 8) + (q % 8 : Nat)) = ad q) := by
  have l3 := h.le3
  have l2 := h.le2
  refine ⟨(h1 16 (by decide) (by decide) (by decide)).trans h.many, (h1 23 (by decide) (by decide) (by decide)).trans h.nodes, h.pool.eq ?_ ?_ ?_ ?_, fun j hj => ?_, fun q hq => ?_⟩
  · exact h1 1 (by decide) (by decide) (by decide)
  · exact h1 2 (by decide) (by decide) (by decide)
  · exact h1 3 (by decide) (by decide) (by decide)
  · intro a ha hn
    exact h3 a ha (fun i hi e => hn ⟨i, hi, e⟩)
  · rw [h1 _ (by omega) (by omega) (by omega)]; exact h.tab j hj
  · rw [h2 _ _ (.inr ⟨by omega, by omega⟩) (by omega) (by omega)]; exact h.nod q hq
/-- A cell of an element is no cell of a table, no root, no free node. -/
theorem el_tab (h : Mm K m k nc tc J ad) {x : Int} (h1 : 1 ≤ x) (h2 : x ≤ 2 * nc) {i c : Nat} (hi : Vx nc tc i) (hi2 : 100 ≤ i) (hc : c < 8) {d : Int} (hd : 0 ≤ d ∧ d < 4) : ad i + c ≠ el ad x + d := by
  intro e
  obtain ⟨q, q1, q2, q3, q4⟩ := el_lo h h1 h2
  rw [q2] at e
  obtain ⟨e1, e2⟩ := nd_inj (h.isn hi) q3 (i := c) (j := (x - 1) % 2 * 4 + d) (by omega) (by omega) (by omega)
  have := h.inj i q hi (.inl q1) e1
  have := h.le2
  have := h.le3
  omega
theorem el_free (h : Mm K m k nc tc J ad) {x : Int} (h1 : 1 ≤ x) (h2 : x ≤ 2 * nc) {a : Int} (ha : isNd (f0 K).pool K a) (hn : ∀ i, Vx nc tc i → a ≠ ad i) {d : Int} (hd : 0 ≤ d ∧ d < 4) : a ≠ el ad x + d := by
  intro e
  obtain ⟨q, q1, q2, q3, q4⟩ := el_lo h h1 h2
  rw [q2] at e
  obtain ⟨e1, e2⟩ := nd_inj ha q3 (i := 0) (j := (x - 1) % 2 * 4 + d) (by omega) (by omega) (by omega)
  exact hn q (.inl q1) e1
theorem hang_ok (hK : 0 ≤ K ∧ K ≤ 38) (h : Mm K m k nc tc J ad) {b a : Int} (hb : 1 ≤ b ∧ b ≤ k) (ha : 1 ≤ a ∧ a ≤ k) (rb : par J b = 0) (ra : par J a = 0) (hne : a ≠ b) (hs : sz J b < sz J a ∨ (sz J b = sz J a ∧ a < b)) :
    Pg.Ok 368 ((f0 K).hang b (el ad b) a (el ad a) (w64 (sz J a + sz J b))) m fun _ m' => Mm K m' k nc tc ((b, a) :: J) ad := by
  have hl := h.le
  have l1 := h.le1
  have bb := el_bd hK h hb.1 (by omega)
  have ba := el_bd hK h ha.1 (by omega)
  have hJ := joins_lt h.vd
  have sa := sz_le h.vd ha.1 ha.2
  have sb := sz_le h.vd hb.1 hb.2
  rw [root_rep h.vd a ra] at sa
  rw [root_rep h.vd b rb] at sb
  have pa := sz_pos J a
  have pb := sz_pos J b
  have hinj := fun {x y : Int} (h1 : 1 ≤ x ∧ x ≤ k) (h2 : 1 ≤ y ∧ y ≤ k) {c d : Int} (hc : 0 ≤ c ∧ c < 4) (hd : 0 ≤ d ∧ d < 4) => el_inj h h1.1 (show x ≤ 2 * nc by omega) h2.1 (show y ≤ 2 * nc by omega) hc hd
  unfold Fo.hang Fo.add
  simp only [Pg.bind_assoc, Pg.pure_bind]
  refine Pg.Ok.put (by omega) (by omega) ?_
  rw [show (f0 K).root + 2 = 18 from rfl, show (f0 K).root + 1 = 17 from rfl]
  refine Pg.Ok.get (by decide) (by decide) (Pg.Ok.put (by omega) (by omega) (Pg.Ok.put (by omega) (by omega) (Pg.Ok.put (by decide) (by decide) (Pg.Ok.get (by decide) (by decide) (Pg.Ok.put (by decide) (by decide) (Pg.Ok.pure ?_))))))
  have e18 : upd m (el ad b) a 18 = lastJ J := by rw [upd_ne (by omega)]; exact h.last
  rw [e18]
  have e17 : upd (upd (upd (upd m (el ad b) a) (el ad b + 2) (lastJ J)) (el ad a + 1) (w64 (sz J a + sz J b))) 18 b 17 = k - J.length := by
    rw [upd_ne (by decide), upd_ne (by omega), upd_ne (by omega), upd_ne (by omega)]; exact h.sets
  rw [e17, w64_in (by omega) (by omega), w64_in (by omega) (by omega)]
  generalize hm : upd (upd (upd (upd (upd m (el ad b) a) (el ad b + 2) (lastJ J)) (el ad a + 1) (sz J a + sz J b)) 18 b) 17 ((k : Int) - J.length + -1) = m'
  have key : ∀ z, z ≠ el ad b → z ≠ el ad b + 2 → z ≠ el ad a + 1 → z ≠ 18 → z ≠ 17 → m' z = m z := fun z z1 z2 z3 z4 z5 => by
    rw [← hm, upd_ne z5, upd_ne z4, upd_ne z3, upd_ne z2, upd_ne z1]
  have k1 : m' (el ad b) = a := by
    rw [← hm, upd_ne (by omega), upd_ne (by omega), upd_ne (fun e => ?_), upd_ne (by omega), upd_same]
    have := hinj hb ha (c := 0) (d := 1) (by decide) (by decide) (by omega); omega
  have k2 : m' (el ad b + 2) = lastJ J := by
    rw [← hm, upd_ne (by omega), upd_ne (by omega), upd_ne (fun e => ?_), upd_same]
    have := hinj hb ha (c := 2) (d := 1) (by decide) (by decide) e; omega
  have k3 : m' (el ad a + 1) = sz J a + sz J b := by rw [← hm, upd_ne (by omega), upd_ne (by omega), upd_same]
  have k4 : m' 18 = b := by rw [← hm, upd_ne (by decide), upd_same]
  have k5 : m' 17 = (k : Int) - J.length + -1 := by rw [← hm, upd_same]
  obtain ⟨f1, f2, f3, f4, f5⟩ := h.frame (m' := m') (fun z z1 z2 z3 => key z (by omega) (by omega) (by omega) z3 z2)
    (fun i c hi hi2 hc => by
      have hn := nd_bd hK (h.isn hi)
      refine key _ ?_ ?_ ?_ (by omega) (by omega)
      · have := el_tab h hb.1 (show b ≤ 2 * nc by omega) hi hi2 hc (d := 0) (by decide); omega
      · exact el_tab h hb.1 (by omega) hi hi2 hc (by decide)
      · exact el_tab h ha.1 (by omega) hi hi2 hc (by decide))
    (fun z hz hn => by
      have hn2 := nd_bd hK hz
      refine key _ ?_ ?_ ?_ (by omega) (by omega)
      · have := el_free h hb.1 (show b ≤ 2 * nc by omega) hz hn (d := 0) (by decide); omega
      · exact el_free h hb.1 (by omega) hz hn (by decide)
      · exact el_free h ha.1 (by omega) hz hn (by decide))
  refine ⟨hl, h.le1, h.le2, h.le3, ⟨h.vd, ra, rb, hne, ha, hb, hs⟩, f1, ?_, k4, f2, h.inj, f3, f4, f5, fun x x1 x2 => ?_, ⟨k2, h.ahead.eq fun p hp => ?_⟩⟩
  · rw [k5]; simp only [List.length_cons]; omega
  · obtain ⟨g1, g2⟩ := h.els x x1 x2
    simp only [par, sz]
    constructor
    · by_cases e : x = b
      · subst e; rw [if_pos rfl]; exact k1
      · rw [if_neg e, ← g1]
        have bx := el_bd hK h x1 (show x ≤ 2 * nc by omega)
        refine key _ (fun e2 => e ?_) (fun e2 => ?_) (fun e2 => ?_) (by omega) (by omega)
        · exact (hinj ⟨x1, x2⟩ hb (c := 0) (d := 0) (by decide) (by decide) (by omega)).1
        · have := hinj ⟨x1, x2⟩ hb (c := 0) (d := 2) (by decide) (by decide) (by omega); omega
        · have := hinj ⟨x1, x2⟩ ha (c := 0) (d := 1) (by decide) (by decide) (by omega); omega
    · by_cases e : x = a
      · subst e; rw [if_pos rfl]; exact k3
      · rw [if_neg e, ← g2]
        have bx := el_bd hK h x1 (show x ≤ 2 * nc by omega)
        refine key _ (fun e2 => ?_) (fun e2 => ?_) (fun e2 => e ?_) (by omega) (by omega)
        · have := hinj ⟨x1, x2⟩ hb (c := 1) (d := 0) (by decide) (by decide) (by omega); omega
        · have := hinj ⟨x1, x2⟩ hb (c := 1) (d := 2) (by decide) (by decide) e2; omega
        · exact (hinj ⟨x1, x2⟩ ha (c := 1) (d := 1) (by decide) (by decide) e2).1
  · obtain ⟨p1, p2, p3⟩ := par_mem h.vd p hp
    have bx := el_bd hK h p2 (show p.1 ≤ 2 * nc by omega)
    have hpb : p.1 ≠ b := fun e => p1 (e ▸ rb)
    refine key _ (fun e2 => ?_) (fun e2 => hpb ?_) (fun e2 => ?_) (by omega) (by omega)
    · have := hinj ⟨p2, p3⟩ hb (c := 2) (d := 0) (by decide) (by decide) (by omega); omega
    · exact (hinj ⟨p2, p3⟩ hb (c := 2) (d := 2) (by decide) (by decide) e2).1
    · have := hinj ⟨p2, p3⟩ ha (c := 2) (d := 1) (by decide) (by decide) e2; omega
/-- The join of two roots: which comes below which. -/
def lowHigh (J : Jn) (p q : Int) : Int × Int := if sz J q < sz J p ∨ (sz J q = sz J p ∧ p < q) then (q, p) else (p, q)
theorem union_same (hK : 0 ≤ K ∧ K ≤ 38) (h : Mm K m k nc tc J ad) {x y : Int} (h1 : 1 ≤ x ∧ x ≤ k) (h2 : 1 ≤ y ∧ y ≤ k) (he : rep J x = rep J y) : Pg.Ok 368 ((f0 K).union x y) m fun r m' => r = (false, 0) ∧ m' = m := by
  unfold Fo.union
  refine Pg.Ok.bindE (both_ok hK h h1 h2) ?_
  rw [if_pos (.inr he)]
  exact Pg.Ok.pure ⟨rfl, rfl⟩
theorem union_none (h : Mm K m k nc tc J ad) {x y : Int} (h1 : ¬ ((1 ≤ x ∧ x ≤ k) ∧ (1 ≤ y ∧ y ≤ k))) : Pg.Ok 368 ((f0 K).union x y) m fun r m' => r = (false, 10) ∧ m' = m := by
  unfold Fo.union
  refine Pg.Ok.bindE (both_none h h1) ?_
  rw [if_pos (.inl (by decide))]
  exact Pg.Ok.pure ⟨rfl, rfl⟩
theorem lowHigh_ok {J : Jn} {p q : Int} (h : Vd k J) (hp : 1 ≤ p ∧ p ≤ k) (hq : 1 ≤ q ∧ q ≤ k) (rp : par J p = 0) (rq : par J q = 0) (hne : p ≠ q) : Vd k (lowHigh J p q :: J) := by
  unfold lowHigh
  split
  · rename_i hc
    exact ⟨h, rp, rq, hne, hp, hq, hc⟩
  · rename_i hc
    exact ⟨h, rq, rp, Ne.symm hne, hq, hp, by omega⟩
theorem union_join (hK : 0 ≤ K ∧ K ≤ 38) (h : Mm K m k nc tc J ad) {x y : Int} (h1 : 1 ≤ x ∧ x ≤ k) (h2 : 1 ≤ y ∧ y ≤ k) (he : rep J x ≠ rep J y) : Pg.Ok 368 ((f0 K).union x y) m fun r m' => r = (true, 0) ∧ Mm K m' k nc tc (lowHigh J (rep J x) (rep J y) :: J) ad := by
  have px := rep_in h.vd x h1.1 h1.2
  have py := rep_in h.vd y h2.1 h2.2
  have rx := rep_root h.vd x
  have ry := rep_root h.vd y
  have l1 := h.le1
  unfold Fo.union
  refine Pg.Ok.bindE (both_ok hK h h1 h2) ?_
  dsimp only
  generalize rep J x = p at *
  generalize rep J y = q at *
  rw [if_neg (by rintro (h | h); exact h rfl; exact he h)]
  have bp := el_bd hK h px.1 (show p ≤ 2 * nc by omega)
  have bq := el_bd hK h py.1 (show q ≤ 2 * nc by omega)
  unfold Fo.join
  refine Pg.Ok.bindE (place_ok hK h px.1 (by omega)) ?_
  rw [if_pos rfl]
  refine Pg.Ok.get (by dsimp only; omega) (by dsimp only; omega) ?_
  refine Pg.Ok.bindE (place_ok hK h py.1 (by omega)) ?_
  rw [if_pos rfl]
  refine Pg.Ok.get (by dsimp only; omega) (by dsimp only; omega) ?_
  dsimp only
  rw [(h.els p px.1 px.2).2, (h.els q py.1 py.2).2]
  unfold lowHigh
  by_cases hc : sz J q < sz J p ∨ (sz J q = sz J p ∧ p < q)
  · rw [if_pos hc, if_pos hc]
    refine Pg.Ok.bind _ (hang_ok hK h py px ry rx he hc) fun _ m' hm => Pg.Ok.pure ⟨rfl, hm⟩
  · rw [if_neg hc, if_neg hc, Int.add_comm (sz J p) (sz J q)]
    refine Pg.Ok.bind _ (hang_ok hK h px py rx ry (Ne.symm he) (by omega)) fun _ m' hm => Pg.Ok.pure ⟨rfl, hm⟩
theorem undo_none (h : Mm K m k nc tc [] ad) : Pg.Ok 368 (f0 K).undo m fun r m' => r = (false, 0) ∧ m' = m := by
  unfold Fo.undo
  rw [show (f0 K).root + 2 = 18 from rfl]
  refine Pg.Ok.get (by decide) (by decide) ?_
  rw [h.last, if_pos (show lastJ [] = 0 from rfl)]
  exact Pg.Ok.pure ⟨rfl, rfl⟩
theorem undo_ok (hK : 0 ≤ K ∧ K ≤ 38) {b a : Int} (h : Mm K m k nc tc ((b, a) :: J) ad) : Pg.Ok 368 (f0 K).undo m fun r m' => r = (true, 0) ∧ Mm K m' k nc tc J ad := by
  obtain ⟨v1, ra, rb, hne, ha, hb, hs⟩ := h.vd
  have hl := h.le
  have l1 := h.le1
  have bb := el_bd hK h hb.1 (by omega)
  have ba := el_bd hK h ha.1 (by omega)
  have hJ := joins_lt v1
  have sa := sz_le v1 ha.1 ha.2
  have sb := sz_le v1 hb.1 hb.2
  rw [root_rep v1 a ra] at sa
  rw [root_rep v1 b rb] at sb
  have pa := sz_pos J a
  have pb := sz_pos J b
  have hinj := fun {x y : Int} (h1 : 1 ≤ x ∧ x ≤ k) (h2 : 1 ≤ y ∧ y ≤ k) {c d : Int} (hc : 0 ≤ c ∧ c < 4) (hd : 0 ≤ d ∧ d < 4) => el_inj h h1.1 (show x ≤ 2 * nc by omega) h2.1 (show y ≤ 2 * nc by omega) hc hd
  obtain ⟨b1, b2⟩ := h.els b hb.1 hb.2
  obtain ⟨a1, a2⟩ := h.els a ha.1 ha.2
  simp only [par, sz, if_true] at b1 b2 a1 a2
  rw [if_neg (Ne.symm hne)] at b2
  unfold Fo.undo
  rw [show (f0 K).root + 2 = 18 from rfl, show (f0 K).root + 1 = 17 from rfl]
  refine Pg.Ok.get (by decide) (by decide) ?_
  rw [h.last, show lastJ ((b, a) :: J) = b from rfl, if_neg (by omega)]
  refine Pg.Ok.bindE (many_ok h) ?_
  rw [if_pos ⟨rfl, hb.1, hb.2⟩]
  refine Pg.Ok.bindE (place_ok hK h hb.1 (by omega)) ?_
  rw [if_pos rfl]
  refine Pg.Ok.get (by dsimp only; omega) (by dsimp only; omega) ?_
  dsimp only
  rw [b1, if_neg (by omega)]
  refine Pg.Ok.bindE (place_ok hK h ha.1 (by omega)) ?_
  rw [if_pos rfl]
  dsimp only
  refine Pg.Ok.get (by omega) (by omega) ?_
  rw [b2]
  unfold Fo.add
  simp only [Pg.bind_assoc, Pg.pure_bind]
  refine Pg.Ok.get (by omega) (by omega) (Pg.Ok.put (by omega) (by omega) (Pg.Ok.put (by omega) (by omega) (Pg.Ok.get (by omega) (by omega) (Pg.Ok.put (by decide) (by decide) (Pg.Ok.get (by decide) (by decide) (Pg.Ok.put (by decide) (by decide) (Pg.Ok.pure ⟨rfl, ?_⟩)))))))
  rw [a2, w64_in (x := 0 - sz J b) (by omega) (by omega), w64_in (x := sz J a + sz J b + (0 - sz J b)) (by omega) (by omega)]
  have eo : upd (upd m (el ad a + 1) (sz J a + sz J b + (0 - sz J b))) (el ad b) 0 (el ad b + 2) = lastJ J := by
    rw [upd_ne (by omega), upd_ne (fun e => ?_)]
    · exact h.ahead.1
    · have := hinj hb ha (c := 2) (d := 1) (by decide) (by decide) e; omega
  rw [eo]
  have e17 : upd (upd (upd m (el ad a + 1) (sz J a + sz J b + (0 - sz J b))) (el ad b) 0) 18 (lastJ J) 17 = k - (J.length + 1 : Nat) := by
    rw [upd_ne (by decide), upd_ne (by omega), upd_ne (by omega)]; exact h.sets
  rw [e17, w64_in (by omega) (by omega)]
  generalize hm : upd (upd (upd (upd m (el ad a + 1) (sz J a + sz J b + (0 - sz J b))) (el ad b) 0) 18 (lastJ J)) 17 ((k : Int) - (J.length + 1 : Nat) + 1) = m'
  have key : ∀ z, z ≠ el ad a + 1 → z ≠ el ad b → z ≠ 18 → z ≠ 17 → m' z = m z := fun z z1 z2 z4 z5 => by
    rw [← hm, upd_ne z5, upd_ne z4, upd_ne z2, upd_ne z1]
  have k1 : m' (el ad b) = 0 := by rw [← hm, upd_ne (by omega), upd_ne (by omega), upd_same]
  have k3 : m' (el ad a + 1) = sz J a := by
    rw [← hm, upd_ne (by omega), upd_ne (by omega), upd_ne (fun e => ?_), upd_same]
    · omega
    · have := hinj ha hb (c := 1) (d := 0) (by decide) (by decide) (by omega); omega
  have k4 : m' 18 = lastJ J := by rw [← hm, upd_ne (by decide), upd_same]
  have k5 : m' 17 = (k : Int) - (J.length + 1 : Nat) + 1 := by rw [← hm, upd_same]
  obtain ⟨f1, f2, f3, f4, f5⟩ := h.frame (m' := m') (fun z z1 z2 z3 => key z (by omega) (by omega) z3 z2)
    (fun i c hi hi2 hc => by
      have hn := nd_bd hK (h.isn hi)
      refine key _ ?_ ?_ (by omega) (by omega)
      · exact el_tab h ha.1 (by omega) hi hi2 hc (by decide)
      · have := el_tab h hb.1 (show b ≤ 2 * nc by omega) hi hi2 hc (d := 0) (by decide); omega)
    (fun z hz hn => by
      have hn2 := nd_bd hK hz
      refine key _ ?_ ?_ (by omega) (by omega)
      · exact el_free h ha.1 (by omega) hz hn (by decide)
      · have := el_free h hb.1 (show b ≤ 2 * nc by omega) hz hn (d := 0) (by decide); omega)
  refine ⟨hl, h.le1, h.le2, h.le3, v1, f1, ?_, k4, f2, h.inj, f3, f4, f5, fun x x1 x2 => ?_, h.ahead.2.eq fun p hp => ?_⟩
  · rw [k5]; omega
  · obtain ⟨g1, g2⟩ := h.els x x1 x2
    simp only [par, sz] at g1 g2
    have bx := el_bd hK h x1 (show x ≤ 2 * nc by omega)
    constructor
    · by_cases e : x = b
      · subst e; rw [rb]; exact k1
      · rw [if_neg e] at g1
        rw [← g1]
        refine key _ (fun e2 => ?_) (fun e2 => e ?_) (by omega) (by omega)
        · have := hinj ⟨x1, x2⟩ ha (c := 0) (d := 1) (by decide) (by decide) (by omega); omega
        · exact (hinj ⟨x1, x2⟩ hb (c := 0) (d := 0) (by decide) (by decide) (by omega)).1
    · by_cases e : x = a
      · subst e; exact k3
      · rw [if_neg e] at g2
        rw [← g2]
        refine key _ (fun e2 => e ?_) (fun e2 => ?_) (by omega) (by omega)
        · exact (hinj ⟨x1, x2⟩ ha (c := 1) (d := 1) (by decide) (by decide) e2).1
        · have := hinj ⟨x1, x2⟩ hb (c := 1) (d := 0) (by decide) (by decide) (by omega); omega
  · obtain ⟨p1, p2, p3⟩ := par_mem v1 p hp
    have bx := el_bd hK h p2 (show p.1 ≤ 2 * nc by omega)
    refine key _ (fun e2 => ?_) (fun e2 => ?_) (by omega) (by omega)
    · have := hinj ⟨p2, p3⟩ ha (c := 2) (d := 1) (by decide) (by decide) e2; omega
    · have := hinj ⟨p2, p3⟩ hb (c := 2) (d := 0) (by decide) (by decide) (by omega); omega
end Sim

/- The forest in memory: Make. -/
namespace Sim
open Go Go.Vc
variable {K : Int} {m : Int → Int} {k nc tc : Nat} {J : Jn} {ad : Nat → Int}
theorem ftake_ok (hK : 0 ≤ K ∧ K ≤ 38) {U : Int → Prop} {c : Int} (hp : PoolIs (f0 K).pool m U c) (hc : c < K) (h23 : m 23 = c) :
    Pg.Ok 368 (f0 K).take m fun r m' => r.2 = 0 ∧ isNd (f0 K).pool K r.1 ∧ ¬ U r.1 ∧ PoolIs (f0 K).pool m' (fun b => U b ∨ b = r.1) (c + 1) ∧ m' 23 = c + 1 ∧ (∀ x, x ≠ 1 → x ≠ 2 → x ≠ 3 → x ≠ 23 → m' x = m x) := by
  have h0 := hp.pos
  unfold Fo.take
  rw [show (f0 K).root + 7 = 23 from rfl]
  refine Pg.Ok.bind _ (pool_take (f0_fine hK) (f0_top hK) hp hc) fun r m' ⟨g1, g2, g3, g4, g5⟩ => ?_
  rw [if_neg (by omega)]
  refine Pg.Ok.get (by decide) (by decide) (Pg.Ok.put (by decide) (by decide) (Pg.Ok.pure ?_))
  have e23 : m' 23 = c := (g5 23 (by unfold f0; dsimp only; omega)).trans h23
  rw [e23, w64_in (by omega) (by omega)]
  refine ⟨rfl, g2, g3, g4.eq ?_ ?_ ?_ ?_, upd_same _ _ _, fun x x1 x2 x3 x4 => ?_⟩
  · exact upd_ne (by unfold f0; dsimp only; omega)
  · exact upd_ne (by unfold f0; dsimp only; omega)
  · exact upd_ne (by unfold f0; dsimp only; omega)
  · intro a ha _
    have := nd_bd hK ha
    exact upd_ne (by omega)
  · rw [upd_ne x4]
    exact g5 x (by unfold f0; dsimp only; omega)
theorem ftake_full (hK : 0 ≤ K ∧ K ≤ 38) {U : Int → Prop} {c : Int} (hp : PoolIs (f0 K).pool m U c) (hc : K ≤ c) :
    Pg.Ok 368 (f0 K).take m fun r m' => r = (0, 9) ∧ m' = m := by
  unfold Fo.take
  refine Pg.Ok.bindE (pool_full (f0_fine hK) (f0_top hK) hp hc) ?_
  rw [if_pos (by decide)]
  exact Pg.Ok.pure ⟨rfl, rfl⟩
def adN (ad : Nat → Int) (i : Nat) (a : Int) : Nat → Int := fun j => if j = i then a else ad j
theorem adN_same (ad : Nat → Int) (i : Nat) (a : Int) : adN ad i a i = a := by simp [adN]
theorem adN_ne {ad : Nat → Int} {i j : Nat} {a : Int} (h : j ≠ i) : adN ad i a j = ad j := by simp [adN, h]
theorem el_adN {ad : Nat → Int} {i : Nat} {a x : Int} (h : ((x - 1) / 2).toNat ≠ i) : el (adN ad i a) x = el ad x := by unfold el; rw [adN_ne h]
theorem Ah.adr {ad' : Nat → Int} : ∀ {J : Jn}, (∀ p ∈ J, el ad' p.1 = el ad p.1) → Ah m ad J → Ah m ad' J
  | [], _, _ => trivial
  | (b, a) :: J, h, ⟨h1, h2⟩ => ⟨by rw [h (b, a) (by simp)]; exact h1, Ah.adr (fun p hp => h p (by simp [hp])) h2⟩
/-- A node more: a table, or a node of elements. -/
theorem Mm.more (hK : 0 ≤ K ∧ K ≤ 38) (h : Mm K m k nc tc J ad) {i : Nat} {a cell : Int} {m1 m' : Int → Int} {nc' tc' : Nat} (hi : (i = nc ∧ nc' = nc + 1 ∧ tc' = tc ∧ nc < 8 * tc ∧ cell = ad (100 + nc / 8) + (nc % 8 : Nat)) ∨ (i = 100 + tc ∧ nc' = nc ∧ tc' = tc + 1 ∧ tc < 4 ∧ cell = 19 + (tc : Nat)))
    (hn : isNd (f0 K).pool K a) (hnU : ¬ ∃ j, Vx nc tc j ∧ a = ad j) (hp : PoolIs (f0 K).pool m1 (fun b => (∃ j, Vx nc tc j ∧ b = ad j) ∨ b = a) ((nc + tc : Nat) + 1)) (h23 : m1 23 = (nc + tc : Nat) + 1)
    (hf : ∀ x, x ≠ 1 → x ≠ 2 → x ≠ 3 → x ≠ 23 → m1 x = m x) (hm' : m' = upd m1 cell a) : Mm K m' k nc' tc' J (adN ad i a) := by
  have l0 := h.le
  have l1 := h.le1
  have l2 := h.le2
  have l3 := h.le3
  have hnot : ¬ Vx nc tc i := by
    intro hv
    rcases hi with ⟨e1, _⟩ | ⟨e1, _⟩ <;> rcases hv with hv | hv <;> omega
  have hV : ∀ j, Vx nc' tc' j ↔ (Vx nc tc j ∨ j = i) := by
    intro j
    unfold Vx
    rcases hi with ⟨e1, e2, e3, _⟩ | ⟨e1, e2, e3, _⟩ <;> omega
  have had : ∀ j, Vx nc tc j → adN ad i a j = ad j := fun j hj => adN_ne (fun e => hnot (e ▸ hj))
  have hcell : (cell < 64 ∧ 19 ≤ cell ∧ cell ≤ 22) ∨ (∃ c : Nat, c < 8 ∧ Vx nc tc (100 + nc / 8) ∧ cell = ad (100 + nc / 8) + c ∧ 64 ≤ cell) := by
    rcases hi with ⟨_, _, _, h1, h2⟩ | ⟨_, _, _, h1, h2⟩
    · right
      have hv : Vx nc tc (100 + nc / 8) := .inr ⟨by omega, by omega⟩
      have := nd_bd hK (h.isn hv)
      exact ⟨nc % 8, by omega, hv, h2, by omega⟩
    · left; omega
  have hlow : ∀ x, x < 64 → x ≠ cell → x ≠ 1 → x ≠ 2 → x ≠ 3 → x ≠ 23 → m' x = m x := fun x _ x2 x3 x4 x5 x6 => by rw [hm', upd_ne x2]; exact hf x x3 x4 x5 x6
  have hhi : ∀ x, 64 ≤ x → x ≠ cell → m' x = m x := fun x x1 x2 => by rw [hm', upd_ne x2]; exact hf x (by omega) (by omega) (by omega) (by omega)
  have hce : m' cell = a := by rw [hm', upd_same]
  have hc23 : cell ≠ 23 := by rcases hcell with h | ⟨c, _, _, _, h⟩ <;> omega
  have hc16 : cell ≠ 16 ∧ cell ≠ 17 ∧ cell ≠ 18 ∧ cell ≠ 1 ∧ cell ≠ 2 ∧ cell ≠ 3 := by rcases hcell with h | ⟨c, _, _, _, h⟩ <;> omega
  have hels : ∀ x : Int, 1 ≤ x → x ≤ k → el (adN ad i a) x = el ad x ∧ ∀ d : Int, 0 ≤ d ∧ d < 4 → m' (el ad x + d) = m (el ad x + d) := by
    intro x x1 x2
    have hv : Vx nc tc ((x - 1) / 2).toNat := .inl (by omega)
    refine ⟨el_adN (fun e => hnot (e ▸ hv)), fun d hd => ?_⟩
    have hb := el_bd hK h x1 (show x ≤ 2 * nc by omega)
    refine hhi _ (by omega) (fun e => ?_)
    rcases hcell with h1 | ⟨c, c1, c2, c3, c4⟩
    · omega
    · exact el_tab h x1 (show x ≤ 2 * nc by omega) c2 (by omega) c1 hd (c3.symm.trans e.symm)
  have hall : ∀ j, Vx nc' tc' j → isNd (f0 K).pool K (adN ad i a j) := by
    intro j hj
    rcases (hV j).1 hj with hj | rfl
    · rw [had j hj]; exact h.isn hj
    · rw [adN_same]; exact hn
  refine ⟨l0, ?_, ?_, ?_, h.vd, ?_, ?_, ?_, ?_, ?_, ?_, ?_, ?_, ?_, ?_⟩
  · rcases hi with ⟨_, e2, _⟩ | ⟨_, e2, _⟩ <;> omega
  · rcases hi with ⟨_, e2, e3, _⟩ | ⟨_, e2, e3, _⟩ <;> omega
  · rcases hi with ⟨_, e2, e3, _⟩ | ⟨_, e2, e3, _⟩ <;> omega
  · rw [hlow 16 (by decide) (by omega) (by decide) (by decide) (by decide) (by decide)]; exact h.many
  · rw [hlow 17 (by decide) (by omega) (by decide) (by decide) (by decide) (by decide)]; exact h.sets
  · rw [hlow 18 (by decide) (by omega) (by decide) (by decide) (by decide) (by decide)]; exact h.last
  · rw [hm', upd_ne (by omega), h23]
    rcases hi with ⟨_, e2, e3, _⟩ | ⟨_, e2, e3, _⟩ <;> omega
  · intro j j' hj hj' e
    rcases (hV j).1 hj with g1 | rfl
    · rcases (hV j').1 hj' with g2 | rfl
      · rw [had j g1, had j' g2] at e; exact h.inj j j' g1 g2 e
      · rw [had j g1, adN_same] at e; exact absurd ⟨j, g1, e.symm⟩ hnU
    · rcases (hV j').1 hj' with g2 | rfl
      · rw [adN_same, had j' g2] at e; exact absurd ⟨j', g2, e⟩ hnU
      · rfl
  · have e1 : ((nc' + tc' : Nat) : Int) = (nc + tc : Nat) + 1 := by rcases hi with ⟨_, e2, e3, _⟩ | ⟨_, e2, e3, _⟩ <;> omega
    rw [e1]
    refine (hp.sub (U' := fun b => ∃ j, Vx nc' tc' j ∧ b = adN ad i a j) fun b => ?_).eq ?_ ?_ ?_ ?_
    · constructor
      · rintro (⟨j, hj, rfl⟩ | rfl)
        · exact ⟨j, (hV j).2 (.inl hj), (had j hj).symm⟩
        · exact ⟨i, (hV i).2 (.inr rfl), (adN_same _ _ _).symm⟩
      · rintro ⟨j, hj, rfl⟩
        rcases (hV j).1 hj with g | rfl
        · exact .inl ⟨j, g, had j g⟩
        · exact .inr (adN_same _ _ _)
    · rw [hm']; exact upd_ne (by unfold f0; dsimp only; omega)
    · rw [hm']; exact upd_ne (by unfold f0; dsimp only; omega)
    · rw [hm']; exact upd_ne (by unfold f0; dsimp only; omega)
    · intro b hb hU
      rw [hm']
      refine upd_ne (fun e => ?_)
      rcases hcell with h1 | ⟨c, c1, c2, c3, c4⟩
      · have := nd_bd hK hb; omega
      · have := (nd_inj hb (h.isn c2) (i := 0) (j := c) (by decide) (by omega) (by omega)).1
        exact hU ⟨100 + nc / 8, (hV _).2 (.inl c2), by rw [had _ c2]; exact this⟩
  · intro j hj
    rcases hi with ⟨e1, e2, e3, h1, h2⟩ | ⟨e1, e2, e3, h1, h2⟩
    · have hnb := nd_bd hK (h.isn (i := 100 + nc / 8) (.inr ⟨by omega, by omega⟩))
      rw [had _ (.inr ⟨by omega, by omega⟩), hlow _ (by omega) (by omega) (by omega) (by omega) (by omega) (by omega)]
      exact h.tab j (by omega)
    · by_cases e : j = tc
      · rw [e, ← h2, hce, ← e1, adN_same]
      · rw [adN_ne (by omega), hlow _ (by omega) (by omega) (by omega) (by omega) (by omega) (by omega)]
        exact h.tab j (by omega)
  · intro q hq
    rcases hi with ⟨e1, e2, e3, h1, h2⟩ | ⟨e1, e2, e3, h1, h2⟩
    · have hvt : Vx nc tc (100 + q / 8) := .inr ⟨by omega, by omega⟩
      rw [had _ hvt]
      by_cases e : q = nc
      · rw [e, ← h2, hce, ← e1, adN_same]
      · rw [adN_ne (by omega)]
        have hb := nd_bd hK (h.isn hvt)
        rw [hhi _ (by omega) (fun e2 => ?_)]
        · exact h.nod q (by omega)
        · rw [h2] at e2
          have hvt2 : Vx nc tc (100 + nc / 8) := .inr ⟨by omega, by omega⟩
          obtain ⟨e3, e4⟩ := nd_inj (h.isn hvt) (h.isn hvt2) (i := (q % 8 : Nat)) (j := (nc % 8 : Nat)) (by omega) (by omega) e2
          have := h.inj _ _ hvt hvt2 e3
          omega
    · have hvt : Vx nc tc (100 + q / 8) := .inr ⟨by omega, by omega⟩
      have hvq : Vx nc tc q := .inl (by omega)
      rw [had _ hvt, had _ hvq]
      have hb := nd_bd hK (h.isn hvt)
      rw [hhi _ (by omega) (by omega)]
      exact h.nod q (by omega)
  · intro x x1 x2
    obtain ⟨g1, g2⟩ := hels x x1 x2
    rw [g1]
    have g3 := g2 0 (by decide)
    rw [Int.add_zero] at g3
    rw [g3, g2 1 (by decide)]
    exact h.els x x1 x2
  · refine (h.ahead.adr fun p hp => ?_).eq fun p hp => ?_
    · obtain ⟨p1, p2, p3⟩ := par_mem h.vd p hp
      exact (hels p.1 p2 p3).1
    · obtain ⟨p1, p2, p3⟩ := par_mem h.vd p hp
      rw [(hels p.1 p2 p3).1]
      exact (hels p.1 p2 p3).2 2 (by decide)
end Sim

/- The forest in memory: Make. -/
namespace Sim
open Go Go.Vc
variable {K : Int} {m : Int → Int} {k nc tc : Nat} {J : Jn} {ad : Nat → Int}
theorem PoolIs.le {P : Pl} {U : Int → Prop} {c : Int} (h : PoolIs P m U c) : c ≤ P.nodes := by
  obtain ⟨F, h, e0, e1, e2, e3, e4, e5, e6, e7, e8, e9⟩ := h
  omega
theorem Mm.pool_le (h : Mm K m k nc tc J ad) : ((nc + tc : Nat) : Int) ≤ K := h.pool.le
theorem roomN_ok (hK : 0 ≤ K ∧ K ≤ 38) (h : Mm K m k nc tc J ad) (hq : nc < 8 * tc) {x : Int} (hx : (x - 1) / 2 = nc) (hc : ((nc + tc : Nat) : Int) < K) :
    Pg.Ok 368 ((f0 K).roomN x) m fun r m' => r = 0 ∧ ∃ ad', Mm K m' k (nc + 1) tc J ad' := by
  have l3 := h.le3
  have hb := nd_bd hK (h.isn (i := 100 + nc / 8) (.inr ⟨by omega, by omega⟩))
  unfold Fo.roomN
  refine Pg.Ok.bindE (cell_ok hK h hx hq) ?_
  rw [if_pos rfl]
  refine Pg.Ok.bind _ (ftake_ok hK h.pool hc h.nodes) fun r m' ⟨g1, g2, g3, g4, g5, g6⟩ => ?_
  rw [if_neg (by omega)]
  refine Pg.Ok.put (by dsimp only; omega) (by dsimp only; omega) (Pg.Ok.pure ⟨rfl, adN ad nc r.1, ?_⟩)
  exact h.more hK (.inl ⟨rfl, rfl, rfl, hq, rfl⟩) g2 g3 g4 g5 g6 rfl
theorem roomN_full (hK : 0 ≤ K ∧ K ≤ 38) (h : Mm K m k nc tc J ad) (hq : nc < 8 * tc) {x : Int} (hx : (x - 1) / 2 = nc) (hc : K ≤ ((nc + tc : Nat) : Int)) :
    Pg.Ok 368 ((f0 K).roomN x) m fun r _ => r = 9 := by
  unfold Fo.roomN
  refine Pg.Ok.bindE (cell_ok hK h hx hq) ?_
  rw [if_pos rfl]
  refine Pg.Ok.bindE (ftake_full hK h.pool hc) ?_
  rw [if_pos (by decide)]
  exact Pg.Ok.pure rfl
/-- The step of the table, when one is wanted. -/
theorem table_ok (hK : 0 ≤ K ∧ K ≤ 38) (h : Mm K m k nc tc J ad) (hq : nc = 8 * tc) (ht : tc < 4) {x : Int} (hx : (x - 1) / 2 = nc) (hc : ((nc + tc : Nat) : Int) < K) {Q : Int → (Int → Int) → Prop}
    (hk : ∀ m' ad', Mm K m' k nc (tc + 1) J ad' → Pg.Ok 368 ((f0 K).roomN x) m' Q) :
    Pg.Ok 368 (do
      let t ← (f0 K).take
      if t.2 ≠ 0 then pure t.2 else do
        let _ ← Pg.pt ((f0 K).root + 3 + (x - 1) / 2 / 8) t.1
        (f0 K).roomN x) m Q := by
  refine Pg.Ok.bind _ (ftake_ok hK h.pool hc h.nodes) fun r m' ⟨g1, g2, g3, g4, g5, g6⟩ => ?_
  rw [if_neg (by omega)]
  have e : (f0 K).root + 3 + (x - 1) / 2 / 8 = 19 + (tc : Nat) := by unfold f0; dsimp only; omega
  rw [e]
  refine Pg.Ok.put (by omega) (by omega) (hk _ (adN ad (100 + tc) r.1) ?_)
  exact h.more hK (.inr ⟨rfl, rfl, rfl, ht, rfl⟩) g2 g3 g4 g5 g6 rfl
theorem room_ok (hK : 0 ≤ K ∧ K ≤ 38) (h : Mm K m k (nC k) (tC k) J ad) (hk : k < 64) (hc : (cN (k + 1) : Int) ≤ K) :
    Pg.Ok 368 ((f0 K).room (k + 1)) m fun r m' => r = 0 ∧ ∃ ad', Mm K m' k (nC (k + 1)) (tC (k + 1)) J ad' := by
  unfold Fo.room
  by_cases ho : k % 2 = 1
  · rw [if_pos (by omega)]
    have e1 : nC (k + 1) = nC k := by unfold nC; omega
    have e2 : tC (k + 1) = tC k := by unfold tC; omega
    rw [e1, e2]
    exact Pg.Ok.pure ⟨rfl, ad, h⟩
  · rw [if_neg (by omega)]
    have e1 : nC (k + 1) = nC k + 1 := by unfold nC; omega
    have hx : ((k : Int) + 1 - 1) / 2 = nC k := by unfold nC; omega
    unfold cN at hc
    by_cases h8 : ((k : Int) + 1 - 1) / 2 % 8 = 0
    · rw [if_pos h8]
      have e2 : tC (k + 1) = tC k + 1 := by unfold tC; omega
      refine table_ok hK h (by unfold nC tC; omega) (by unfold tC; omega) hx (by unfold nC tC; omega) fun m' ad' h' => ?_
      rw [e1, e2]
      exact roomN_ok hK h' (by unfold nC tC; omega) hx (by unfold nC tC; omega)
    · rw [if_neg h8]
      have e2 : tC (k + 1) = tC k := by unfold tC; omega
      rw [e1, e2]
      exact roomN_ok hK h (by unfold nC tC; omega) hx (by unfold nC tC; omega)
theorem room_full (hK : 0 ≤ K ∧ K ≤ 38) (h : Mm K m k (nC k) (tC k) J ad) (hk : k < 64) (hc : K < (cN (k + 1) : Int)) :
    Pg.Ok 368 ((f0 K).room (k + 1)) m fun r _ => r = 9 := by
  have hp := h.pool_le
  unfold Fo.room
  unfold cN at hc
  unfold nC tC at hp
  by_cases ho : k % 2 = 1
  · omega
  · rw [if_neg (by omega)]
    have hx : ((k : Int) + 1 - 1) / 2 = nC k := by unfold nC; omega
    by_cases h8 : ((k : Int) + 1 - 1) / 2 % 8 = 0
    · rw [if_pos h8]
      by_cases hf : K ≤ ((nC k + tC k : Nat) : Int)
      · refine Pg.Ok.bindE (ftake_full hK h.pool hf) ?_
        rw [if_pos (by decide)]
        exact Pg.Ok.pure rfl
      · refine table_ok hK h (by unfold nC tC; omega) (by unfold tC; omega) hx (by omega) fun m' ad' h' => ?_
        exact roomN_full hK h' (by unfold nC tC; omega) hx (by unfold nC tC; omega)
    · rw [if_neg h8]
      exact roomN_full hK h (by unfold nC tC; omega) hx (by unfold nC tC; omega)
theorem born_ok (hK : 0 ≤ K ∧ K ≤ 38) (h : Mm K m k nc tc J ad) (hk : k < 64) (hn : k + 1 ≤ 2 * nc) :
    Pg.Ok 368 (do
      let _ ← Pg.pt (el ad (k + 1)) 0
      let _ ← Pg.pt (el ad (k + 1) + 1) 1
      let _ ← Pg.pt (el ad (k + 1) + 2) 0
      let _ ← Pg.pt 16 (k + 1)
      let v ← Pg.gt 17
      let _ ← Pg.pt 17 (w64 (v + 1))
      pure ((k : Int) + 1, (0 : Int))) m fun r m' => r = ((k : Int) + 1, 0) ∧ Mm K m' (k + 1) nc tc J ad := by
  have hJ := joins_lt h.vd
  have l1 := h.le1
  have hb := el_bd hK h (x := (k : Int) + 1) (by omega) (by omega)
  refine Pg.Ok.put (by omega) (by omega) (Pg.Ok.put (by omega) (by omega) (Pg.Ok.put (by omega) (by omega) (Pg.Ok.put (by decide) (by decide) (Pg.Ok.get (by decide) (by decide) (Pg.Ok.put (by decide) (by decide) (Pg.Ok.pure ⟨rfl, ?_⟩))))))
  generalize he : el ad ((k : Int) + 1) = e at hb
  have e17 : upd (upd (upd (upd m e 0) (e + 1) 1) (e + 2) 0) 16 ((k : Int) + 1) 17 = k - J.length := by
    rw [upd_ne (by decide), upd_ne (by omega), upd_ne (by omega), upd_ne (by omega)]; exact h.sets
  rw [e17, w64_in (by omega) (by omega)]
  generalize hm : upd (upd (upd (upd (upd m e 0) (e + 1) 1) (e + 2) 0) 16 ((k : Int) + 1)) 17 ((k : Int) - J.length + 1) = m'
  have key : ∀ z, z ≠ e → z ≠ e + 1 → z ≠ e + 2 → z ≠ 16 → z ≠ 17 → m' z = m z := fun z z1 z2 z3 z4 z5 => by
    rw [← hm, upd_ne z5, upd_ne z4, upd_ne z3, upd_ne z2, upd_ne z1]
  have k1 : m' e = 0 := by rw [← hm, upd_ne (by omega), upd_ne (by omega), upd_ne (by omega), upd_ne (by omega), upd_same]
  have k2 : m' (e + 1) = 1 := by rw [← hm, upd_ne (by omega), upd_ne (by omega), upd_ne (by omega), upd_same]
  have k3 : m' 16 = (k : Int) + 1 := by rw [← hm, upd_ne (by decide), upd_same]
  have k4 : m' 17 = (k : Int) - J.length + 1 := by rw [← hm, upd_same]
  have hne : ∀ x : Int, 1 ≤ x → x ≤ k → ∀ d : Int, 0 ≤ d ∧ d < 4 → m' (el ad x + d) = m (el ad x + d) := by
    intro x x1 x2 d hd
    have hb2 := el_bd hK h x1 (show x ≤ 2 * nc by omega)
    have hi := fun (c : Int) (hc : 0 ≤ c ∧ c < 4) (e2 : el ad x + d = e + c) => (el_inj h x1 (show x ≤ 2 * nc by omega) (y := (k : Int) + 1) (by omega) (by omega) hd hc (by rw [he]; exact e2)).1
    refine key _ (fun e2 => ?_) (fun e2 => ?_) (fun e2 => ?_) (by omega) (by omega)
    · have := hi 0 (by decide) (by omega); omega
    · have := hi 1 (by decide) e2; omega
    · have := hi 2 (by decide) e2; omega
  have hlow : ∀ z, z < 64 → z ≠ 16 → z ≠ 17 → m' z = m z := fun z z1 z2 z3 => key z (by omega) (by omega) (by omega) z2 z3
  have htab : ∀ i c : Nat, Vx nc tc i → 100 ≤ i → c < 8 → m' (ad i + c) = m (ad i + c) := by
    intro i c hi hi2 hc
    have hn2 := nd_bd hK (h.isn hi)
    have ht := fun (d : Int) (hd : 0 ≤ d ∧ d < 4) => el_tab h (x := (k : Int) + 1) (by omega) (by omega) hi hi2 hc hd
    rw [he] at ht
    refine key _ ?_ (ht 1 (by decide)) (ht 2 (by decide)) (by omega) (by omega)
    have := ht 0 (by decide); omega
  have l2 := h.le2
  have l3 := h.le3
  refine ⟨by omega, by omega, l2, l3, h.vd.mono (by omega), by rw [k3]; omega, by rw [k4]; omega, (hlow 18 (by decide) (by decide) (by decide)).trans h.last, (hlow 23 (by decide) (by decide) (by decide)).trans h.nodes, h.inj, h.pool.eq ?_ ?_ ?_ ?_, fun j hj => ?_, fun q hq => ?_, fun x x1 x2 => ?_, h.ahead.eq fun p hp => ?_⟩
  · exact hlow _ (by unfold f0; dsimp only; omega) (by unfold f0; dsimp only; omega) (by unfold f0; dsimp only; omega)
  · exact hlow _ (by unfold f0; dsimp only; omega) (by unfold f0; dsimp only; omega) (by unfold f0; dsimp only; omega)
  · exact hlow _ (by unfold f0; dsimp only; omega) (by unfold f0; dsimp only; omega) (by unfold f0; dsimp only; omega)
  · intro a ha hU
    have hn2 := nd_bd hK ha
    have hf := fun (d : Int) (hd : 0 ≤ d ∧ d < 4) => el_free h (x := (k : Int) + 1) (by omega) (by omega) ha (fun i hi e2 => hU ⟨i, hi, e2⟩) hd
    rw [he] at hf
    refine key _ ?_ (hf 1 (by decide)) (hf 2 (by decide)) (by omega) (by omega)
    have := hf 0 (by decide); omega
  · rw [hlow _ (by omega) (by omega) (by omega)]; exact h.tab j hj
  · rw [htab _ _ (.inr ⟨by omega, by omega⟩) (by omega) (by omega)]; exact h.nod q hq
  · by_cases hx : x = (k : Int) + 1
    · subst hx
      rw [he, par_out h.vd _ (by omega), sz_out h.vd _ (by omega)]
      exact ⟨k1, k2⟩
    · have g := hne x x1 (by omega)
      have g0 := g 0 (by decide)
      rw [Int.add_zero] at g0
      rw [g0, g 1 (by decide)]
      exact h.els x x1 (by omega)
  · obtain ⟨p1, p2, p3⟩ := par_mem h.vd p hp
    exact hne p.1 p2 p3 2 (by decide)
theorem makeIn_ok (hK : 0 ≤ K ∧ K ≤ 38) (h : Mm K m k (nC k) (tC k) J ad) (hk : k < 64) (hc : (cN (k + 1) : Int) ≤ K) :
    Pg.Ok 368 ((f0 K).makeIn (k + 1)) m fun r m' => r = ((k : Int) + 1, 0) ∧ ∃ ad', Mm K m' (k + 1) (nC (k + 1)) (tC (k + 1)) J ad' := by
  unfold Fo.makeIn
  refine Pg.Ok.bind _ (room_ok hK h hk hc) fun r m' ⟨g1, ad', g2⟩ => ?_
  rw [if_neg (by omega)]
  have hn : k + 1 ≤ 2 * nC (k + 1) := by unfold nC; omega
  refine Pg.Ok.bindE (place_ok hK g2 (by omega) (by omega)) ?_
  rw [if_pos rfl]
  exact (born_ok hK g2 hk hn).mono fun r m' ⟨h1, h2⟩ => ⟨h1, ad', h2⟩
theorem make_ok (hK : 0 ≤ K ∧ K ≤ 38) (h : Mm K m k (nC k) (tC k) J ad) (hk : k < 64) (hc : (cN (k + 1) : Int) ≤ K) :
    Pg.Ok 368 (f0 K).make m fun r m' => r = ((k : Int) + 1, 0) ∧ ∃ ad', Mm K m' (k + 1) (nC (k + 1)) (tC (k + 1)) J ad' := by
  unfold Fo.make
  refine Pg.Ok.bindE (many_ok h) ?_
  rw [if_pos rfl, if_neg (by dsimp only; omega)]
  refine Pg.Ok.roll (fun r => r.2 ≠ 0) _ (makeIn_ok hK h hk hc) (fun r m' n ⟨h1, _⟩ hb => absurd (by rw [h1]) hb) (fun r m' n ⟨h1, h2⟩ _ => ?_)
  unfold Fo.after
  rw [h1, if_neg (fun h => h rfl)]
  exact Pg.Ok.pure ⟨rfl, h2⟩
theorem make_full (hK : 0 ≤ K ∧ K ≤ 38) (h : Mm K m k (nC k) (tC k) J ad) (hc : k = 64 ∨ K < (cN (k + 1) : Int)) :
    Pg.Ok 368 (f0 K).make m fun r m' => r = (0, 9) ∧ m' = m := by
  have hl := h.le
  unfold Fo.make
  refine Pg.Ok.bindE (many_ok h) ?_
  rw [if_pos rfl]
  by_cases h64 : k = 64
  · rw [if_pos (by dsimp only; omega)]
    exact Pg.Ok.pure ⟨rfl, rfl⟩
  · rw [if_neg (by dsimp only; omega)]
    have hm : Pg.Ok 368 ((f0 K).makeIn (k + 1)) m fun r _ => r = (0, 9) := by
      unfold Fo.makeIn
      refine Pg.Ok.bind _ (room_full hK h (by omega) (by omega)) fun r m' g => ?_
      rw [g, if_pos (by decide)]
      exact Pg.Ok.pure rfl
    refine Pg.Ok.roll (fun r => r.2 ≠ 0) _ hm (fun r m' n h1 hb => ⟨(0, 9), ?_, rfl, rfl⟩) (fun r m' n h1 hb => absurd (by rw [h1]; decide) hb)
    unfold Fo.after
    rw [h1, if_pos (by decide)]
end Sim

/- The walks of package word, at a word that no reference holds. -/
namespace Go.Proofs.Ytpcnbaddkblbhaa
open Go.Vc Sim
section
variable {P : Program} {w0 : World} {n : Nat} {sh : Shared} {Q : Exit → Env → List Deferred → List Asn → Prop} {k : List Item} {ρ : Env} {df : List Deferred} {Γ : List Asn}
variable {ops : Array Oper} {l : List (Fl × Nat × Oper)} {b : Fl} {i d : Nat} {ty : TypeId} {pos : String} {aft : Array Edge}
theorem reg_bin_gen {op : BinOp} {x y : Operand} {t yt : TypeId} {u v : Value} (r : Value) (hx : ev ρ x = u) (hy : ev ρ y = v) (hg : eqGuard op t x y u v = pure ()) (hb : binOp op t u v = pure r)
    (h : Reg P w0 n sh Q ops l k (ρ.set d r) df Γ) : Reg P w0 n sh Q ops ((b, i, ⟨some d, .binOp op t x y yt, ty, pos, aft, none⟩) :: l) k ρ df Γ :=
  reg_quiet rfl (fun hF _ => quiet_of_run fun w => by
    subst hx; subst hy
    simp only [execOp, hg, hb]; simp) h
end
theorem ref0_spec (w0 : World) : FnE PP w0 [] 103 [.int .i64 0, .int .i64 0] [] (.tuple #[.int .u32 0, .int .i64 3]) [] := by
  refine fn_of_run en103 fn103 rfl rfl rfl ?_
  repeat' (first | refine zck ?_ | refine zcp (by kernel_rfl) ?_ | (refine zap rfl ?_; first | ((with_reducible refine zct ?_); refine zak rfl ?_) | ((with_reducible refine zcu ?_); refine zan rfl ?_) | ((with_reducible refine zcv ?_); refine zan rfl ?_) | ((with_reducible refine zda ?_); refine zbg rfl rfl (by omega) ?_) | ((with_reducible refine zdc ?_); refine zbu rfl ?_)) | refine zch ?_ | refine zci rfl ?_)
  exact ret_tmp2 rfl ⟨rfl, rfl⟩
theorem who0_spec (w0 : World) : FnE PP w0 [] 102 [.int .u32 0] [] (.tuple #[.int .i64 0, .int .i64 0]) [] := by
  refine fn_of_run en102 fn102 rfl rfl rfl ?_
  repeat' (first | refine zck ?_ | refine zcp (by kernel_rfl) ?_ | (refine zap rfl ?_; first | refine reg_bin_gen (.int .u32 0) rfl rfl rfl rfl ?_ | ((with_reducible refine zcu ?_); refine zan rfl ?_) | ((with_reducible refine zcv ?_); refine zan rfl ?_) | ((with_reducible refine zcx ?_); refine zah [] (ref0_spec w0) rfl rfl rfl sub_nil rfl ?_) | ((with_reducible refine zcz ?_); refine zan rfl ?_) | ((with_reducible refine zda ?_); refine zbe rfl rfl (by omega) ?_) | ((with_reducible refine zdi ?_); refine zbz rfl (by omega) ?_)) | refine zch ?_ | refine zci rfl ?_)
  exact ret_tmp2 rfl ⟨rfl, rfl⟩
theorem kind0_spec (w0 : World) (v r : Int) : FnE PP w0 [] 100 [.agg #[.int .i64 v, .int .u32 r, .int .u32 0]] [] (.int .i64 0) [] := by
  refine fn_of_run en100 fn100 rfl rfl rfl ?_
  repeat' (first | refine zck ?_ | refine zcp (by kernel_rfl) ?_ | refine zcl ?_ | (refine zap rfl ?_; first | ((with_reducible refine zcu ?_); refine zan rfl ?_) | ((with_reducible refine zcv ?_); refine zan rfl ?_) | ((with_reducible refine zcw ?_); refine zab 0 rfl rfl rfl ?_) | ((with_reducible refine zcx ?_); refine zah [] (who0_spec w0) rfl rfl rfl sub_nil rfl ?_) | ((with_reducible refine zcy ?_); refine zao rfl ?_) | ((with_reducible refine zcz ?_); refine zan rfl ?_) | ((with_reducible refine zda ?_); refine zbc rfl rfl (by omega) ?_) | ((with_reducible refine zdg ?_); refine zaq (cs := [_, _, _]) rfl (fun nb => ?_))) | refine zch ?_ | refine zci rfl ?_)
  refine run_take [] rfl ?_
  exact ret_tmp1 rfl ⟨rfl, rfl⟩
theorem plain0_spec (w0 : World) (v r : Int) : FnE PP w0 [] 90 [.agg #[.int .i64 v, .int .u32 r, .int .u32 0]] [] (.bool true) [] := by
  refine fn_of_run en90 fn90 rfl rfl rfl ?_
  repeat' (first | refine zck ?_ | refine zcp (by kernel_rfl) ?_ | (refine zap rfl ?_; first | ((with_reducible refine zcv ?_); refine zan rfl ?_) | ((with_reducible refine zcw ?_); refine zab 0 rfl rfl rfl ?_) | ((with_reducible refine zcx ?_); refine zah [] (kind0_spec w0 v r) rfl rfl rfl sub_nil rfl ?_) | ((with_reducible refine zda ?_); refine zbc rfl rfl (by omega) ?_) | ((with_reducible refine zdg ?_); refine zaq (cs := [_, _, _]) rfl (fun nb => ?_))) | refine zch ?_)
  refine run_take [] rfl ?_
  exact ret_tmp1 rfl ⟨rfl, rfl⟩

/-! #### Entries -/
structure En where
  loc : Int
  old : Wd
  new : Int
  wr : Bool
def enL (e : En) : List Value := [.int .i64 e.loc, .int .i64 e.old.val, .int .u32 e.old.ver, .int .u32 e.old.ref, .int .i64 e.new, .bool e.wr]
def enV (e : En) : Value := .agg (List.toArray (enL e))
def wrongI (e : En) : Int :=
  if e.loc < 0 ∨ 4096 ≤ e.loc then 3 else if e.wr = true ∧ e.old.ver = 4294967295 then 9 else if e.wr = false ∧ e.new ≠ e.old.val then 4 else 0
theorem wrong_spec (w0 : World) (e : En) (h0 : e.old.ref = 0) : FnE PP w0 [] 74 [enV e] [] (.int .i64 (wrongI e)) [] := by
  obtain ⟨loc, ⟨ov, over, oref⟩, nw, wr⟩ := e
  dsimp only at h0
  subst h0
  obtain ⟨R, hR⟩ : ∃ R, R = wrongI ⟨loc, ⟨ov, over, 0⟩, nw, wr⟩ := ⟨_, rfl⟩
  rw [← hR]
  show FnE PP w0 [] _ [.agg (List.toArray [.int .i64 loc, .int .i64 ov, .int .u32 over, .int .u32 0, .int .i64 nw, .bool wr])] [] (.int .i64 R) []
  unfold wrongI at hR
  dsimp only at hR
  refine fn_of_run en74 fn74 rfl rfl rfl ?_
  by_cases h1 : loc < 0
  · rw [if_pos (.inl h1)] at hR
    repeat' (first | refine zck ?_ | refine zcp (by kernel_rfl) ?_ | refine zcl ?_ | (refine zap rfl ?_; first | ((with_reducible refine zct ?_); refine zak rfl ?_) | ((with_reducible refine zcu ?_); refine zan rfl ?_) | ((with_reducible refine zcv ?_); refine zan rfl ?_) | ((with_reducible refine zcw ?_); refine zab 0 rfl rfl rfl ?_) | ((with_reducible refine zcy ?_); refine zao rfl ?_) | ((with_reducible refine zda ?_); refine zbg rfl rfl (by omega) ?_) | ((with_reducible refine zdc ?_); refine zbu rfl ?_) | ((with_reducible refine zdg ?_); refine zaq (cs := [_, _, _, _, _, _]) rfl (fun nb => ?_))) | refine zch ?_ | refine zci rfl ?_)
    refine run_take [] rfl ?_
    exact ret_tmp1 rfl ⟨by rw [hR]; rfl, rfl⟩
  · by_cases h2 : 4096 ≤ loc
    · rw [if_pos (.inr h2)] at hR
      repeat' (first | refine zck ?_ | refine zcp (by kernel_rfl) ?_ | refine zcl ?_ | (refine zap rfl ?_; first | ((with_reducible refine zct ?_); refine zaj rfl ?_) | ((with_reducible refine zcu ?_); refine zan rfl ?_) | ((with_reducible refine zcv ?_); refine zan rfl ?_) | ((with_reducible refine zcw ?_); refine zab 0 rfl rfl rfl ?_) | ((with_reducible refine zcy ?_); refine zao rfl ?_) | ((with_reducible refine zda ?_); first | refine zbh rfl rfl (by omega) ?_ | refine zbm rfl rfl (by omega) ?_) | ((with_reducible refine zdc ?_); refine zbv rfl ?_) | ((with_reducible refine zdg ?_); refine zaq (cs := [_, _, _, _, _, _]) rfl (fun nb => ?_))) | refine zch ?_ | refine zci rfl ?_)
      refine run_take [] rfl ?_
      exact ret_tmp1 rfl ⟨by rw [hR]; rfl, rfl⟩
    · rw [if_neg (by omega)] at hR
      cases wr with
      | false =>
        repeat' (first | refine zck ?_ | refine zcp (by kernel_rfl) ?_ | refine zcl ?_ | (refine zap rfl ?_; first | ((with_reducible refine zct ?_); first | refine zaj rfl ?_ | refine zak rfl ?_) | ((with_reducible refine zcu ?_); refine zan rfl ?_) | ((with_reducible refine zcv ?_); refine zan rfl ?_) | ((with_reducible refine zcw ?_); refine zab 0 rfl rfl rfl ?_) | ((with_reducible refine zcx ?_); refine zah [] (plain0_spec w0 ov over) rfl rfl rfl sub_nil rfl ?_) | ((with_reducible refine zcy ?_); refine zao rfl ?_) | ((with_reducible refine zda ?_); first | refine zbh rfl rfl (by omega) ?_ | refine zbn rfl rfl (by omega) ?_ | refine zbp rfl rfl ?_) | ((with_reducible refine zdb ?_); refine zbx rfl ?_) | ((with_reducible refine zdc ?_); first | refine zbu rfl ?_ | refine zbv rfl ?_) | ((with_reducible refine zdg ?_); refine zaq (cs := [_, _, _, _, _, _]) rfl (fun nb => ?_))) | refine zch ?_ | refine zcj rfl ?_)
        refine run_cond rfl (fun hE => ?_) (fun hE => ?_)
        · rw [if_neg (by simp), if_pos ⟨rfl, hE⟩] at hR
          repeat' (first | refine zck ?_ | refine zcp (by kernel_rfl) ?_ | (refine zap rfl ?_; first | ((with_reducible refine zcv ?_); refine zan rfl ?_)) | refine zch ?_)
          refine run_take [] rfl ?_
          exact ret_tmp1 rfl ⟨by rw [hR]; rfl, rfl⟩
        · rw [if_neg (by simp), if_neg (fun h => hE h.2)] at hR
          repeat' (first | refine zck ?_ | refine zcp (by kernel_rfl) ?_ | refine zcm ?_ | refine zcn ?_ | (refine zap rfl ?_; first | ((with_reducible refine zcv ?_); refine zan rfl ?_)) | refine zch ?_)
          refine run_take [] rfl ?_
          exact ret_tmp1 rfl ⟨by rw [hR]; rfl, rfl⟩
      | true =>
        repeat' (first | refine zck ?_ | refine zcp (by kernel_rfl) ?_ | refine zcl ?_ | (refine zap rfl ?_; first | ((with_reducible refine zct ?_); refine zaj rfl ?_) | ((with_reducible refine zcu ?_); refine zan rfl ?_) | ((with_reducible refine zcv ?_); refine zan rfl ?_) | ((with_reducible refine zcw ?_); refine zab 0 rfl rfl rfl ?_) | ((with_reducible refine zcx ?_); refine zah [] (plain0_spec w0 ov over) rfl rfl rfl sub_nil rfl ?_) | ((with_reducible refine zcy ?_); refine zao rfl ?_) | ((with_reducible refine zda ?_); first | refine zbh rfl rfl (by omega) ?_ | refine zbn rfl rfl (by omega) ?_ | refine zbo rfl rfl ?_) | ((with_reducible refine zdb ?_); refine zbx rfl ?_) | ((with_reducible refine zdc ?_); first | refine zbu rfl ?_ | refine zbv rfl ?_) | ((with_reducible refine zdg ?_); refine zaq (cs := [_, _, _, _, _, _]) rfl (fun nb => ?_))) | refine zch ?_ | refine zcj rfl ?_)
        refine run_cond rfl (fun hE => ?_) (fun hE => ?_)
        · rw [if_pos ⟨rfl, hE⟩] at hR
          repeat' (first | refine zck ?_ | refine zcp (by kernel_rfl) ?_ | (refine zap rfl ?_; first | ((with_reducible refine zcv ?_); refine zan rfl ?_)) | refine zch ?_)
          refine run_take [] rfl ?_
          exact ret_tmp1 rfl ⟨by rw [hR]; rfl, rfl⟩
        · rw [if_neg (fun h => hE h.2), if_neg (by simp)] at hR
          repeat' (first | refine zck ?_ | refine zcp (by kernel_rfl) ?_ | refine zcm ?_ | refine zcn ?_ | (refine zap rfl ?_; first | ((with_reducible refine zct ?_); refine zak rfl ?_) | ((with_reducible refine zcu ?_); refine zan rfl ?_) | ((with_reducible refine zcv ?_); refine zan rfl ?_) | ((with_reducible refine zcw ?_); refine zab 0 rfl rfl rfl ?_) | ((with_reducible refine zcy ?_); refine zao rfl ?_) | ((with_reducible refine zdb ?_); refine zbx rfl ?_) | ((with_reducible refine zdc ?_); refine zbv rfl ?_)) | refine zch ?_ | refine zcj rfl ?_)
          refine run_take [] rfl ?_
          exact ret_tmp1 rfl ⟨by rw [hR]; rfl, rfl⟩
end Go.Proofs.Ytpcnbaddkblbhaa

/- slices.ContainsFunc and entry.Check. -/
namespace Go.Proofs.Ytpcnbaddkblbhaa
open Go.Vc Sim
def flatE : List En → List Value
  | [] => []
  | e :: l => enL e ++ flatE l
theorem flatE_len : ∀ l : List En, (flatE l).length = l.length * 6
  | [] => rfl
  | e :: l => by simp only [flatE, List.length_append, flatE_len l, List.length_cons]; simp [enL]; omega
theorem flatE_get : ∀ (l : List En) (i : Nat) (e : En) (k : Nat) (u : Value), l[i]? = some e → (enL e)[k]? = some u → (flatE l)[i * 6 + k]? = some u
  | [], i, e, k, u, h, _ => by simp at h
  | x :: l, 0, e, k, u, h, hk => by
    simp at h; subst h
    have hl := (List.getElem?_eq_some_iff.1 hk).1
    simp only [flatE, Nat.zero_mul, Nat.zero_add]
    rw [List.getElem?_append_left hl]; exact hk
  | x :: l, i + 1, e, k, u, h, hk => by
    have := flatE_get l i e k u (by simpa using h) hk
    simp only [flatE]
    rw [List.getElem?_append_right (by simp [enL]; omega)]
    have e6 : (i + 1) * 6 + k - (enL x).length = i * 6 + k := by simp [enL]; omega
    rw [e6]; exact this
theorem flatE_rd {l : List En} {i : Nat} {e : En} (h : l[i]? = some e) (o : Nat) (ho : o = i * 6) : rd true 6 (flatE l) o = some (enV e) := by
  have := rd_cells (c := (flatE l).toArray) (o := i * 6) (q := 6) (vs := enL e) rfl (fun k u hk => by simpa using flatE_get l i e k u h hk) o ho
  exact this
theorem chk1_spec (w0 : World) (x y : En) (xc : Nat) : FnE PP w0 [] 76 [enV y, .pointer (some ⟨xc, 0, none⟩)] [pt xc (.cells (List.toArray (enL x)) 81 (0, 0))] (.bool (decide (y.loc = x.loc))) [pt xc (.cells (List.toArray (enL x)) 81 (0, 0))] := by
  obtain ⟨xl, ⟨xv, xr, xf⟩, xn, xw⟩ := x
  obtain ⟨yl, ⟨yv, yr, yf⟩, yn, yw⟩ := y
  show FnE PP w0 [] _ [.agg (List.toArray [.int .i64 yl, .int .i64 yv, .int .u32 yr, .int .u32 yf, .int .i64 yn, .bool yw]), .pointer (some ⟨xc, 0, none⟩)] [pt xc (.cells (List.toArray [.int .i64 xl, .int .i64 xv, .int .u32 xr, .int .u32 xf, .int .i64 xn, .bool xw]) _ (0, 0))] (.bool (decide (yl = xl))) [pt xc (.cells (List.toArray [.int .i64 xl, .int .i64 xv, .int .u32 xr, .int .u32 xf, .int .i64 xn, .bool xw]) _ (0, 0))]
  refine fn_of_run en76 fn76 rfl rfl rfl ?_
  repeat' (first | refine zck ?_ | refine zcp (by kernel_rfl) ?_ | (refine zap rfl ?_; first | ((with_reducible refine zcv ?_); refine zan rfl ?_) | ((with_reducible refine zcw ?_); first | refine zab 0 rfl rfl rfl ?_ | refine zab 1 rfl rfl rfl ?_) | ((with_reducible refine zcy ?_); refine zao rfl ?_) | ((with_reducible refine zda ?_); refine zbo rfl rfl ?_) | ((with_reducible refine zdg ?_); refine zaq (cs := [_, _, _, _, _, _]) rfl (fun nb => ?_))) | refine zch ?_)
  refine run_take [0] rfl ?_
  exact ret_tmp1 rfl ⟨rfl, rfl⟩
def idxI (x : Int) : List En → Int → Int
  | [], _ => -1
  | e :: l, k => if e.loc = x then k else idxI x l (k + 1)
abbrev EnA (a : Option Addr) (cap : Nat) (es : List En) : Asn := SlA 81 6 a es.length cap (flatE es)
abbrev EnC (xc : Nat) (x : En) : Asn := pt xc (.cells (List.toArray (enL x)) 81 (0, 0))
abbrev ChkF (xc : Nat) : Value := .func (.func 76) #[] #[.pointer (some ⟨xc, 0, none⟩)]
theorem idx_spec (w0 : World) (a : Option Addr) (cap : Nat) (es : List En) (x : En) (xc i : Nat) (hi : i ≤ es.length) (hl : es.length ≤ 1099511627776) :
    FnE PP w0 [] 91 [.slice a i cap, ChkF xc] [EnA a cap es, EnC xc x] (.int .i64 (idxI x.loc (es.take i) 0)) [EnA a cap es, EnC xc x] := by
  refine fn_of_run en91 fn91 rfl rfl rfl ?_
  refine run_sl_cases 0 rfl ?_ ?_
  · intro h1 h2 h3 h4
    have hi0 : i = 0 := by omega
    subst hi0
    repeat' (first | refine zck ?_ | refine zcp (by kernel_rfl) ?_ | refine zcl ?_ | (refine zap rfl ?_; first | ((with_reducible refine zcu ?_); refine zan rfl ?_) | ((with_reducible refine zcv ?_); refine zan rfl ?_) | ((with_reducible refine zcx ?_); refine zce rfl ?_)) | refine zch ?_)
    refine run_loop1 ?_
    repeat' (first | refine zck ?_ | refine zcp (by kernel_rfl) ?_ | refine zcs rfl ?_ | (refine zap rfl ?_; first | ((with_reducible refine zcv ?_); refine zan rfl ?_) | ((with_reducible refine zda ?_); refine zbh rfl rfl (by omega) ?_)) | refine zch ?_ | refine zcj rfl ?_)
    exact ret_tmp1 rfl ⟨rfl, rfl⟩
  · intro bb h1 h2 h3
    subst h1
    repeat' (first | refine zck ?_ | refine zcp (by kernel_rfl) ?_ | refine zcl ?_ | (refine zap rfl ?_; first | ((with_reducible refine zcu ?_); refine zan rfl ?_) | ((with_reducible refine zcv ?_); refine zan rfl ?_) | ((with_reducible refine zcx ?_); refine zce rfl ?_)) | refine zch ?_)
    refine run_loop (S := Nat) (fun j => [(0, .slice (some ⟨bb, 0, none⟩) i cap), (1, ChkF xc), (7, .int .i64 i), (8, .int .i64 j)])
      (fun j Γ => Γ = [EnA (some ⟨bb, 0, none⟩) cap es, EnC xc x] ∧ j ≤ i ∧ idxI x.loc ((es.take i).drop j) j = idxI x.loc (es.take i) 0)
      (fun j => i - j) 0 ⟨rfl, rfl, rfl, rfl, trivial⟩ ⟨rfl, by omega, rfl⟩ ?_
    rintro j Γ junk ⟨rfl, g1, g2⟩
    by_cases hj : j < i
    · obtain ⟨e, he⟩ : ∃ e, es[j]? = some e := ⟨_, List.getElem?_eq_getElem (by omega)⟩
      have hd : (es.take i).drop j = e :: (es.take i).drop (j + 1) := by
        have hlt : j < (es.take i).length := by simp; omega
        rw [List.drop_eq_getElem_cons hlt]
        congr 1
        have : (es.take i)[j]? = some e := by rw [List.getElem?_take_of_lt hj]; exact he
        exact (List.getElem?_eq_some_iff.1 this).2
      have hr := flatE_rd he
      repeat' (first | refine zck ?_ | refine zcp (by kernel_rfl) ?_ | refine zcm ?_ | refine zcl ?_ | (refine zap rfl ?_; first | refine zag 0 rfl rfl (hr _ (by omega)) (by intro _; omega) ?_ | ((with_reducible refine zcu ?_); refine zan rfl ?_) | ((with_reducible refine zcv ?_); refine zan rfl ?_) | ((with_reducible refine zcx ?_); refine zah [1] (chk1_spec w0 x e xc) rfl rfl rfl sub_nil rfl ?_) | ((with_reducible refine zda ?_); refine zbg rfl rfl (by omega) ?_) | ((with_reducible refine zdf ?_); refine zas rfl rfl (by omega) ?_)) | refine zch ?_ | refine zci rfl ?_)
      refine run_perm (List.Perm.swap _ _ _) ?_
      rw [hd, idxI] at g2
      refine run_cond rfl (fun hE => ?_) (fun hE => ?_)
      · rw [if_pos hE] at g2
        repeat' (first | refine zck ?_ | refine zcp (by kernel_rfl) ?_ | (refine zap rfl ?_; first | ((with_reducible refine zcu ?_); refine zan rfl ?_) | ((with_reducible refine zcv ?_); refine zan rfl ?_)) | refine zch ?_)
        exact qret1 (fun _ _ h => h) rfl ⟨by rw [← g2]; rfl, rfl⟩
      · rw [if_neg hE] at g2
        repeat' (first | refine zcp (by kernel_rfl) ?_ | refine zcm ?_ | refine zcn ?_ | (refine zap rfl ?_; first | ((with_reducible refine zcu ?_); refine zan rfl ?_) | ((with_reducible refine zda ?_); refine zau rfl rfl (by omega) ?_)) | refine zch ?_)
        exact cut_end ⟨rfl, j + 1, ⟨rfl, rfl, rfl, int_eq (by omega), trivial⟩, ⟨rfl, by omega, by rw [← g2]; rfl⟩, by omega⟩
    · repeat' (first | refine zck ?_ | refine zcp (by kernel_rfl) ?_ | (refine zap rfl ?_; first | ((with_reducible refine zda ?_); refine zbh rfl rfl (by omega) ?_)) | refine zch ?_ | refine zcj rfl ?_)
      refine cut_exit rfl rfl ?_
      repeat' (first | refine zck ?_ | refine zcp (by kernel_rfl) ?_ | (refine zap rfl ?_; first | ((with_reducible refine zcv ?_); refine zan rfl ?_)) | refine zch ?_)
      rw [List.drop_of_length_le (by simp; omega)] at g2
      exact ret_tmp1 rfl ⟨by rw [← g2]; rfl, rfl⟩
theorem contains_spec (w0 : World) (a : Option Addr) (cap : Nat) (es : List En) (x : En) (xc i : Nat) (hi : i ≤ es.length) (hl : es.length ≤ 1099511627776) :
    FnE PP w0 [] 75 [.slice a i cap, ChkF xc] [EnA a cap es, EnC xc x] (.bool (decide (0 ≤ idxI x.loc (es.take i) 0))) [EnA a cap es, EnC xc x] := by
  refine fn_of_run en75 fn75 rfl rfl rfl ?_
  repeat' (first | refine zck ?_ | refine zcp (by kernel_rfl) ?_ | (refine zap rfl ?_; first | ((with_reducible refine zcu ?_); refine zan rfl ?_) | ((with_reducible refine zcv ?_); refine zan rfl ?_) | ((with_reducible refine zcx ?_); refine zah [0, 0] (idx_spec w0 a cap es x xc i hi hl) rfl rfl rfl sub_nil rfl ?_) | ((with_reducible refine zda ?_); refine zbt rfl rfl ?_)) | refine zch ?_)
  exact ret_tmp1 rfl ⟨rfl, rfl⟩
end Go.Proofs.Ytpcnbaddkblbhaa

/- entry.Check. -/
namespace Go.Proofs.Ytpcnbaddkblbhaa
open Go.Vc Sim
def chkI (es : List En) : List En → Nat → Int
  | [], _ => 0
  | e :: l, i => if wrongI e ≠ 0 then wrongI e else if 0 ≤ idxI e.loc (es.take i) 0 then 11 else chkI es l (i + 1)
def checkI (es : List En) : Int := if es.length = 0 then 8 else if 32 < es.length then 15 else chkI es es 0
set_option maxHeartbeats 2000000
theorem echeck_spec (w0 : World) (a : Option Addr) (cap : Nat) (es : List En) (hr : ∀ e ∈ es, e.old.ref = 0) (hl : es.length ≤ 1099511627776) :
    FnE PP w0 [] 64 [.slice a es.length cap] [EnA a cap es] (.int .i64 (checkI es)) [EnA a cap es] := by
  refine fn_of_run en64 fn64 rfl rfl rfl ?_
  unfold checkI
  by_cases h0 : es.length = 0
  · rw [if_pos h0]
    repeat' (first | refine zck ?_ | refine zcp (by kernel_rfl) ?_ | refine zcl ?_ | (refine zap rfl ?_; first | ((with_reducible refine zcu ?_); refine zan rfl ?_) | ((with_reducible refine zcv ?_); refine zan rfl ?_) | ((with_reducible refine zcx ?_); refine zce rfl ?_) | ((with_reducible refine zda ?_); refine zbc rfl rfl (by omega) ?_)) | refine zch ?_ | refine zci rfl ?_)
    exact ret_tmp1 rfl ⟨rfl, rfl⟩
  · rw [if_neg h0]
    by_cases h1 : 32 < es.length
    · rw [if_pos h1]
      repeat' (first | refine zck ?_ | refine zcp (by kernel_rfl) ?_ | refine zcl ?_ | (refine zap rfl ?_; first | ((with_reducible refine zcu ?_); refine zan rfl ?_) | ((with_reducible refine zcv ?_); refine zan rfl ?_) | ((with_reducible refine zcx ?_); refine zce rfl ?_) | ((with_reducible refine zda ?_); first | refine zbd rfl rfl (by omega) ?_ | refine zbk rfl rfl (by omega) ?_)) | refine zch ?_ | refine zci rfl ?_ | refine zcj rfl ?_)
      exact ret_tmp1 rfl ⟨rfl, rfl⟩
    · rw [if_neg h1]
      refine run_sl_cases 0 rfl (fun _ h _ _ => absurd h h0) ?_
      intro bb h2 h3 h4
      subst h2
      repeat' (first | refine zck ?_ | refine zcp (by kernel_rfl) ?_ | refine zcm ?_ | refine zcl ?_ | refine zcn ?_ | (refine zap rfl ?_; first | ((with_reducible refine zcu ?_); refine zan rfl ?_) | ((with_reducible refine zcv ?_); refine zan rfl ?_) | ((with_reducible refine zcx ?_); refine zce rfl ?_) | ((with_reducible refine zda ?_); first | refine zbd rfl rfl (by omega) ?_ | refine zbl rfl rfl (by omega) ?_)) | refine zch ?_ | refine zcj rfl ?_)
      refine run_loop (S := Nat) (fun j => [(0, .slice (some ⟨bb, 0, none⟩) es.length cap), (14, .slice (some ⟨bb, 0, none⟩) es.length cap), (15, .int .i64 es.length), (16, .int .i64 j)])
        (fun j Γ => Γ = [EnA (some ⟨bb, 0, none⟩) cap es] ∧ j ≤ es.length ∧ chkI es (es.drop j) j = chkI es es 0)
        (fun j => es.length - j) 0 ⟨rfl, rfl, rfl, rfl, trivial⟩ ⟨rfl, by omega, rfl⟩ ?_
      rintro j Γ junk ⟨rfl, g1, g2⟩
      by_cases hj : j < es.length
      · obtain ⟨e, he⟩ : ∃ e, es[j]? = some e := ⟨_, List.getElem?_eq_getElem hj⟩
        have hd : es.drop j = e :: es.drop (j + 1) := by
          rw [List.drop_eq_getElem_cons hj]
          congr 1
          exact (List.getElem?_eq_some_iff.1 he).2
        have hrd := flatE_rd he
        have hW := wrong_spec w0 e (hr e (List.mem_of_getElem? he))
        rw [hd, chkI] at g2
        repeat' (first | refine zck ?_ | refine zcp (by kernel_rfl) ?_ | refine zcm ?_ | refine zcl ?_ | (refine zap rfl ?_; first | refine zag 0 rfl rfl (hrd _ (by omega)) (by intro _; omega) ?_ | ((with_reducible refine zcu ?_); refine zan rfl ?_) | ((with_reducible refine zcv ?_); refine zan rfl ?_) | ((with_reducible refine zcw ?_); refine zab 1 rfl rfl rfl ?_) | ((with_reducible refine zcx ?_); refine zah [] hW rfl rfl rfl sub_nil rfl ?_) | ((with_reducible refine zda ?_); first | refine zbg rfl rfl (by omega) ?_ | refine zbp rfl rfl ?_) | ((with_reducible refine zdd ?_); refine zae 1 rfl rfl rfl rfl rfl rfl rfl ?_) | ((with_reducible refine zdf ?_); refine zas rfl rfl (by omega) ?_) | ((with_reducible refine zdh ?_); refine zar (fun nb => ?_))) | refine zch ?_ | refine zci rfl ?_)
        refine run_cond rfl (fun hE => ?_) (fun hE => ?_)
        · rw [if_pos hE] at g2
          repeat' (first | refine zck ?_ | refine zcp (by kernel_rfl) ?_ | (refine zap rfl ?_; first | ((with_reducible refine zcu ?_); refine zan rfl ?_) | ((with_reducible refine zcv ?_); refine zan rfl ?_)) | refine zch ?_)
          refine run_take [0] rfl ?_
          exact qret1 (fun _ _ h => h) rfl ⟨by rw [← g2]; rfl, rfl⟩
        · rw [if_neg hE] at g2
          repeat' (first | refine zck ?_ | refine zcp (by kernel_rfl) ?_ | refine zcm ?_ | (refine zap rfl ?_; first | refine reg_slice2 rfl rfl (by omega) ?_ | refine zan rfl ?_ | ((with_reducible refine zcx ?_); refine zah [0, 0] (contains_spec w0 _ cap es e nb j (by omega) hl) rfl rfl rfl sub_nil rfl ?_)) | refine zch ?_)
          refine run_cond rfl (fun hE => ?_) (fun hE => ?_)
          · rw [if_pos hE] at g2
            repeat' (first | refine zck ?_ | refine zcp (by kernel_rfl) ?_ | (refine zap rfl ?_; first | ((with_reducible refine zcv ?_); refine zan rfl ?_)) | refine zch ?_)
            refine run_take [0] rfl ?_
            exact qret1 (fun _ _ h => h) rfl ⟨by rw [← g2]; rfl, rfl⟩
          · rw [if_neg hE] at g2
            repeat' (first | refine zcp (by kernel_rfl) ?_ | refine zcm ?_ | refine zcn ?_ | (refine zap rfl ?_; first | ((with_reducible refine zcu ?_); refine zan rfl ?_) | ((with_reducible refine zda ?_); refine zau rfl rfl (by omega) ?_)) | refine zch ?_)
            refine run_take [0] rfl ?_
            exact cut_end ⟨rfl, j + 1, ⟨rfl, rfl, rfl, int_eq (by omega), trivial⟩, ⟨rfl, by omega, by rw [← g2]⟩, by omega⟩
      · repeat' (first | refine zck ?_ | refine zcp (by kernel_rfl) ?_ | (refine zap rfl ?_; first | ((with_reducible refine zda ?_); refine zbh rfl rfl (by omega) ?_)) | refine zch ?_ | refine zcj rfl ?_)
        refine cut_exit rfl rfl ?_
        repeat' (first | refine zck ?_ | refine zcp (by kernel_rfl) ?_ | (refine zap rfl ?_; first | ((with_reducible refine zcv ?_); refine zan rfl ?_)) | refine zch ?_)
        rw [List.drop_of_length_le (by omega)] at g2
        exact ret_tmp1 rfl ⟨by rw [← g2]; rfl, rfl⟩
end Go.Proofs.Ytpcnbaddkblbhaa

namespace Go.Proofs.Ytpcnbaddkblbhaa
open Go.Vc

theorem isNaN_spec (w0 : World) (x : Int) : FnE PP w0 [] 99 [.int .i64 x] [] (.bool false) [] := by
  refine fn_of_run en99 fn99 rfl rfl rfl ?_
  repeat' (first | refine zck ?_ | refine zcp (by kernel_rfl) ?_ | (refine zap rfl ?_; first | ((with_reducible refine zcu ?_); refine zan rfl ?_) | ((with_reducible refine zcv ?_); refine zan rfl ?_) | ((with_reducible refine zda ?_); refine zbp rfl rfl ?_)) | refine zch ?_)
  refine ret_tmp1 rfl ⟨(show Value.bool (decide (x ≠ x)) = _ from ?_), rfl⟩
  simp
theorem less_spec (w0 : World) (x y : Int) : FnE PP w0 [] 85 [.int .i64 x, .int .i64 y] [] (.bool (Go.Sort.ltInt x y)) [] := by
  refine fn_of_run en85 fn85 rfl rfl rfl ?_
  repeat' (first | refine zck ?_ | refine zcp (by kernel_rfl) ?_ | (refine zap rfl ?_; first | ((with_reducible refine zct ?_); first | refine zaj rfl ?_ | refine zak rfl ?_) | ((with_reducible refine zcu ?_); refine zan rfl ?_) | ((with_reducible refine zcv ?_); refine zan rfl ?_) | ((with_reducible refine zcx ?_); refine zah [] (isNaN_spec w0 _) rfl rfl rfl sub_nil rfl ?_) | ((with_reducible refine zda ?_); refine zbq rfl rfl ?_) | ((with_reducible refine zdc ?_); refine zbv rfl ?_)) | refine zch ?_)
  refine ret_tmp1 rfl ⟨?_, rfl⟩
  rfl
end Go.Proofs.Ytpcnbaddkblbhaa

namespace Go.Proofs.Ytpcnbaddkblbhaa
open Go.Vc
open Go.Sort (ltInt swp insInner insOuter insertionSort)

theorem ins_step {a j : Nat} {d : Array Int} (h : a < j + 1) (hl : ltInt d[j + 1]! d[j]! = true) : insInner ltInt a (j + 1) d = insInner ltInt a j (swp d (j + 1) j) := by
  rw [insInner]; simp [h, hl]
theorem ins_stop {a j : Nat} {d : Array Int} (hl : ltInt d[j + 1]! d[j]! = false) : insInner ltInt a (j + 1) d = d := by
  rw [insInner]; simp [hl]
theorem ins_end {a j : Nat} {d : Array Int} (h : j ≤ a) : insInner ltInt a j d = d := by
  cases j with
  | zero => rfl
  | succ j => rw [insInner]; simp; omega
theorem insOuter_lt {a b i : Nat} {d : Array Int} (h : i < b) : insOuter ltInt a b i d = insOuter ltInt a b (i + 1) (insInner ltInt a i d) := by
  rw [insOuter, if_pos h]
theorem insOuter_ge {a b i : Nat} {d : Array Int} (h : b ≤ i) : insOuter ltInt a b i d = d := by
  rw [insOuter, if_neg (by omega)]
theorem ins_spec (w0 : World) (bb N cap : Nat) (D : Array Int) (a b : Nat) (hN : N ≤ 4611686018427387903) (hab : a ≤ b) (hb : b ≤ N) (hD : D.size = N) :
    FnE PP w0 [] 79 [.slice (some ⟨bb, 0, none⟩) N cap, .int .i64 a, .int .i64 b] [Dat 27 bb N cap D] (.tuple #[]) [Dat 27 bb N cap (insertionSort ltInt D a b)] := by
  refine fn_of_run en79 fn79 rfl rfl rfl ?_
  repeat' (first | refine zck ?_ | refine zcp (by kernel_rfl) ?_ | refine zcl ?_ | (refine zap rfl ?_; first | ((with_reducible refine zcu ?_); refine zan rfl ?_) | ((with_reducible refine zcv ?_); refine zan rfl ?_) | ((with_reducible refine zda ?_); refine zau rfl rfl (by omega) ?_)) | refine zch ?_)
  refine run_loop (S := Nat × Array Int) (fun s => [(0, .slice (some ⟨bb, 0, none⟩) N cap), (1, .int .i64 a), (2, .int .i64 b), (6, .int .i64 s.1)])
    (fun s Γ => Γ = [Dat 27 bb N cap s.2] ∧ a < s.1 ∧ s.1 ≤ b + 1 ∧ s.2.size = N ∧ insOuter ltInt a b s.1 s.2 = insertionSort ltInt D a b)
    (fun s => b + 1 - s.1) (a + 1, D) ⟨rfl, rfl, rfl, rfl, trivial⟩ ⟨rfl, by omega, by omega, hD, rfl⟩ ?_
  rintro ⟨i, d⟩ Γ junk ⟨rfl, h1, h2, h3, h4⟩
  dsimp only at h1 h2 h3 h4 ⊢
  by_cases hi : i < b
  · repeat' (first | refine zck ?_ | refine zcp (by kernel_rfl) ?_ | refine zcm ?_ | refine zcl ?_ | (refine zap rfl ?_; first | ((with_reducible refine zcu ?_); refine zan rfl ?_) | ((with_reducible refine zcv ?_); refine zan rfl ?_) | ((with_reducible refine zda ?_); refine zbg rfl rfl (by omega) ?_)) | refine zch ?_ | refine zci rfl ?_)
    refine run_loop (S := Nat × Array Int) (fun s => [(0, .slice (some ⟨bb, 0, none⟩) N cap), (1, .int .i64 a), (2, .int .i64 b), (6, .int .i64 i), (7, .int .i64 s.1)])
      (fun s Γ => Γ = [Dat 27 bb N cap s.2] ∧ a ≤ s.1 ∧ s.1 ≤ i ∧ s.2.size = N ∧ insInner ltInt a s.1 s.2 = insInner ltInt a i d)
      (fun s => s.1) (i, d) ⟨rfl, rfl, rfl, rfl, rfl, trivial⟩ ⟨rfl, by omega, by omega, h3, rfl⟩ ?_
    rintro ⟨j, e⟩ Γ junk ⟨rfl, g1, g2, g3, g4⟩
    dsimp only at g1 g2 g3 g4 ⊢
    by_cases hj : a < j
    · obtain ⟨j, rfl⟩ : ∃ m, j = m + 1 := ⟨j - 1, by omega⟩
      repeat' (first | refine zck ?_ | refine run_drawR PP_mixed (by kernel_rfl) (by kernel_rfl) ?_ | (refine zap rfl ?_; first | refine reg_load_d 0 rfl rfl (by omega) ?_ | ((with_reducible refine zct ?_); refine zaj rfl ?_) | ((with_reducible refine zcu ?_); refine zan rfl ?_) | ((with_reducible refine zcx ?_); refine zah [] (less_spec w0 _ _) rfl rfl rfl sub_nil rfl ?_) | ((with_reducible refine zda ?_); first | refine zbk rfl rfl (by omega) ?_ | refine zav rfl rfl (by omega) ?_) | ((with_reducible refine zdc ?_); refine zbu rfl ?_) | ((with_reducible refine zdf ?_); refine zas rfl rfl (by omega) ?_)) | refine zch ?_)
      have e1 : ((j + 1 : Nat) : Int).toNat = j + 1 := by omega
      have e2 : (((j + 1 : Nat) : Int) - 1).toNat = j := by omega
      refine run_cond rfl (fun hE => ?_) (fun hE => ?_)
      · repeat' (first | refine zck ?_ | refine zcp (by kernel_rfl) ?_ | refine run_drawR PP_mixed (by kernel_rfl) (by kernel_rfl) ?_ | refine zcm ?_ | refine zcl ?_ | refine zcn ?_ | (refine zap rfl ?_; first | refine reg_load_d 0 rfl rfl (by omega) ?_ | refine reg_store_d 0 rfl rfl rfl (by omega) rfl ?_ | ((with_reducible refine zcu ?_); refine zan rfl ?_) | ((with_reducible refine zcv ?_); refine zan rfl ?_) | ((with_reducible refine zda ?_); refine zav rfl rfl (by omega) ?_) | ((with_reducible refine zdf ?_); refine zas rfl rfl (by omega) ?_)) | refine zch ?_)
        rw [e1, e2] at hE
        refine cut_end ⟨rfl, (j, swp e (j + 1) j), ⟨rfl, rfl, rfl, rfl, int_eq (by omega), trivial⟩, ⟨?_, by omega, by omega, ?_, ?_⟩, by omega⟩
        · rw [e1, e2]; rfl
        · rw [Go.Sort.size_swp]; exact g3
        · rw [← g4, ins_step hj (decide_eq_true hE)]
      · rw [e1, e2] at hE
        refine cut_exit rfl rfl ?_
        repeat' (first | refine zcp (by kernel_rfl) ?_ | refine zcn ?_ | (refine zap rfl ?_; first | ((with_reducible refine zcu ?_); refine zan rfl ?_) | ((with_reducible refine zcv ?_); refine zan rfl ?_) | ((with_reducible refine zda ?_); refine zau rfl rfl (by omega) ?_)) | refine zch ?_)
        refine cut_end ⟨rfl, (i + 1, e), ⟨rfl, rfl, rfl, int_eq (by omega), trivial⟩, ⟨rfl, by omega, by omega, g3, ?_⟩, by omega⟩
        rw [ins_stop (decide_eq_false hE)] at g4
        rw [← h4, insOuter_lt hi, ← g4]
    · repeat' (first | refine zck ?_ | refine run_drawR PP_mixed (by kernel_rfl) (by kernel_rfl) ?_ | (refine zap rfl ?_; first | ((with_reducible refine zct ?_); refine zak rfl ?_) | ((with_reducible refine zcu ?_); refine zan rfl ?_) | ((with_reducible refine zda ?_); refine zbl rfl rfl (by omega) ?_) | ((with_reducible refine zdc ?_); refine zbv rfl ?_)) | refine zch ?_ | refine zcj rfl ?_)
      refine cut_exit rfl rfl ?_
      repeat' (first | refine zcp (by kernel_rfl) ?_ | refine zcn ?_ | (refine zap rfl ?_; first | ((with_reducible refine zcu ?_); refine zan rfl ?_) | ((with_reducible refine zcv ?_); refine zan rfl ?_) | ((with_reducible refine zda ?_); refine zau rfl rfl (by omega) ?_)) | refine zch ?_)
      refine cut_end ⟨rfl, (i + 1, e), ⟨rfl, rfl, rfl, int_eq (by omega), trivial⟩, ⟨rfl, by omega, by omega, g3, ?_⟩, by omega⟩
      rw [ins_end (by omega)] at g4
      rw [← h4, insOuter_lt hi, ← g4]
  · repeat' (first | refine zck ?_ | refine zcp (by kernel_rfl) ?_ | (refine zap rfl ?_; first | ((with_reducible refine zcu ?_); refine zan rfl ?_) | ((with_reducible refine zda ?_); refine zbh rfl rfl (by omega) ?_)) | refine zch ?_ | refine zcj rfl ?_)
    refine cut_exit rfl rfl ?_
    repeat' (first | refine zck ?_ | (refine zap rfl ?_; first | ((with_reducible refine zct ?_); first | refine zaj rfl ?_ | refine zak rfl ?_ | refine zal rfl ?_ | refine zam rfl rfl (fun _ => ?_) (fun _ => ?_))) | refine zch ?_)
    refine end_tmp0 rfl ⟨rfl, ?_⟩
    rw [← h4, insOuter_ge (by omega)]
end Go.Proofs.Ytpcnbaddkblbhaa

namespace Go.Proofs.Ytpcnbaddkblbhaa
open Go.Vc
open Go.Sort (ltInt swp reverseLoop reverseRange siftDown heapBuild heapPop heapSort)

theorem revl_lt {i j : Nat} {d : Array Int} (h : i < j) : reverseLoop i j d = reverseLoop (i + 1) (j - 1) (swp d i j) := by
  rw [reverseLoop, if_pos h]
theorem revl_ge {i j : Nat} {d : Array Int} (h : j ≤ i) : reverseLoop i j d = d := by
  rw [reverseLoop, if_neg (by omega)]
theorem rev_spec (w0 : World) (bb N cap : Nat) (D : Array Int) (a b : Nat) (hN : N ≤ 4611686018427387903) (hab : a < b) (hb : b ≤ N) (hD : D.size = N) :
    FnE PP w0 [] 83 [.slice (some ⟨bb, 0, none⟩) N cap, .int .i64 a, .int .i64 b] [Dat 27 bb N cap D] (.tuple #[]) [Dat 27 bb N cap (reverseRange D a b)] := by
  refine fn_of_run en83 fn83 rfl rfl rfl ?_
  repeat' (first | refine zck ?_ | refine zcp (by kernel_rfl) ?_ | refine zcl ?_ | (refine zap rfl ?_; first | ((with_reducible refine zcu ?_); refine zan rfl ?_) | ((with_reducible refine zcv ?_); refine zan rfl ?_) | ((with_reducible refine zda ?_); refine zav rfl rfl (by omega) ?_)) | refine zch ?_)
  refine run_loop (S := Nat × Nat × Array Int) (fun s => [(0, .slice (some ⟨bb, 0, none⟩) N cap), (6, .int .i64 s.1), (7, .int .i64 s.2.1)])
    (fun s Γ => Γ = [Dat 27 bb N cap s.2.2] ∧ s.1 ≤ s.2.1 + 1 ∧ s.2.1 < b ∧ s.2.2.size = N ∧ reverseLoop s.1 s.2.1 s.2.2 = reverseRange D a b)
    (fun s => s.2.1 + 1 - s.1) (a, b - 1, D) ⟨rfl, rfl, int_eq (by dsimp only; omega), trivial⟩ ⟨rfl, by dsimp only; omega, by dsimp only; omega, hD, rfl⟩ ?_
  rintro ⟨i, j, d⟩ Γ junk ⟨rfl, h1, h2, h3, h4⟩
  dsimp only at h1 h2 h3 h4 ⊢
  by_cases hi : i < j
  · repeat' (first | refine zck ?_ | refine zcp (by kernel_rfl) ?_ | refine run_drawR PP_mixed (by kernel_rfl) (by kernel_rfl) ?_ | refine zcm ?_ | refine zcl ?_ | refine zcn ?_ | (refine zap rfl ?_; first | refine reg_load_d 0 rfl rfl (by omega) ?_ | refine reg_store_d 0 rfl rfl rfl (by omega) rfl ?_ | ((with_reducible refine zcu ?_); refine zan rfl ?_) | ((with_reducible refine zcv ?_); refine zan rfl ?_) | ((with_reducible refine zda ?_); first | refine zbg rfl rfl (by omega) ?_ | refine zau rfl rfl (by omega) ?_ | refine zav rfl rfl (by omega) ?_) | ((with_reducible refine zdf ?_); refine zas rfl rfl (by omega) ?_)) | refine zch ?_ | refine zci rfl ?_)
    have e1 : ((i : Nat) : Int).toNat = i := by omega
    have e2 : ((j : Nat) : Int).toNat = j := by omega
    refine cut_end ⟨rfl, (i + 1, j - 1, swp d i j), ⟨rfl, int_eq (by dsimp only; omega), int_eq (by dsimp only; omega), trivial⟩, ⟨?_, by dsimp only; omega, by dsimp only; omega, ?_, ?_⟩, by dsimp only; omega⟩
    · rw [e1, e2]; rfl
    · rw [Go.Sort.size_swp]; exact h3
    · rw [← h4, revl_lt hi]
  · repeat' (first | refine zck ?_ | refine zcp (by kernel_rfl) ?_ | (refine zap rfl ?_; first | ((with_reducible refine zcu ?_); refine zan rfl ?_) | ((with_reducible refine zda ?_); refine zbh rfl rfl (by omega) ?_)) | refine zch ?_ | refine zcj rfl ?_)
    refine cut_exit rfl rfl ?_
    repeat' (first | refine zck ?_ | (refine zap rfl ?_; first | ((with_reducible refine zcu ?_); refine zan rfl ?_)) | refine zch ?_)
    refine end_tmp0 rfl ⟨rfl, ?_⟩
    rw [← h4, revl_ge (by omega)]

theorem sift_ge {hi first root : Nat} {d : Array Int} (h : hi ≤ 2 * root + 1) : siftDown ltInt hi first root d = d := by
  rw [siftDown, dif_pos h]
/-- The greater child. -/
def gch (hi first root : Nat) (d : Array Int) : Nat := if 2 * root + 1 + 1 < hi && ltInt d[first + (2 * root + 1)]! d[first + (2 * root + 1) + 1]! then 2 * root + 2 else 2 * root + 1
theorem gch_lt {hi first root : Nat} {d : Array Int} (h : 2 * root + 1 < hi) : gch hi first root d < hi ∧ root < gch hi first root d := by
  unfold gch
  split
  · rename_i hc; simp at hc; omega
  · omega
theorem sift_stop {hi first root : Nat} {d : Array Int} (h : 2 * root + 1 < hi) (hl : ltInt d[first + root]! d[first + gch hi first root d]! = false) : siftDown ltInt hi first root d = d := by
  rw [siftDown, dif_neg (by omega)]
  unfold gch at hl
  split
  · rename_i hc; rw [if_pos hc] at hl; simp [hl]
  · rename_i hc; rw [if_neg hc] at hl; simp [hl]
theorem sift_go {hi first root : Nat} {d : Array Int} (h : 2 * root + 1 < hi) (hl : ltInt d[first + root]! d[first + gch hi first root d]! = true) :
    siftDown ltInt hi first root d = siftDown ltInt hi first (gch hi first root d) (swp d (first + root) (first + gch hi first root d)) := by
  rw [siftDown, dif_neg (by omega)]
  unfold gch at hl ⊢
  split
  · rename_i hc; rw [if_pos hc] at hl; simp only [hl, Bool.not_true, Bool.false_eq_true, if_false]; rw [dif_pos (by simp at hc; omega)]
  · rename_i hc; rw [if_neg hc] at hl; simp only [hl, Bool.not_true, Bool.false_eq_true, if_false]
set_option maxHeartbeats 2000000 in
theorem sift_spec (w0 : World) (bb N cap : Nat) (D : Array Int) (lo hi first : Nat) (hN : N ≤ 1152921504606846975) (hf : first + hi ≤ N) (hlo : lo ≤ hi) (hD : D.size = N) :
    FnE PP w0 [] 94 [.slice (some ⟨bb, 0, none⟩) N cap, .int .i64 lo, .int .i64 hi, .int .i64 first] [Dat 27 bb N cap D] (.tuple #[]) [Dat 27 bb N cap (siftDown ltInt hi first lo D)] := by
  refine fn_of_run en94 fn94 rfl rfl rfl ?_
  repeat' (first | refine zck ?_ | refine zcp (by kernel_rfl) ?_ | refine zcl ?_ | (refine zap rfl ?_; first | ((with_reducible refine zcu ?_); refine zan rfl ?_) | ((with_reducible refine zcv ?_); refine zan rfl ?_)) | refine zch ?_)
  refine run_loop (S := Nat × Array Int) (fun s => [(0, .slice (some ⟨bb, 0, none⟩) N cap), (2, .int .i64 hi), (3, .int .i64 first), (8, .int .i64 s.1)])
    (fun s Γ => Γ = [Dat 27 bb N cap s.2] ∧ s.1 ≤ hi ∧ s.2.size = N ∧ siftDown ltInt hi first s.1 s.2 = siftDown ltInt hi first lo D)
    (fun s => hi - s.1) (lo, D) ⟨rfl, rfl, rfl, rfl, trivial⟩ ⟨rfl, by omega, hD, rfl⟩ ?_
  rintro ⟨r, d⟩ Γ junk ⟨rfl, h1, h3, h4⟩
  dsimp only at h1 h3 h4 ⊢
  by_cases hi2 : 2 * r + 1 < hi
  · have e3 : ((first : Int) + (2 * (r : Int) + 1)).toNat = first + (2 * r + 1) := by omega
    have e4 : ((first : Int) + (2 * (r : Int) + 1) + 1).toNat = first + (2 * r + 1) + 1 := by omega
    by_cases hc : 2 * r + 2 < hi
    · repeat' (first | refine zck ?_ | refine zcp (by kernel_rfl) ?_ | refine run_drawR PP_mixed (by kernel_rfl) (by kernel_rfl) ?_ | refine zcm ?_ | refine zcl ?_ | (refine zap rfl ?_; first | refine reg_load_d 0 rfl rfl (by omega) ?_ | ((with_reducible refine zct ?_); refine zaj rfl ?_) | ((with_reducible refine zcu ?_); refine zan rfl ?_) | ((with_reducible refine zcv ?_); refine zan rfl ?_) | ((with_reducible refine zcx ?_); refine zah [] (less_spec w0 _ _) rfl rfl rfl sub_nil rfl ?_) | ((with_reducible refine zda ?_); first | refine zbg rfl rfl (by omega) ?_ | refine zbn rfl rfl (by omega) ?_ | refine zau rfl rfl (by omega) ?_ | refine zaw rfl rfl (by omega) ?_) | ((with_reducible refine zdc ?_); refine zbu rfl ?_) | ((with_reducible refine zdf ?_); refine zas rfl rfl (by omega) ?_)) | refine zch ?_ | refine zcj rfl ?_)
      refine run_cond rfl (fun hE => ?_) (fun hE => ?_)
      · have hg : gch hi first r d = 2 * r + 2 := by
          unfold gch; rw [if_pos]
          rw [e3, e4] at hE
          simp only [Bool.and_eq_true, decide_eq_true_eq]; exact ⟨by omega, decide_eq_true hE⟩
        have e1 : ((first : Int) + (r : Int)).toNat = first + r := by omega
        have e2 : ((first : Int) + (2 * (r : Int) + 1 + 1)).toNat = first + (2 * r + 2) := by omega
        repeat' (first | refine zck ?_ | refine zcp (by kernel_rfl) ?_ | refine run_drawR PP_mixed (by kernel_rfl) (by kernel_rfl) ?_ | (refine zap rfl ?_; first | refine reg_load_d 0 rfl rfl (by omega) ?_ | ((with_reducible refine zcu ?_); refine zan rfl ?_) | ((with_reducible refine zcv ?_); refine zan rfl ?_) | ((with_reducible refine zcx ?_); refine zah [] (less_spec w0 _ _) rfl rfl rfl sub_nil rfl ?_) | ((with_reducible refine zda ?_); refine zau rfl rfl (by omega) ?_) | ((with_reducible refine zdb ?_); refine zby rfl ?_) | ((with_reducible refine zdf ?_); refine zas rfl rfl (by omega) ?_)) | refine zch ?_)
        refine run_cond rfl (fun hE2 => ?_) (fun hE2 => ?_)
        · rw [e1, e2] at hE2
          refine qret0 (fun _ _ h => h) rfl ⟨rfl, (show [_] = [_] from ?_)⟩
          rw [← h4, sift_stop hi2 (by rw [hg]; exact decide_eq_false (by simpa using hE2))]
        · rw [e1, e2] at hE2
          repeat' (first | refine zck ?_ | refine zcp (by kernel_rfl) ?_ | refine run_drawR PP_mixed (by kernel_rfl) (by kernel_rfl) ?_ | refine zcm ?_ | refine zcn ?_ | (refine zap rfl ?_; first | refine reg_load_d 0 rfl rfl (by omega) ?_ | refine reg_store_d 0 rfl rfl rfl (by omega) rfl ?_ | ((with_reducible refine zcu ?_); refine zan rfl ?_) | ((with_reducible refine zcv ?_); refine zan rfl ?_) | ((with_reducible refine zda ?_); refine zau rfl rfl (by omega) ?_) | ((with_reducible refine zdf ?_); refine zas rfl rfl (by omega) ?_)) | refine zch ?_)
          refine cut_end ⟨rfl, (2 * r + 2, swp d (first + r) (first + (2 * r + 2))), ⟨rfl, rfl, rfl, int_eq (by dsimp only; omega), trivial⟩, ⟨?_, by dsimp only; omega, ?_, ?_⟩, by dsimp only; omega⟩
          · rw [e1, e2]; rfl
          · rw [Go.Sort.size_swp]; exact h3
          · rw [← h4, sift_go hi2 (by rw [hg]; exact decide_eq_true (by simpa using hE2)), hg]
      · have hg : gch hi first r d = 2 * r + 1 := by
          unfold gch; rw [if_neg]
          rw [e3, e4] at hE
          simp only [Bool.and_eq_true, decide_eq_true_eq, not_and]; intro _ h; exact hE (of_decide_eq_true h)
        have e1 : ((first : Int) + (r : Int)).toNat = first + r := by omega
        have e2 : ((first : Int) + (2 * (r : Int) + 1)).toNat = first + (2 * r + 1) := by omega
        repeat' (first | refine zck ?_ | refine run_drawR PP_mixed (by kernel_rfl) (by kernel_rfl) ?_ | refine zcm ?_ | (refine zap rfl ?_; first | refine reg_load_d 0 rfl rfl (by omega) ?_ | ((with_reducible refine zcu ?_); refine zan rfl ?_) | ((with_reducible refine zcx ?_); refine zah [] (less_spec w0 _ _) rfl rfl rfl sub_nil rfl ?_) | ((with_reducible refine zda ?_); refine zau rfl rfl (by omega) ?_) | ((with_reducible refine zdb ?_); refine zby rfl ?_) | ((with_reducible refine zdf ?_); refine zas rfl rfl (by omega) ?_)) | refine zch ?_)
        refine run_cond rfl (fun hE2 => ?_) (fun hE2 => ?_)
        · rw [e1, e2] at hE2
          refine qret0 (fun _ _ h => h) rfl ⟨rfl, (show [_] = [_] from ?_)⟩
          rw [← h4, sift_stop hi2 (by rw [hg]; exact decide_eq_false (by simpa using hE2))]
        · rw [e1, e2] at hE2
          repeat' (first | refine zck ?_ | refine zcp (by kernel_rfl) ?_ | refine run_drawR PP_mixed (by kernel_rfl) (by kernel_rfl) ?_ | refine zcm ?_ | refine zcn ?_ | (refine zap rfl ?_; first | refine reg_load_d 0 rfl rfl (by omega) ?_ | refine reg_store_d 0 rfl rfl rfl (by omega) rfl ?_ | ((with_reducible refine zcu ?_); refine zan rfl ?_) | ((with_reducible refine zcv ?_); refine zan rfl ?_) | ((with_reducible refine zda ?_); refine zau rfl rfl (by omega) ?_) | ((with_reducible refine zdf ?_); refine zas rfl rfl (by omega) ?_)) | refine zch ?_)
          refine cut_end ⟨rfl, (2 * r + 1, swp d (first + r) (first + (2 * r + 1))), ⟨rfl, rfl, rfl, int_eq (by dsimp only; omega), trivial⟩, ⟨?_, by dsimp only; omega, ?_, ?_⟩, by dsimp only; omega⟩
          · rw [e1, e2]; rfl
          · rw [Go.Sort.size_swp]; exact h3
          · rw [← h4, sift_go hi2 (by rw [hg]; exact decide_eq_true (by simpa using hE2)), hg]
    · have hg : gch hi first r d = 2 * r + 1 := by
        unfold gch; rw [if_neg]
        simp only [Bool.and_eq_true, decide_eq_true_eq, not_and]; intro h; omega
      have e1 : ((first : Int) + (r : Int)).toNat = first + r := by omega
      have e2 : ((first : Int) + (2 * (r : Int) + 1)).toNat = first + (2 * r + 1) := by omega
      repeat' (first | refine zck ?_ | refine zcp (by kernel_rfl) ?_ | refine run_drawR PP_mixed (by kernel_rfl) (by kernel_rfl) ?_ | refine zcm ?_ | refine zcl ?_ | (refine zap rfl ?_; first | refine reg_load_d 0 rfl rfl (by omega) ?_ | ((with_reducible refine zct ?_); refine zak rfl ?_) | ((with_reducible refine zcu ?_); refine zan rfl ?_) | ((with_reducible refine zcv ?_); refine zan rfl ?_) | ((with_reducible refine zcx ?_); refine zah [] (less_spec w0 _ _) rfl rfl rfl sub_nil rfl ?_) | ((with_reducible refine zda ?_); first | refine zbh rfl rfl (by omega) ?_ | refine zbn rfl rfl (by omega) ?_ | refine zau rfl rfl (by omega) ?_ | refine zaw rfl rfl (by omega) ?_) | ((with_reducible refine zdb ?_); refine zby rfl ?_) | ((with_reducible refine zdc ?_); refine zbv rfl ?_) | ((with_reducible refine zdf ?_); refine zas rfl rfl (by omega) ?_)) | refine zch ?_ | refine zcj rfl ?_)
      refine run_cond rfl (fun hE2 => ?_) (fun hE2 => ?_)
      · rw [e1, e2] at hE2
        refine qret0 (fun _ _ h => h) rfl ⟨rfl, (show [_] = [_] from ?_)⟩
        rw [← h4, sift_stop hi2 (by rw [hg]; exact decide_eq_false (by simpa using hE2))]
      · rw [e1, e2] at hE2
        repeat' (first | refine zck ?_ | refine zcp (by kernel_rfl) ?_ | refine run_drawR PP_mixed (by kernel_rfl) (by kernel_rfl) ?_ | refine zcm ?_ | refine zcn ?_ | (refine zap rfl ?_; first | refine reg_load_d 0 rfl rfl (by omega) ?_ | refine reg_store_d 0 rfl rfl rfl (by omega) rfl ?_ | ((with_reducible refine zcu ?_); refine zan rfl ?_) | ((with_reducible refine zcv ?_); refine zan rfl ?_) | ((with_reducible refine zda ?_); refine zau rfl rfl (by omega) ?_) | ((with_reducible refine zdf ?_); refine zas rfl rfl (by omega) ?_)) | refine zch ?_)
        refine cut_end ⟨rfl, (2 * r + 1, swp d (first + r) (first + (2 * r + 1))), ⟨rfl, rfl, rfl, int_eq (by dsimp only; omega), trivial⟩, ⟨?_, by dsimp only; omega, ?_, ?_⟩, by dsimp only; omega⟩
        · rw [e1, e2]; rfl
        · rw [Go.Sort.size_swp]; exact h3
        · rw [← h4, sift_go hi2 (by rw [hg]; exact decide_eq_true (by simpa using hE2)), hg]
  · repeat' (first | refine zck ?_ | refine zcp (by kernel_rfl) ?_ | refine zcl ?_ | (refine zap rfl ?_; first | ((with_reducible refine zcu ?_); refine zan rfl ?_) | ((with_reducible refine zcv ?_); refine zan rfl ?_) | ((with_reducible refine zda ?_); first | refine zbm rfl rfl (by omega) ?_ | refine zau rfl rfl (by omega) ?_ | refine zaw rfl rfl (by omega) ?_)) | refine zch ?_ | refine zci rfl ?_)
    refine cut_exit rfl rfl ?_
    repeat' (first | refine zck ?_ | (refine zap rfl ?_; first | ((with_reducible refine zct ?_); first | refine zaj rfl ?_ | refine zak rfl ?_ | refine zal rfl ?_ | refine zam rfl rfl (fun _ => ?_) (fun _ => ?_))) | refine zch ?_)
    refine end_tmp0 rfl ⟨rfl, ?_⟩
    rw [← h4, sift_ge (by omega)]
theorem sift_specZ (w0 : World) (bb N cap : Nat) (D : Array Int) (zl zh zf : Int) (lo hi first : Nat) (hN : N ≤ 1152921504606846975) (hf : first + hi ≤ N) (hlo : lo ≤ hi) (hD : D.size = N) (e1 : zl = lo) (e2 : zh = hi) (e3 : zf = first) :
    FnE PP w0 [] 94 [.slice (some ⟨bb, 0, none⟩) N cap, .int .i64 zl, .int .i64 zh, .int .i64 zf] [Dat 27 bb N cap D] (.tuple #[]) [Dat 27 bb N cap (siftDown ltInt hi first lo D)] := by
  subst e1; subst e2; subst e3; exact sift_spec w0 bb N cap D lo hi first hN hf hlo hD
end Go.Proofs.Ytpcnbaddkblbhaa

namespace Go.Proofs.Ytpcnbaddkblbhaa
open Go.Vc
open Go.Sort (ltInt swp siftDown heapBuild heapPop heapSort)
theorem size_sift (hi first : Nat) : ∀ (m root : Nat) (d : Array Int), hi - root ≤ m → (siftDown ltInt hi first root d).size = d.size := by
  intro m
  induction m with
  | zero => intro root d h; rw [sift_ge (by omega)]
  | succ m ih =>
    intro root d h
    by_cases h1 : 2 * root + 1 < hi
    · have h2 := gch_lt (first := first) (d := d) h1
      cases hl : ltInt d[first + root]! d[first + gch hi first root d]! with
      | false => rw [sift_stop h1 hl]
      | true => rw [sift_go h1 hl, ih _ _ (by omega), Go.Sort.size_swp]
    · rw [sift_ge (by omega)]
theorem heap_spec (w0 : World) (bb N cap : Nat) (D : Array Int) (a b : Nat) (hN : N ≤ 1152921504606846975) (hab : a < b) (hb : b ≤ N) (hD : D.size = N) :
    FnE PP w0 [] 80 [.slice (some ⟨bb, 0, none⟩) N cap, .int .i64 a, .int .i64 b] [Dat 27 bb N cap D] (.tuple #[]) [Dat 27 bb N cap (heapSort ltInt D a b)] := by
  refine fn_of_run en80 fn80 rfl rfl rfl ?_
  repeat' (first | refine zck ?_ | refine zcp (by kernel_rfl) ?_ | refine zcl ?_ | (refine zap rfl ?_; first | ((with_reducible refine zcu ?_); refine zan rfl ?_) | ((with_reducible refine zcv ?_); refine zan rfl ?_) | ((with_reducible refine zda ?_); first | refine zav rfl rfl (by omega) ?_ | refine zax rfl rfl (by omega) ?_)) | refine zch ?_)
  refine run_loop (S := Nat × Array Int) (fun s => [(0, .slice (some ⟨bb, 0, none⟩) N cap), (6, .int .i64 a), (7, .int .i64 0), (8, .int .i64 (b - a)), (9, .int .i64 ((s.1 : Int) - 1))])
    (fun s Γ => Γ = [Dat 27 bb N cap s.2] ∧ s.1 ≤ b - a ∧ s.2.size = N ∧ heapBuild ltInt (b - a) a s.1 s.2 = heapBuild ltInt (b - a) a ((b - a - 1) / 2 + 1) D)
    (fun s => s.1) ((b - a - 1) / 2 + 1, D) ⟨rfl, rfl, rfl, rfl, int_eq (by dsimp only; omega), trivial⟩ ⟨rfl, by dsimp only; omega, hD, rfl⟩ ?_
  rintro ⟨i, d⟩ Γ junk ⟨rfl, h1, h3, h4⟩
  dsimp only at h1 h3 h4 ⊢
  by_cases hi : 0 < i
  · obtain ⟨i, rfl⟩ : ∃ m, i = m + 1 := ⟨i - 1, by omega⟩
    repeat' (first | refine zck ?_ | refine zcp (by kernel_rfl) ?_ | refine zcm ?_ | refine zcl ?_ | refine zcn ?_ | (refine zap rfl ?_; first | ((with_reducible refine zcu ?_); refine zan rfl ?_) | ((with_reducible refine zcv ?_); refine zan rfl ?_) | ((with_reducible refine zcx ?_); refine zah [0] (sift_specZ w0 bb N cap _ _ _ _ i (b - a) a hN (by omega) (by omega) h3 (by omega) (by omega) rfl) rfl rfl rfl sub_nil rfl ?_) | ((with_reducible refine zda ?_); first | refine zbm rfl rfl (by omega) ?_ | refine zav rfl rfl (by omega) ?_)) | refine zch ?_ | refine zci rfl ?_)
    refine cut_end ⟨rfl, (i, siftDown ltInt (b - a) a i d), ⟨rfl, rfl, rfl, rfl, int_eq (by dsimp only; omega), trivial⟩, ⟨rfl, by dsimp only; omega, ?_, ?_⟩, by dsimp only; omega⟩
    · rw [size_sift _ _ _ _ _ (Nat.le_refl _)]; exact h3
    · rw [← h4]; rfl
  · repeat' (first | refine zck ?_ | refine zcp (by kernel_rfl) ?_ | (refine zap rfl ?_; first | ((with_reducible refine zcu ?_); refine zan rfl ?_) | ((with_reducible refine zda ?_); refine zbn rfl rfl (by omega) ?_)) | refine zch ?_ | refine zcj rfl ?_)
    refine cut_exit rfl rfl ?_
    have hi0 : i = 0 := by omega
    subst hi0
    repeat' (first | refine zck ?_ | refine zcp (by kernel_rfl) ?_ | refine zcl ?_ | (refine zap rfl ?_; first | ((with_reducible refine zcu ?_); refine zan rfl ?_) | ((with_reducible refine zcv ?_); refine zan rfl ?_) | ((with_reducible refine zda ?_); refine zav rfl rfl (by omega) ?_)) | refine zch ?_)
    refine run_loop (S := Nat × Array Int) (fun s => [(0, .slice (some ⟨bb, 0, none⟩) N cap), (6, .int .i64 a), (7, .int .i64 0), (8, .int .i64 (b - a)), (10, .int .i64 ((s.1 : Int) - 1))])
      (fun s Γ => Γ = [Dat 27 bb N cap s.2] ∧ s.1 ≤ b - a ∧ s.2.size = N ∧ heapPop ltInt a s.1 s.2 = heapSort ltInt D a b)
      (fun s => s.1) (b - a, d) ⟨rfl, rfl, rfl, rfl, int_eq (by dsimp only; omega), trivial⟩ ⟨rfl, by dsimp only; omega, h3, by unfold heapSort; rw [← h4]; rfl⟩ ?_
    rintro ⟨i, d⟩ Γ junk ⟨rfl, g1, g3, g4⟩
    dsimp only at g1 g3 g4 ⊢
    by_cases hi : 0 < i
    · obtain ⟨i, rfl⟩ : ∃ m, i = m + 1 := ⟨i - 1, by omega⟩
      have e1 : ((a : Nat) : Int).toNat = a := by omega
      have e2 : ((a : Int) + (((i + 1 : Nat) : Int) - 1)).toNat = a + i := by omega
      have hs : (swp d (a : Int).toNat ((a : Int) + (((i + 1 : Nat) : Int) - 1)).toNat).size = N := by rw [Go.Sort.size_swp]; exact g3
      repeat' (first | refine zck ?_ | refine zcp (by kernel_rfl) ?_ | refine run_drawR PP_mixed (by kernel_rfl) (by kernel_rfl) ?_ | refine zcm ?_ | refine zcl ?_ | refine zcn ?_ | (refine zap rfl ?_; first | refine reg_load_d 0 rfl rfl (by omega) ?_ | refine reg_store_d 0 rfl rfl rfl (by omega) rfl ?_ | ((with_reducible refine zcu ?_); refine zan rfl ?_) | ((with_reducible refine zcv ?_); refine zan rfl ?_) | ((with_reducible refine zcx ?_); refine zah [0] (sift_specZ w0 bb N cap _ _ _ _ 0 i a hN (by omega) (by omega) hs (by omega) (by omega) rfl) rfl rfl rfl sub_nil rfl ?_) | ((with_reducible refine zda ?_); first | refine zbm rfl rfl (by omega) ?_ | refine zau rfl rfl (by omega) ?_ | refine zav rfl rfl (by omega) ?_) | ((with_reducible refine zdf ?_); refine zas rfl rfl (by omega) ?_)) | refine zch ?_ | refine zci rfl ?_)
      refine cut_end ⟨rfl, (i, siftDown ltInt i a 0 (swp d a (a + i))), ⟨rfl, rfl, rfl, rfl, int_eq (by dsimp only; omega), trivial⟩, ⟨?_, by dsimp only; omega, ?_, ?_⟩, by dsimp only; omega⟩
      · rw [e1, e2]; rfl
      · rw [size_sift _ _ _ _ _ (Nat.le_refl _), Go.Sort.size_swp]; exact g3
      · rw [← g4]; rfl
    · repeat' (first | refine zck ?_ | refine zcp (by kernel_rfl) ?_ | (refine zap rfl ?_; first | ((with_reducible refine zcu ?_); refine zan rfl ?_) | ((with_reducible refine zda ?_); refine zbn rfl rfl (by omega) ?_)) | refine zch ?_ | refine zcj rfl ?_)
      refine cut_exit rfl rfl ?_
      have hi0 : i = 0 := by omega
      subst hi0
      repeat' (first | refine zck ?_ | (refine zap rfl ?_; first | ((with_reducible refine zcu ?_); refine zan rfl ?_)) | refine zch ?_)
      refine end_tmp0 rfl ⟨rfl, (show [_] = [_] from ?_)⟩
      rw [← g4]; rfl
end Go.Proofs.Ytpcnbaddkblbhaa

namespace Go.Proofs.Ytpcnbaddkblbhaa
open Go.Vc
open Go.Sort (ltInt swp scanUp scanDown partLoop partition partEqLoop partitionEqual)
theorem up_go {p : Int → Bool} {d : Array Int} {j i : Nat} (h : i ≤ j) (hp : p d[i]! = true) : scanUp p d j i = scanUp p d j (i + 1) := by
  rw [scanUp, if_pos (by simp only [hp, Bool.and_true, decide_eq_true_eq]; exact h)]
theorem up_stop {p : Int → Bool} {d : Array Int} {j i : Nat} (h : i ≤ j → p d[i]! = false) : scanUp p d j i = i := by
  rw [scanUp, if_neg]
  simp only [Bool.and_eq_true, decide_eq_true_eq, not_and, Bool.not_eq_true]; exact h
theorem down_go {p : Int → Bool} {d : Array Int} {i j : Nat} (h : i ≤ j + 1) (hp : p d[j + 1]! = true) : scanDown p d i (j + 1) = scanDown p d i j := by
  rw [scanDown, if_pos (by simp only [hp, Bool.and_true, decide_eq_true_eq]; exact h)]
theorem down_stop {p : Int → Bool} {d : Array Int} {i j : Nat} (h : 0 < j → i ≤ j → p d[j]! = false) : scanDown p d i j = j := by
  cases j with
  | zero => rfl
  | succ j =>
    rw [scanDown, if_neg]
    simp only [Bool.and_eq_true, decide_eq_true_eq, not_and, Bool.not_eq_true]; exact h (Nat.succ_pos _)
theorem part_gt {D d : Array Int} {a b pivot i j : Nat} (hd : d = swp D a pivot) (hi : i = scanUp (fun x => ltInt x d[a]!) d (b - 1) (a + 1)) (hj : j = scanDown (fun x => !ltInt x d[a]!) d i (b - 1)) (h : i > j) : partition ltInt D a b pivot = (j, true, swp d j a) := by
  unfold partition
  simp only [← hd, ← hi, ← hj]
  rw [if_pos h]
theorem part_le {D d : Array Int} {a b pivot i j : Nat} (hd : d = swp D a pivot) (hi : i = scanUp (fun x => ltInt x d[a]!) d (b - 1) (a + 1)) (hj : j = scanDown (fun x => !ltInt x d[a]!) d i (b - 1)) (h : ¬ i > j) :
    partition ltInt D a b pivot = ((partLoop ltInt a (i + 1) (j - 1) (swp d i j)).1, false, swp (partLoop ltInt a (i + 1) (j - 1) (swp d i j)).2 (partLoop ltInt a (i + 1) (j - 1) (swp d i j)).1 a) := by
  unfold partition
  simp only [← hd, ← hi, ← hj]
  rw [if_neg h]
set_option maxHeartbeats 4000000
theorem part_spec (w0 : World) (bb N cap : Nat) (D : Array Int) (a b pivot : Nat) (hN : N ≤ 1152921504606846975) (hap : a ≤ pivot) (hpb : pivot < b) (hb : b ≤ N) (hD : D.size = N) :
    FnE PP w0 [] 87 [.slice (some ⟨bb, 0, none⟩) N cap, .int .i64 a, .int .i64 b, .int .i64 pivot] [Dat 27 bb N cap D]
      (.tuple #[.int .i64 ((partition ltInt D a b pivot).1 : Nat), .bool (partition ltInt D a b pivot).2.1]) [Dat 27 bb N cap (partition ltInt D a b pivot).2.2] := by
  refine fn_of_run en87 fn87 rfl rfl rfl ?_
  repeat (first | refine zck ?_ | refine zcl ?_ | refine zcm ?_ | refine zcn ?_)
  first | refine zcp (by kernel_rfl) ?_ | refine run_drawR PP_mixed (by kernel_rfl) (by kernel_rfl) ?_
  repeat' (refine zap rfl ?_; first | ((with_reducible refine zcv ?_); refine zan rfl ?_))
  all_goals refine zch ?_
  all_goals repeat (refine zck ?_)
  repeat (first | refine zck ?_ | refine zcl ?_ | refine zcm ?_ | refine zcn ?_)
  first | refine zcp (by kernel_rfl) ?_ | refine run_drawR PP_mixed (by kernel_rfl) (by kernel_rfl) ?_
  repeat' (refine zap rfl ?_; first | refine reg_load_d 0 rfl rfl (by omega) ?_ | refine reg_store_d 0 rfl rfl rfl (by omega) rfl ?_ | ((with_reducible refine zcu ?_); refine zan rfl ?_) | ((with_reducible refine zdf ?_); refine zas rfl rfl (by omega) ?_))
  all_goals refine zch ?_
  all_goals repeat (refine zck ?_)
  repeat (first | refine zck ?_ | refine zcl ?_ | refine zcm ?_ | refine zcn ?_)
  first | refine zcp (by kernel_rfl) ?_ | refine run_drawR PP_mixed (by kernel_rfl) (by kernel_rfl) ?_
  repeat' (refine zap rfl ?_; first | ((with_reducible refine zcu ?_); refine zan rfl ?_) | ((with_reducible refine zcv ?_); refine zan rfl ?_) | ((with_reducible refine zda ?_); first | refine zau rfl rfl (by omega) ?_ | refine zav rfl rfl (by omega) ?_))
  all_goals refine zch ?_
  all_goals repeat (refine zck ?_)
  obtain ⟨d, hd⟩ : ∃ d, d = swp D a pivot := ⟨_, rfl⟩
  have hds : d.size = N := by rw [hd, Go.Sort.size_swp]; exact hD
  obtain ⟨i, hi⟩ : ∃ i, i = scanUp (fun x => ltInt x d[a]!) d (b - 1) (a + 1) := ⟨_, rfl⟩
  obtain ⟨j, hj⟩ : ∃ j, j = scanDown (fun x => !ltInt x d[a]!) d i (b - 1) := ⟨_, rfl⟩
  have hi1 : a + 1 ≤ i := by rw [hi]; exact Go.Sort.scanUp_ge _ _ _ _
  have hi2 : i ≤ b - 1 + 1 := by rw [hi]; exact (Go.Sort.scanUp_spec _ d (b - 1) _ (a + 1) rfl).2.1 (by omega)
  have hj1 : j ≤ b - 1 := by rw [hj]; exact Go.Sort.scanDown_le _ _ _ _
  have hj2 : i ≤ j + 1 := by rw [hj]; exact (Go.Sort.scanDown_spec _ d i (b - 1)).2.1 hi2
  have hij : ¬ j < i → i < j := fun h => by
    rcases Nat.lt_or_ge i j with h1 | h1
    · exact h1
    · have e : j = i := by omega
      have p1 := (Go.Sort.scanUp_spec (fun x => ltInt x d[a]!) d (b - 1) _ (a + 1) rfl).2.2.2
      have p2 := (Go.Sort.scanDown_spec (fun x => !ltInt x d[a]!) d i (b - 1)).2.2.2
      rw [← hi] at p1; rw [← hj] at p2
      have p3 := p1 (by omega); have p4 := p2 (by omega) (by omega)
      rw [e] at p4; (try dsimp only at p3 p4); simp [p3] at p4
  refine run_bind_eq (l' := [(0, .slice (some ⟨bb, 0, none⟩) N cap), (1, .int .i64 a), (10, .int .i64 ((i : Nat) : Int)), (11, .int .i64 ((b - 1 : Nat) : Int))]) (Γ' := [Dat 27 bb N cap d]) ?_ (fun junk => ?_)
  · repeat' (first | refine zcl ?_ | (refine zap rfl ?_; first | ((with_reducible refine zct ?_); first | refine zaj rfl ?_ | refine zak rfl ?_ | refine zal rfl ?_ | refine zam rfl rfl (fun _ => ?_) (fun _ => ?_))) | refine zch ?_)
    refine run_loop (S := Nat) (fun u => [(0, .slice (some ⟨bb, 0, none⟩) N cap), (1, .int .i64 a), (10, .int .i64 ((u : Nat) : Int)), (11, .int .i64 ((b - 1 : Nat) : Int))]) (fun u Γ => Γ = [Dat 27 bb N cap d] ∧ a + 1 ≤ u ∧ u ≤ b - 1 + 1 ∧ scanUp (fun x => ltInt x d[a]!) d (b - 1) u = i) (fun u => b - 1 + 1 - u) (a + 1) ⟨rfl, rfl, int_eq (by first | rfl | omega | (dsimp only; omega)), int_eq (by first | rfl | omega | (dsimp only; omega)), trivial⟩ ⟨?_, by omega, by omega, hi.symm⟩ ?_
    · rw [hd]; rfl
    rintro u Γ junk ⟨rfl, h1, h2, h4⟩
    try dsimp only at h1 h2 h4 ⊢
    by_cases hc : u ≤ b - 1
    · repeat' (first | refine zck ?_ | refine run_drawR PP_mixed (by kernel_rfl) (by kernel_rfl) ?_ | (refine zap rfl ?_; first | refine reg_load_d 0 rfl rfl (by omega) ?_ | ((with_reducible refine zct ?_); refine zaj rfl ?_) | ((with_reducible refine zcu ?_); refine zan rfl ?_) | ((with_reducible refine zcx ?_); refine zah [] (less_spec w0 _ _) rfl rfl rfl sub_nil rfl ?_) | ((with_reducible refine zda ?_); refine zbi rfl rfl (by omega) ?_) | ((with_reducible refine zdc ?_); refine zbu rfl ?_) | ((with_reducible refine zdf ?_); refine zas rfl rfl (by omega) ?_)) | refine zch ?_)
      refine run_cond rfl (fun hE => ?_) (fun hE => ?_)
      · repeat' (first | refine zcp (by kernel_rfl) ?_ | refine zcm ?_ | refine zcl ?_ | refine zcn ?_ | (refine zap rfl ?_; first | ((with_reducible refine zcu ?_); refine zan rfl ?_) | ((with_reducible refine zcv ?_); refine zan rfl ?_) | ((with_reducible refine zda ?_); refine zau rfl rfl (by omega) ?_)) | refine zch ?_)
        refine cut_end ⟨rfl, u + 1, ⟨rfl, rfl, int_eq (by omega), rfl, trivial⟩, ⟨rfl, by omega, by omega, ?_⟩, by omega⟩
        rw [← h4, up_go hc (by simpa [ltInt] using hE)]
      · refine cut_exit rfl rfl ?_
        refine cut_end ⟨rfl, ⟨rfl, rfl, int_eq (congrArg Int.ofNat (by rw [← h4, up_stop (fun _ => by simpa [ltInt] using hE)])), rfl, trivial⟩, rfl⟩
    · repeat' (first | refine zck ?_ | refine run_drawR PP_mixed (by kernel_rfl) (by kernel_rfl) ?_ | (refine zap rfl ?_; first | ((with_reducible refine zct ?_); refine zak rfl ?_) | ((with_reducible refine zcu ?_); refine zan rfl ?_) | ((with_reducible refine zda ?_); refine zbj rfl rfl (by omega) ?_) | ((with_reducible refine zdc ?_); refine zbv rfl ?_)) | refine zch ?_ | refine zcj rfl ?_)
      refine cut_exit rfl rfl ?_
      refine cut_end ⟨rfl, ⟨rfl, rfl, int_eq (congrArg Int.ofNat (by rw [← h4, up_stop (fun h => absurd h hc)])), rfl, trivial⟩, rfl⟩
  repeat refine zck ?_
  refine run_bind_eq (l' := [(0, .slice (some ⟨bb, 0, none⟩) N cap), (1, .int .i64 a), (10, .int .i64 ((i : Nat) : Int)), (11, .int .i64 ((j : Nat) : Int))]) (Γ' := [Dat 27 bb N cap d]) ?_ (fun junk => ?_)
  · repeat' (first | refine zcl ?_ | (refine zap rfl ?_; first | ((with_reducible refine zct ?_); first | refine zaj rfl ?_ | refine zak rfl ?_ | refine zal rfl ?_ | refine zam rfl rfl (fun _ => ?_) (fun _ => ?_))) | refine zch ?_)
    refine run_loop (S := Nat) (fun u => [(0, .slice (some ⟨bb, 0, none⟩) N cap), (1, .int .i64 a), (10, .int .i64 ((i : Nat) : Int)), (11, .int .i64 ((u : Nat) : Int))]) (fun u Γ => Γ = [Dat 27 bb N cap d] ∧ u ≤ b - 1 ∧ i ≤ u + 1 ∧ scanDown (fun x => !ltInt x d[a]!) d (i) u = j) (fun u => u) (b - 1) ⟨rfl, rfl, int_eq (by first | rfl | omega | (dsimp only; omega)), int_eq (by first | rfl | omega | (dsimp only; omega)), trivial⟩ ⟨?_, by omega, by omega, hj.symm⟩ ?_
    · rfl
    rintro u Γ junk ⟨rfl, h1, h2, h4⟩
    try dsimp only at h1 h2 h4 ⊢
    by_cases hc : i ≤ u
    · obtain ⟨u, rfl⟩ : ∃ m, u = m + 1 := ⟨u - 1, by omega⟩
      repeat' (first | refine zck ?_ | refine run_drawR PP_mixed (by kernel_rfl) (by kernel_rfl) ?_ | (refine zap rfl ?_; first | refine reg_load_d 0 rfl rfl (by omega) ?_ | ((with_reducible refine zct ?_); refine zaj rfl ?_) | ((with_reducible refine zcu ?_); refine zan rfl ?_) | ((with_reducible refine zcx ?_); refine zah [] (less_spec w0 _ _) rfl rfl rfl sub_nil rfl ?_) | ((with_reducible refine zda ?_); refine zbi rfl rfl (by omega) ?_) | ((with_reducible refine zdb ?_); refine zby rfl ?_) | ((with_reducible refine zdc ?_); refine zbu rfl ?_) | ((with_reducible refine zdf ?_); refine zas rfl rfl (by omega) ?_)) | refine zch ?_)
      refine run_cond rfl (fun hE => ?_) (fun hE => ?_)
      · repeat' (first | refine zcp (by kernel_rfl) ?_ | refine zcm ?_ | refine zcl ?_ | refine zcn ?_ | (refine zap rfl ?_; first | ((with_reducible refine zcu ?_); refine zan rfl ?_) | ((with_reducible refine zcv ?_); refine zan rfl ?_) | ((with_reducible refine zda ?_); refine zav rfl rfl (by omega) ?_)) | refine zch ?_)
        refine cut_end ⟨rfl, u, ⟨rfl, rfl, rfl, int_eq (by omega), trivial⟩, ⟨rfl, by omega, by omega, ?_⟩, by omega⟩
        rw [← h4, down_go hc (by simpa [ltInt] using hE)]
      · refine cut_exit rfl rfl ?_
        refine cut_end ⟨rfl, ⟨rfl, rfl, rfl, int_eq (congrArg Int.ofNat (by rw [← h4, down_stop (fun _ _ => by simpa [ltInt] using hE)])), trivial⟩, rfl⟩
    · repeat' (first | refine zck ?_ | refine run_drawR PP_mixed (by kernel_rfl) (by kernel_rfl) ?_ | (refine zap rfl ?_; first | ((with_reducible refine zct ?_); refine zak rfl ?_) | ((with_reducible refine zcu ?_); refine zan rfl ?_) | ((with_reducible refine zda ?_); refine zbj rfl rfl (by omega) ?_) | ((with_reducible refine zdc ?_); refine zbv rfl ?_)) | refine zch ?_ | refine zcj rfl ?_)
      refine cut_exit rfl rfl ?_
      refine cut_end ⟨rfl, ⟨rfl, rfl, rfl, int_eq (congrArg Int.ofNat (by rw [← h4, down_stop (fun _ h => absurd h hc)])), trivial⟩, rfl⟩
  by_cases hgt : j < i
  · repeat' (first | refine zck ?_ | refine zcp (by kernel_rfl) ?_ | refine run_drawR PP_mixed (by kernel_rfl) (by kernel_rfl) ?_ | (refine zap rfl ?_; first | refine reg_load_d 0 rfl rfl (by omega) ?_ | refine reg_store_d 0 rfl rfl rfl (by omega) rfl ?_ | ((with_reducible refine zcu ?_); refine zan rfl ?_) | ((with_reducible refine zcv ?_); refine zan rfl ?_) | ((with_reducible refine zda ?_); refine zbk rfl rfl (by omega) ?_) | ((with_reducible refine zdf ?_); refine zas rfl rfl (by omega) ?_)) | refine zch ?_ | refine zci rfl ?_)
    rw [part_gt hd hi hj hgt]
    exact ret_tmp2 rfl ⟨rfl, rfl⟩
  · rw [part_le hd hi hj hgt]
    replace hij := hij hgt
    obtain ⟨e, he⟩ : ∃ e, e = swp d i j := ⟨_, rfl⟩
    have hes : e.size = N := by rw [he, Go.Sort.size_swp]; exact hds
    repeat' (first | refine zck ?_ | refine zcp (by kernel_rfl) ?_ | refine run_drawR PP_mixed (by kernel_rfl) (by kernel_rfl) ?_ | refine zcm ?_ | refine zcl ?_ | (refine zap rfl ?_; first | refine reg_load_d 0 rfl rfl (by omega) ?_ | refine reg_store_d 0 rfl rfl rfl (by omega) rfl ?_ | ((with_reducible refine zcu ?_); refine zan rfl ?_) | ((with_reducible refine zcv ?_); refine zan rfl ?_) | ((with_reducible refine zda ?_); first | refine zbl rfl rfl (by omega) ?_ | refine zau rfl rfl (by omega) ?_ | refine zav rfl rfl (by omega) ?_) | ((with_reducible refine zdf ?_); refine zas rfl rfl (by omega) ?_)) | refine zch ?_ | refine zcj rfl ?_)
    refine run_loop (S := Nat × Nat × Array Int) (fun s => [(0, .slice (some ⟨bb, 0, none⟩) N cap), (1, .int .i64 a), (10, .int .i64 s.1), (11, .int .i64 s.2.1)])
      (fun s Γ => Γ = [Dat 27 bb N cap s.2.2] ∧ a < s.1 ∧ s.1 ≤ s.2.1 + 1 ∧ s.2.1 < b ∧ s.2.2.size = N ∧ partLoop ltInt a s.1 s.2.1 s.2.2 = partLoop ltInt a (i + 1) (j - 1) e)
      (fun s => s.2.1 + 1 - s.1) (i + 1, j - 1, e) ⟨rfl, rfl, int_eq (by first | rfl | omega | (dsimp only; omega)), int_eq (by first | rfl | omega | (dsimp only; omega)), trivial⟩ ⟨by rw [he]; rfl, by dsimp only; omega, by dsimp only; omega, by dsimp only; omega, hes, rfl⟩ ?_
    rw [← he]
    generalize partLoop ltInt a (i + 1) (j - 1) e = RR
    clear hi hj he hes hd hds hi1 hi2 hj1 hj2 hij hgt
    clear e i j d
    rintro ⟨i, j, d⟩ Γ junk ⟨rfl, g1, g2, g3, g4, g5⟩
    dsimp only at g1 g2 g3 g4 g5 ⊢
    obtain ⟨i2, hi⟩ : ∃ i2, i2 = scanUp (fun x => ltInt x d[a]!) d j i := ⟨_, rfl⟩
    obtain ⟨j2, hj⟩ : ∃ j2, j2 = scanDown (fun x => !ltInt x d[a]!) d i2 j := ⟨_, rfl⟩
    have hi1 : i ≤ i2 := by rw [hi]; exact Go.Sort.scanUp_ge _ _ _ _
    have hi2 : i2 ≤ j + 1 := by rw [hi]; exact (Go.Sort.scanUp_spec _ d j _ i rfl).2.1 (by omega)
    have hj1 : j2 ≤ j := by rw [hj]; exact Go.Sort.scanDown_le _ _ _ _
    have hj2 : i2 ≤ j2 + 1 := by rw [hj]; exact (Go.Sort.scanDown_spec _ d i2 j).2.1 hi2
    have hij : ¬ j2 < i2 → i2 < j2 := fun h => by
      rcases Nat.lt_or_ge i2 j2 with h1 | h1
      · exact h1
      · have e : j2 = i2 := by omega
        have p1 := (Go.Sort.scanUp_spec (fun x => ltInt x d[a]!) d (j) _ (i) rfl).2.2.2
        have p2 := (Go.Sort.scanDown_spec (fun x => !ltInt x d[a]!) d i2 (j)).2.2.2
        rw [← hi] at p1; rw [← hj] at p2
        have p3 := p1 (by omega); have p4 := p2 (by omega) (by omega)
        rw [e] at p4; (try dsimp only at p3 p4); simp [p3] at p4
    have hpe := Go.Sort.partLoop_eq ltInt a i j d
    rw [← hi, ← hj] at hpe
    refine zcl ?_
    repeat refine zck ?_
    refine run_bind_eq (l' := [(0, .slice (some ⟨bb, 0, none⟩) N cap), (1, .int .i64 a), (10, .int .i64 ((i2 : Nat) : Int)), (11, .int .i64 ((j : Nat) : Int))]) (Γ' := [Dat 27 bb N cap d]) ?_ (fun junk => ?_)
    · repeat' (first | refine zcl ?_ | (refine zap rfl ?_; first | ((with_reducible refine zct ?_); first | refine zaj rfl ?_ | refine zak rfl ?_ | refine zal rfl ?_ | refine zam rfl rfl (fun _ => ?_) (fun _ => ?_))) | refine zch ?_)
      refine run_loop (S := Nat) (fun u => [(0, .slice (some ⟨bb, 0, none⟩) N cap), (1, .int .i64 a), (10, .int .i64 ((u : Nat) : Int)), (11, .int .i64 ((j : Nat) : Int))]) (fun u Γ => Γ = [Dat 27 bb N cap d] ∧ i ≤ u ∧ u ≤ j + 1 ∧ scanUp (fun x => ltInt x d[a]!) d (j) u = i2) (fun u => j + 1 - u) (i) ⟨rfl, rfl, int_eq (by first | rfl | omega | (dsimp only; omega)), int_eq (by first | rfl | omega | (dsimp only; omega)), trivial⟩ ⟨?_, by omega, by omega, hi.symm⟩ ?_
      · rfl
      rintro u Γ junk ⟨rfl, h1, h2, h4⟩
      try dsimp only at h1 h2 h4 ⊢
      by_cases hc : u ≤ j
      · repeat' (first | refine zck ?_ | refine run_drawR PP_mixed (by kernel_rfl) (by kernel_rfl) ?_ | (refine zap rfl ?_; first | refine reg_load_d 0 rfl rfl (by omega) ?_ | ((with_reducible refine zct ?_); refine zaj rfl ?_) | ((with_reducible refine zcu ?_); refine zan rfl ?_) | ((with_reducible refine zcx ?_); refine zah [] (less_spec w0 _ _) rfl rfl rfl sub_nil rfl ?_) | ((with_reducible refine zda ?_); refine zbi rfl rfl (by omega) ?_) | ((with_reducible refine zdc ?_); refine zbu rfl ?_) | ((with_reducible refine zdf ?_); refine zas rfl rfl (by omega) ?_)) | refine zch ?_)
        refine run_cond rfl (fun hE => ?_) (fun hE => ?_)
        · repeat' (first | refine zcp (by kernel_rfl) ?_ | refine zcm ?_ | refine zcl ?_ | refine zcn ?_ | (refine zap rfl ?_; first | ((with_reducible refine zcu ?_); refine zan rfl ?_) | ((with_reducible refine zcv ?_); refine zan rfl ?_) | ((with_reducible refine zda ?_); refine zau rfl rfl (by omega) ?_)) | refine zch ?_)
          refine cut_end ⟨rfl, u + 1, ⟨rfl, rfl, int_eq (by omega), rfl, trivial⟩, ⟨rfl, by omega, by omega, ?_⟩, by omega⟩
          rw [← h4, up_go hc (by simpa [ltInt] using hE)]
        · refine cut_exit rfl rfl ?_
          refine cut_end ⟨rfl, ⟨rfl, rfl, int_eq (congrArg Int.ofNat (by rw [← h4, up_stop (fun _ => by simpa [ltInt] using hE)])), rfl, trivial⟩, rfl⟩
      · repeat' (first | refine zck ?_ | refine run_drawR PP_mixed (by kernel_rfl) (by kernel_rfl) ?_ | (refine zap rfl ?_; first | ((with_reducible refine zct ?_); refine zak rfl ?_) | ((with_reducible refine zcu ?_); refine zan rfl ?_) | ((with_reducible refine zda ?_); refine zbj rfl rfl (by omega) ?_) | ((with_reducible refine zdc ?_); refine zbv rfl ?_)) | refine zch ?_ | refine zcj rfl ?_)
        refine cut_exit rfl rfl ?_
        refine cut_end ⟨rfl, ⟨rfl, rfl, int_eq (congrArg Int.ofNat (by rw [← h4, up_stop (fun h => absurd h hc)])), rfl, trivial⟩, rfl⟩
    repeat refine zck ?_
    refine run_bind_eq (l' := [(0, .slice (some ⟨bb, 0, none⟩) N cap), (1, .int .i64 a), (10, .int .i64 ((i2 : Nat) : Int)), (11, .int .i64 ((j2 : Nat) : Int))]) (Γ' := [Dat 27 bb N cap d]) ?_ (fun junk => ?_)
    · repeat' (first | refine zcl ?_ | (refine zap rfl ?_; first | ((with_reducible refine zct ?_); first | refine zaj rfl ?_ | refine zak rfl ?_ | refine zal rfl ?_ | refine zam rfl rfl (fun _ => ?_) (fun _ => ?_))) | refine zch ?_)
      refine run_loop (S := Nat) (fun u => [(0, .slice (some ⟨bb, 0, none⟩) N cap), (1, .int .i64 a), (10, .int .i64 ((i2 : Nat) : Int)), (11, .int .i64 ((u : Nat) : Int))]) (fun u Γ => Γ = [Dat 27 bb N cap d] ∧ u ≤ j ∧ i2 ≤ u + 1 ∧ scanDown (fun x => !ltInt x d[a]!) d (i2) u = j2) (fun u => u) (j) ⟨rfl, rfl, int_eq (by first | rfl | omega | (dsimp only; omega)), int_eq (by first | rfl | omega | (dsimp only; omega)), trivial⟩ ⟨?_, by omega, by omega, hj.symm⟩ ?_
      · rfl
      rintro u Γ junk ⟨rfl, h1, h2, h4⟩
      try dsimp only at h1 h2 h4 ⊢
      by_cases hc : i2 ≤ u
      · obtain ⟨u, rfl⟩ : ∃ m, u = m + 1 := ⟨u - 1, by omega⟩
        repeat' (first | refine zck ?_ | refine run_drawR PP_mixed (by kernel_rfl) (by kernel_rfl) ?_ | (refine zap rfl ?_; first | refine reg_load_d 0 rfl rfl (by omega) ?_ | ((with_reducible refine zct ?_); refine zaj rfl ?_) | ((with_reducible refine zcu ?_); refine zan rfl ?_) | ((with_reducible refine zcx ?_); refine zah [] (less_spec w0 _ _) rfl rfl rfl sub_nil rfl ?_) | ((with_reducible refine zda ?_); refine zbi rfl rfl (by omega) ?_) | ((with_reducible refine zdb ?_); refine zby rfl ?_) | ((with_reducible refine zdc ?_); refine zbu rfl ?_) | ((with_reducible refine zdf ?_); refine zas rfl rfl (by omega) ?_)) | refine zch ?_)
        refine run_cond rfl (fun hE => ?_) (fun hE => ?_)
        · repeat' (first | refine zcp (by kernel_rfl) ?_ | refine zcm ?_ | refine zcl ?_ | refine zcn ?_ | (refine zap rfl ?_; first | ((with_reducible refine zcu ?_); refine zan rfl ?_) | ((with_reducible refine zcv ?_); refine zan rfl ?_) | ((with_reducible refine zda ?_); refine zav rfl rfl (by omega) ?_)) | refine zch ?_)
          refine cut_end ⟨rfl, u, ⟨rfl, rfl, rfl, int_eq (by omega), trivial⟩, ⟨rfl, by omega, by omega, ?_⟩, by omega⟩
          rw [← h4, down_go hc (by simpa [ltInt] using hE)]
        · refine cut_exit rfl rfl ?_
          refine cut_end ⟨rfl, ⟨rfl, rfl, rfl, int_eq (congrArg Int.ofNat (by rw [← h4, down_stop (fun _ _ => by simpa [ltInt] using hE)])), trivial⟩, rfl⟩
      · repeat' (first | refine zck ?_ | refine run_drawR PP_mixed (by kernel_rfl) (by kernel_rfl) ?_ | (refine zap rfl ?_; first | ((with_reducible refine zct ?_); refine zak rfl ?_) | ((with_reducible refine zcu ?_); refine zan rfl ?_) | ((with_reducible refine zda ?_); refine zbj rfl rfl (by omega) ?_) | ((with_reducible refine zdc ?_); refine zbv rfl ?_)) | refine zch ?_ | refine zcj rfl ?_)
        refine cut_exit rfl rfl ?_
        refine cut_end ⟨rfl, ⟨rfl, rfl, rfl, int_eq (congrArg Int.ofNat (by rw [← h4, down_stop (fun _ h => absurd h hc)])), trivial⟩, rfl⟩
    by_cases hgt : j2 < i2
    · repeat' (first | refine zck ?_ | refine zcp (by kernel_rfl) ?_ | (refine zap rfl ?_; first | ((with_reducible refine zcu ?_); refine zan rfl ?_) | ((with_reducible refine zda ?_); refine zbk rfl rfl (by omega) ?_)) | refine zch ?_ | refine zci rfl ?_)
      refine cut_exit rfl rfl ?_
      repeat' (first | refine zck ?_ | refine zcp (by kernel_rfl) ?_ | refine run_drawR PP_mixed (by kernel_rfl) (by kernel_rfl) ?_ | (refine zap rfl ?_; first | refine reg_load_d 0 rfl rfl (by omega) ?_ | refine reg_store_d 0 rfl rfl rfl (by omega) rfl ?_ | ((with_reducible refine zcu ?_); refine zan rfl ?_) | ((with_reducible refine zcv ?_); refine zan rfl ?_) | ((with_reducible refine zdf ?_); refine zas rfl rfl (by omega) ?_)) | refine zch ?_)
      rw [if_pos hgt] at hpe
      rw [← g5, hpe]
      exact ret_tmp2 rfl ⟨rfl, rfl⟩
    · replace hij := hij hgt
      repeat' (first | refine zck ?_ | refine zcp (by kernel_rfl) ?_ | refine run_drawR PP_mixed (by kernel_rfl) (by kernel_rfl) ?_ | refine zcm ?_ | refine zcn ?_ | (refine zap rfl ?_; first | refine reg_load_d 0 rfl rfl (by omega) ?_ | refine reg_store_d 0 rfl rfl rfl (by omega) rfl ?_ | ((with_reducible refine zcu ?_); refine zan rfl ?_) | ((with_reducible refine zcv ?_); refine zan rfl ?_) | ((with_reducible refine zda ?_); first | refine zbl rfl rfl (by omega) ?_ | refine zau rfl rfl (by omega) ?_ | refine zav rfl rfl (by omega) ?_) | ((with_reducible refine zdf ?_); refine zas rfl rfl (by omega) ?_)) | refine zch ?_ | refine zcj rfl ?_)
      refine cut_end ⟨rfl, (i2 + 1, j2 - 1, swp d i2 j2), ⟨rfl, rfl, int_eq (by first | rfl | omega | (dsimp only; omega)), int_eq (by first | rfl | omega | (dsimp only; omega)), trivial⟩, ⟨rfl, by dsimp only; omega, by dsimp only; omega, by dsimp only; omega, ?_, ?_⟩, by dsimp only; omega⟩
      · rw [Go.Sort.size_swp]; exact g4
      · rw [if_neg hgt] at hpe
        rw [← g5, hpe]
end Go.Proofs.Ytpcnbaddkblbhaa

namespace Go.Proofs.Ytpcnbaddkblbhaa
open Go.Vc
open Go.Sort (ltInt swp scanUp scanDown partEqLoop partitionEqual)
set_option maxHeartbeats 4000000
theorem partEq_spec (w0 : World) (bb N cap : Nat) (D : Array Int) (a b pivot : Nat) (hN : N ≤ 1152921504606846975) (hap : a ≤ pivot) (hpb : pivot < b) (hb : b ≤ N) (hD : D.size = N) :
    FnE PP w0 [] 86 [.slice (some ⟨bb, 0, none⟩) N cap, .int .i64 a, .int .i64 b, .int .i64 pivot] [Dat 27 bb N cap D]
      (.int .i64 ((partitionEqual ltInt D a b pivot).1 : Nat)) [Dat 27 bb N cap (partitionEqual ltInt D a b pivot).2] := by
  refine fn_of_run en86 fn86 rfl rfl rfl ?_
  repeat' (first | refine zck ?_ | refine zcp (by kernel_rfl) ?_ | refine run_drawR PP_mixed (by kernel_rfl) (by kernel_rfl) ?_ | refine zcl ?_ | (refine zap rfl ?_; first | refine reg_load_d 0 rfl rfl (by omega) ?_ | refine reg_store_d 0 rfl rfl rfl (by omega) rfl ?_ | ((with_reducible refine zcu ?_); refine zan rfl ?_) | ((with_reducible refine zcv ?_); refine zan rfl ?_) | ((with_reducible refine zda ?_); first | refine zau rfl rfl (by omega) ?_ | refine zav rfl rfl (by omega) ?_) | ((with_reducible refine zdf ?_); refine zas rfl rfl (by omega) ?_)) | refine zch ?_)
  refine run_loop (S := Nat × Nat × Array Int) (fun s => [(0, .slice (some ⟨bb, 0, none⟩) N cap), (1, .int .i64 a), (9, .int .i64 s.1), (10, .int .i64 s.2.1)])
    (fun s Γ => Γ = [Dat 27 bb N cap s.2.2] ∧ a < s.1 ∧ s.1 ≤ s.2.1 + 1 ∧ s.2.1 < b ∧ s.2.2.size = N ∧ partEqLoop ltInt a s.1 s.2.1 s.2.2 = partitionEqual ltInt D a b pivot)
    (fun s => s.2.1 + 1 - s.1) (a + 1, b - 1, swp D a pivot) ⟨rfl, rfl, int_eq (by first | rfl | omega | (dsimp only; omega)), int_eq (by first | rfl | omega | (dsimp only; omega)), trivial⟩ ⟨rfl, by dsimp only; omega, by dsimp only; omega, by dsimp only; omega, by rw [Go.Sort.size_swp]; exact hD, rfl⟩ ?_
  generalize partitionEqual ltInt D a b pivot = RR
  rintro ⟨i, j, d⟩ Γ junk ⟨rfl, g1, g2, g3, g4, g5⟩
  dsimp only at g1 g2 g3 g4 g5 ⊢
  obtain ⟨i2, hi⟩ : ∃ i2, i2 = scanUp (fun x => !ltInt d[a]! x) d j i := ⟨_, rfl⟩
  obtain ⟨j2, hj⟩ : ∃ j2, j2 = scanDown (fun x => ltInt d[a]! x) d i2 j := ⟨_, rfl⟩
  have hi1 : i ≤ i2 := by rw [hi]; exact Go.Sort.scanUp_ge _ _ _ _
  have hi2 : i2 ≤ j + 1 := by rw [hi]; exact (Go.Sort.scanUp_spec _ d j _ i rfl).2.1 (by omega)
  have hj1 : j2 ≤ j := by rw [hj]; exact Go.Sort.scanDown_le _ _ _ _
  have hj2 : i2 ≤ j2 + 1 := by rw [hj]; exact (Go.Sort.scanDown_spec _ d i2 j).2.1 hi2
  have hij : ¬ j2 < i2 → i2 < j2 := fun h => by
    rcases Nat.lt_or_ge i2 j2 with h1 | h1
    · exact h1
    · have e : j2 = i2 := by omega
      have p1 := (Go.Sort.scanUp_spec (fun x => !ltInt d[a]! x) d j _ i rfl).2.2.2
      have p2 := (Go.Sort.scanDown_spec (fun x => ltInt d[a]! x) d i2 j).2.2.2
      rw [← hi] at p1; rw [← hj] at p2
      have p3 := p1 (by omega); have p4 := p2 (by omega) (by omega)
      rw [e] at p4; (try dsimp only at p3 p4); simp [p4] at p3
  have hpe := Go.Sort.partEqLoop_eq ltInt a i j d
  rw [← hi, ← hj] at hpe
  refine zcl ?_
  repeat refine zck ?_
  refine run_bind_eq (l' := [(0, .slice (some ⟨bb, 0, none⟩) N cap), (1, .int .i64 a), (9, .int .i64 ((i2 : Nat) : Int)), (10, .int .i64 ((j : Nat) : Int))]) (Γ' := [Dat 27 bb N cap d]) ?_ (fun junk => ?_)
  · repeat' (first | refine zcl ?_ | (refine zap rfl ?_; first | ((with_reducible refine zct ?_); first | refine zaj rfl ?_ | refine zak rfl ?_ | refine zal rfl ?_ | refine zam rfl rfl (fun _ => ?_) (fun _ => ?_))) | refine zch ?_)
    refine run_loop (S := Nat) (fun u => [(0, .slice (some ⟨bb, 0, none⟩) N cap), (1, .int .i64 a), (9, .int .i64 ((u : Nat) : Int)), (10, .int .i64 ((j : Nat) : Int))]) (fun u Γ => Γ = [Dat 27 bb N cap d] ∧ i ≤ u ∧ u ≤ j + 1 ∧ scanUp (fun x => !ltInt d[a]! x) d (j) u = i2) (fun u => j + 1 - u) (i) ⟨rfl, rfl, int_eq (by first | rfl | omega | (dsimp only; omega)), int_eq (by first | rfl | omega | (dsimp only; omega)), trivial⟩ ⟨?_, by omega, by omega, hi.symm⟩ ?_
    · rfl
    rintro u Γ junk ⟨rfl, h1, h2, h4⟩
    try dsimp only at h1 h2 h4 ⊢
    by_cases hc : u ≤ j
    · repeat' (first | refine zck ?_ | refine run_drawR PP_mixed (by kernel_rfl) (by kernel_rfl) ?_ | (refine zap rfl ?_; first | refine reg_load_d 0 rfl rfl (by omega) ?_ | ((with_reducible refine zct ?_); refine zaj rfl ?_) | ((with_reducible refine zcu ?_); refine zan rfl ?_) | ((with_reducible refine zcx ?_); refine zah [] (less_spec w0 _ _) rfl rfl rfl sub_nil rfl ?_) | ((with_reducible refine zda ?_); refine zbi rfl rfl (by omega) ?_) | ((with_reducible refine zdb ?_); refine zby rfl ?_) | ((with_reducible refine zdc ?_); refine zbu rfl ?_) | ((with_reducible refine zdf ?_); refine zas rfl rfl (by omega) ?_)) | refine zch ?_)
      refine run_cond rfl (fun hE => ?_) (fun hE => ?_)
      · repeat' (first | refine zcp (by kernel_rfl) ?_ | refine zcm ?_ | refine zcl ?_ | refine zcn ?_ | (refine zap rfl ?_; first | ((with_reducible refine zcu ?_); refine zan rfl ?_) | ((with_reducible refine zcv ?_); refine zan rfl ?_) | ((with_reducible refine zda ?_); refine zau rfl rfl (by omega) ?_)) | refine zch ?_)
        refine cut_end ⟨rfl, u + 1, ⟨rfl, rfl, int_eq (by omega), rfl, trivial⟩, ⟨rfl, by omega, by omega, ?_⟩, by omega⟩
        rw [← h4, up_go hc (by simpa [ltInt] using hE)]
      · refine cut_exit rfl rfl ?_
        refine cut_end ⟨rfl, ⟨rfl, rfl, int_eq (congrArg Int.ofNat (by rw [← h4, up_stop (fun _ => by simpa [ltInt] using hE)])), rfl, trivial⟩, rfl⟩
    · repeat' (first | refine zck ?_ | refine run_drawR PP_mixed (by kernel_rfl) (by kernel_rfl) ?_ | (refine zap rfl ?_; first | ((with_reducible refine zct ?_); refine zak rfl ?_) | ((with_reducible refine zcu ?_); refine zan rfl ?_) | ((with_reducible refine zda ?_); refine zbj rfl rfl (by omega) ?_) | ((with_reducible refine zdc ?_); refine zbv rfl ?_)) | refine zch ?_ | refine zcj rfl ?_)
      refine cut_exit rfl rfl ?_
      refine cut_end ⟨rfl, ⟨rfl, rfl, int_eq (congrArg Int.ofNat (by rw [← h4, up_stop (fun h => absurd h hc)])), rfl, trivial⟩, rfl⟩
  repeat refine zck ?_
  refine run_bind_eq (l' := [(0, .slice (some ⟨bb, 0, none⟩) N cap), (1, .int .i64 a), (9, .int .i64 ((i2 : Nat) : Int)), (10, .int .i64 ((j2 : Nat) : Int))]) (Γ' := [Dat 27 bb N cap d]) ?_ (fun junk => ?_)
  · repeat' (first | refine zcl ?_ | (refine zap rfl ?_; first | ((with_reducible refine zct ?_); first | refine zaj rfl ?_ | refine zak rfl ?_ | refine zal rfl ?_ | refine zam rfl rfl (fun _ => ?_) (fun _ => ?_))) | refine zch ?_)
    refine run_loop (S := Nat) (fun u => [(0, .slice (some ⟨bb, 0, none⟩) N cap), (1, .int .i64 a), (9, .int .i64 ((i2 : Nat) : Int)), (10, .int .i64 ((u : Nat) : Int))]) (fun u Γ => Γ = [Dat 27 bb N cap d] ∧ u ≤ j ∧ i2 ≤ u + 1 ∧ scanDown (fun x => ltInt d[a]! x) d (i2) u = j2) (fun u => u) (j) ⟨rfl, rfl, int_eq (by first | rfl | omega | (dsimp only; omega)), int_eq (by first | rfl | omega | (dsimp only; omega)), trivial⟩ ⟨?_, by omega, by omega, hj.symm⟩ ?_
    · rfl
    rintro u Γ junk ⟨rfl, h1, h2, h4⟩
    try dsimp only at h1 h2 h4 ⊢
    by_cases hc : i2 ≤ u
    · obtain ⟨u, rfl⟩ : ∃ m, u = m + 1 := ⟨u - 1, by omega⟩
      repeat' (first | refine zck ?_ | refine run_drawR PP_mixed (by kernel_rfl) (by kernel_rfl) ?_ | (refine zap rfl ?_; first | refine reg_load_d 0 rfl rfl (by omega) ?_ | ((with_reducible refine zct ?_); refine zaj rfl ?_) | ((with_reducible refine zcu ?_); refine zan rfl ?_) | ((with_reducible refine zcx ?_); refine zah [] (less_spec w0 _ _) rfl rfl rfl sub_nil rfl ?_) | ((with_reducible refine zda ?_); refine zbi rfl rfl (by omega) ?_) | ((with_reducible refine zdc ?_); refine zbu rfl ?_) | ((with_reducible refine zdf ?_); refine zas rfl rfl (by omega) ?_)) | refine zch ?_)
      refine run_cond rfl (fun hE => ?_) (fun hE => ?_)
      · repeat' (first | refine zcp (by kernel_rfl) ?_ | refine zcm ?_ | refine zcl ?_ | refine zcn ?_ | (refine zap rfl ?_; first | ((with_reducible refine zcu ?_); refine zan rfl ?_) | ((with_reducible refine zcv ?_); refine zan rfl ?_) | ((with_reducible refine zda ?_); refine zav rfl rfl (by omega) ?_)) | refine zch ?_)
        refine cut_end ⟨rfl, u, ⟨rfl, rfl, rfl, int_eq (by omega), trivial⟩, ⟨rfl, by omega, by omega, ?_⟩, by omega⟩
        rw [← h4, down_go hc (by simpa [ltInt] using hE)]
      · refine cut_exit rfl rfl ?_
        refine cut_end ⟨rfl, ⟨rfl, rfl, rfl, int_eq (congrArg Int.ofNat (by rw [← h4, down_stop (fun _ _ => by simpa [ltInt] using hE)])), trivial⟩, rfl⟩
    · repeat' (first | refine zck ?_ | refine run_drawR PP_mixed (by kernel_rfl) (by kernel_rfl) ?_ | (refine zap rfl ?_; first | ((with_reducible refine zct ?_); refine zak rfl ?_) | ((with_reducible refine zcu ?_); refine zan rfl ?_) | ((with_reducible refine zda ?_); refine zbj rfl rfl (by omega) ?_) | ((with_reducible refine zdc ?_); refine zbv rfl ?_)) | refine zch ?_ | refine zcj rfl ?_)
      refine cut_exit rfl rfl ?_
      refine cut_end ⟨rfl, ⟨rfl, rfl, rfl, int_eq (congrArg Int.ofNat (by rw [← h4, down_stop (fun _ h => absurd h hc)])), trivial⟩, rfl⟩
  by_cases hgt : j2 < i2
  · repeat' (first | refine zck ?_ | refine zcp (by kernel_rfl) ?_ | (refine zap rfl ?_; first | ((with_reducible refine zcu ?_); refine zan rfl ?_) | ((with_reducible refine zda ?_); refine zbk rfl rfl (by omega) ?_)) | refine zch ?_ | refine zci rfl ?_)
    refine cut_exit rfl rfl ?_
    repeat' (first | refine zck ?_ | refine zcp (by kernel_rfl) ?_ | (refine zap rfl ?_; first | ((with_reducible refine zcu ?_); refine zan rfl ?_) | ((with_reducible refine zcv ?_); refine zan rfl ?_)) | refine zch ?_)
    rw [if_pos hgt] at hpe
    rw [← g5, hpe]
    exact ret_tmp1 rfl ⟨rfl, rfl⟩
  · replace hij := hij hgt
    repeat' (first | refine zck ?_ | refine zcp (by kernel_rfl) ?_ | refine run_drawR PP_mixed (by kernel_rfl) (by kernel_rfl) ?_ | refine zcm ?_ | refine zcn ?_ | (refine zap rfl ?_; first | refine reg_load_d 0 rfl rfl (by omega) ?_ | refine reg_store_d 0 rfl rfl rfl (by omega) rfl ?_ | ((with_reducible refine zcu ?_); refine zan rfl ?_) | ((with_reducible refine zcv ?_); refine zan rfl ?_) | ((with_reducible refine zda ?_); first | refine zbl rfl rfl (by omega) ?_ | refine zau rfl rfl (by omega) ?_ | refine zav rfl rfl (by omega) ?_) | ((with_reducible refine zdf ?_); refine zas rfl rfl (by omega) ?_)) | refine zch ?_ | refine zcj rfl ?_)
    refine cut_end ⟨rfl, (i2 + 1, j2 - 1, swp d i2 j2), ⟨rfl, rfl, int_eq (by first | rfl | omega | (dsimp only; omega)), int_eq (by first | rfl | omega | (dsimp only; omega)), trivial⟩, ⟨rfl, by dsimp only; omega, by dsimp only; omega, by dsimp only; omega, ?_, ?_⟩, by dsimp only; omega⟩
    · rw [Go.Sort.size_swp]; exact g4
    · rw [if_neg hgt] at hpe
      rw [← g5, hpe]
end Go.Proofs.Ytpcnbaddkblbhaa

namespace Go.Proofs.Ytpcnbaddkblbhaa
open Go.Vc
open Go.Sort (ltInt swp scanSorted shiftDown shiftUp partialIns partialInsertionSort)
theorem sd_go {j : Nat} {d : Array Int} (hl : ltInt d[j + 1]! d[j]! = true) : shiftDown ltInt (j + 1) d = shiftDown ltInt j (swp d (j + 1) j) := by
  rw [shiftDown]; simp [hl]
theorem sd_stop {j : Nat} {d : Array Int} (hl : ltInt d[j + 1]! d[j]! = false) : shiftDown ltInt (j + 1) d = d := by
  rw [shiftDown]; simp [hl]
theorem su_go {b j : Nat} {d : Array Int} (h : j < b) (hl : ltInt d[j]! d[j - 1]! = true) : shiftUp ltInt b j d = shiftUp ltInt b (j + 1) (swp d j (j - 1)) := by
  rw [shiftUp, if_pos h, if_neg (by simp [hl])]
theorem su_stop {b j : Nat} {d : Array Int} (hl : j < b → ltInt d[j]! d[j - 1]! = false) : shiftUp ltInt b j d = d := by
  rw [shiftUp]
  split
  · rename_i h; rw [if_pos (by simp [hl h])]
  · rfl
theorem ss_go {b i : Nat} {d : Array Int} (h : i < b) (hl : ltInt d[i]! d[i - 1]! = false) : scanSorted ltInt d b i = scanSorted ltInt d b (i + 1) := by
  rw [scanSorted, if_pos (by simp only [hl, Bool.not_false, Bool.and_true, decide_eq_true_eq]; exact h)]
theorem ss_stop {b i : Nat} {d : Array Int} (hl : i < b → ltInt d[i]! d[i - 1]! = true) : scanSorted ltInt d b i = i := by
  rw [scanSorted, if_neg]
  simp only [Bool.and_eq_true, decide_eq_true_eq, not_and, Bool.not_eq_true]
  intro h; rw [hl h]; rfl
theorem ss_range {b : Nat} {d : Array Int} : ∀ (m i : Nat), b - i = m → i ≤ b → i ≤ scanSorted ltInt d b i ∧ scanSorted ltInt d b i ≤ b := by
  intro m
  induction m with
  | zero => intro i h1 h2; rw [ss_stop (fun h => by omega)]; omega
  | succ m ih =>
    intro i h1 h2
    cases hl : ltInt d[i]! d[i - 1]! with
    | true => rw [ss_stop (fun _ => hl)]; omega
    | false =>
      rw [ss_go (by omega) hl]
      have := ih (i + 1) (by omega) (by omega)
      omega
theorem pi_true {a b s i : Nat} {d : Array Int} (h : scanSorted ltInt d b i = b) : partialIns ltInt a b (s + 1) i d = (d, true) := by
  rw [partialIns]; simp only [h, if_true]
theorem pi_small {a b s i : Nat} {d : Array Int} (h : scanSorted ltInt d b i ≠ b) (h5 : b - a < 50) : partialIns ltInt a b (s + 1) i d = (d, false) := by
  rw [partialIns]; simp only [h, h5, if_true, if_false]
theorem pi_go {a b s i j : Nat} {d : Array Int} (hj : j = scanSorted ltInt d b i) (h : j ≠ b) (h5 : ¬ b - a < 50) : partialIns ltInt a b (s + 1) i d =
    partialIns ltInt a b s j (if b - j ≥ 2 then shiftUp ltInt b (j + 1) (if j - a ≥ 2 then shiftDown ltInt (j - 1) (swp d j (j - 1)) else swp d j (j - 1)) else (if j - a ≥ 2 then shiftDown ltInt (j - 1) (swp d j (j - 1)) else swp d j (j - 1))) := by
  rw [partialIns]; simp only [← hj, h, h5, if_false]
set_option maxHeartbeats 4000000
theorem partial_spec (w0 : World) (bb N cap : Nat) (D : Array Int) (a b : Nat) (hN : N ≤ 1152921504606846975) (hab : a < b) (hb : b ≤ N) :
    FnE PP w0 [] 84 [.slice (some ⟨bb, 0, none⟩) N cap, .int .i64 a, .int .i64 b] [Dat 27 bb N cap D]
      (.bool (partialInsertionSort ltInt D a b).2) [Dat 27 bb N cap (partialInsertionSort ltInt D a b).1] := by
  refine fn_of_run en84 fn84 rfl rfl rfl ?_
  repeat' (first | refine zck ?_ | refine zcp (by kernel_rfl) ?_ | refine zcl ?_ | (refine zap rfl ?_; first | ((with_reducible refine zcu ?_); refine zan rfl ?_) | ((with_reducible refine zcv ?_); refine zan rfl ?_) | ((with_reducible refine zda ?_); refine zau rfl rfl (by omega) ?_)) | refine zch ?_)
  refine run_loop (S := Nat × Nat × Array Int) (fun s => [(0, .slice (some ⟨bb, 0, none⟩) N cap), (1, .int .i64 a), (2, .int .i64 b), (6, .bool false), (7, .int .i64 s.2.1), (8, .int .i64 (5 - (s.1 : Int)))])
    (fun s Γ => Γ = [Dat 27 bb N cap s.2.2] ∧ s.1 ≤ 5 ∧ a < s.2.1 ∧ s.2.1 ≤ b ∧ partialIns ltInt a b s.1 s.2.1 s.2.2 = partialInsertionSort ltInt D a b)
    (fun s => s.1) (5, a + 1, D) ⟨rfl, rfl, rfl, rfl, int_eq (by first | rfl | omega | (dsimp only; omega)), rfl, trivial⟩ ⟨rfl, by dsimp only; omega, by dsimp only; omega, by dsimp only; omega, rfl⟩ ?_
  generalize partialInsertionSort ltInt D a b = RR
  rintro ⟨s, i, d⟩ Γ junk ⟨rfl, g1, g2, g3, g5⟩
  dsimp only at g1 g2 g3 g5 ⊢
  by_cases hs : 0 < s
  · obtain ⟨s, rfl⟩ : ∃ m, s = m + 1 := ⟨s - 1, by omega⟩
    repeat (first | refine zck ?_ | refine zcl ?_ | refine zcm ?_ | refine zcn ?_)
    first | refine zcp (by kernel_rfl) ?_ | refine run_drawR PP_mixed (by kernel_rfl) (by kernel_rfl) ?_
    repeat' (refine zap rfl ?_; first | ((with_reducible refine zcu ?_); refine zan rfl ?_) | ((with_reducible refine zda ?_); refine zbg rfl rfl (by omega) ?_))
    all_goals refine zch ?_
    all_goals repeat (refine zck ?_)
    refine zci rfl ?_
    repeat (first | refine zcm ?_ | refine zck ?_)
    refine zcl ?_
    repeat refine zck ?_
    obtain ⟨j, hj⟩ : ∃ j, j = scanSorted ltInt d b i := ⟨_, rfl⟩
    have hjr : i ≤ j ∧ j ≤ b := by rw [hj]; exact ss_range _ i rfl g3
    refine run_bind_eq (l' := [(0, .slice (some ⟨bb, 0, none⟩) N cap), (1, .int .i64 a), (2, .int .i64 b), (6, .bool false), (7, .int .i64 j), (8, .int .i64 (5 - ((s + 1 : Nat) : Int)))]) (Γ' := [Dat 27 bb N cap d]) ?_ (fun junk => ?_)
    · repeat' (first | refine zcl ?_ | (refine zap rfl ?_; first | ((with_reducible refine zct ?_); first | refine zaj rfl ?_ | refine zak rfl ?_ | refine zal rfl ?_ | refine zam rfl rfl (fun _ => ?_) (fun _ => ?_))) | refine zch ?_)
      refine run_loop (S := Nat) (fun u => [(0, .slice (some ⟨bb, 0, none⟩) N cap), (1, .int .i64 a), (2, .int .i64 b), (6, .bool false), (7, .int .i64 u), (8, .int .i64 (5 - ((s + 1 : Nat) : Int)))])
        (fun u Γ => Γ = [Dat 27 bb N cap d] ∧ a < u ∧ u ≤ b ∧ scanSorted ltInt d b u = j) (fun u => b - u) i ⟨rfl, rfl, rfl, rfl, rfl, rfl, trivial⟩ ⟨rfl, by omega, by omega, hj.symm⟩ ?_
      rintro u Γ junk ⟨rfl, h1, h2, h4⟩
      have e1 : ((u : Nat) : Int).toNat = u := by omega
      have e2 : (((u : Nat) : Int) - 1).toNat = u - 1 := by omega
      by_cases hc : u < b
      · repeat' (first | refine zck ?_ | refine run_drawR PP_mixed (by kernel_rfl) (by kernel_rfl) ?_ | (refine zap rfl ?_; first | refine reg_load_d 0 rfl rfl (by omega) ?_ | ((with_reducible refine zct ?_); refine zaj rfl ?_) | ((with_reducible refine zcu ?_); refine zan rfl ?_) | ((with_reducible refine zcx ?_); refine zah [] (less_spec w0 _ _) rfl rfl rfl sub_nil rfl ?_) | ((with_reducible refine zda ?_); first | refine zbg rfl rfl (by omega) ?_ | refine zav rfl rfl (by omega) ?_) | ((with_reducible refine zdb ?_); refine zby rfl ?_) | ((with_reducible refine zdc ?_); refine zbu rfl ?_) | ((with_reducible refine zdf ?_); refine zas rfl rfl (by omega) ?_)) | refine zch ?_)
        refine run_cond rfl (fun hE => ?_) (fun hE => ?_)
        · rw [e1, e2] at hE
          repeat' (first | refine zcp (by kernel_rfl) ?_ | refine zcm ?_ | refine zcl ?_ | refine zcn ?_ | (refine zap rfl ?_; first | ((with_reducible refine zcu ?_); refine zan rfl ?_) | ((with_reducible refine zcv ?_); refine zan rfl ?_) | ((with_reducible refine zda ?_); refine zau rfl rfl (by omega) ?_)) | refine zch ?_)
          refine cut_end ⟨rfl, u + 1, ⟨rfl, rfl, rfl, rfl, int_eq (by first | rfl | omega | (dsimp only; omega)), rfl, trivial⟩, ⟨rfl, by omega, by omega, ?_⟩, by omega⟩
          rw [← h4, ss_go hc (by simpa [ltInt] using hE)]
        · rw [e1, e2] at hE
          refine cut_exit rfl rfl ?_
          refine cut_end ⟨rfl, ⟨rfl, rfl, rfl, rfl, int_eq (congrArg Int.ofNat (by rw [← h4, ss_stop (fun _ => by simpa [ltInt] using hE)])), rfl, trivial⟩, rfl⟩
      · repeat' (first | refine zck ?_ | refine run_drawR PP_mixed (by kernel_rfl) (by kernel_rfl) ?_ | (refine zap rfl ?_; first | ((with_reducible refine zct ?_); refine zak rfl ?_) | ((with_reducible refine zcu ?_); refine zan rfl ?_) | ((with_reducible refine zda ?_); refine zbh rfl rfl (by omega) ?_) | ((with_reducible refine zdc ?_); refine zbv rfl ?_)) | refine zch ?_ | refine zcj rfl ?_)
        refine cut_exit rfl rfl ?_
        refine cut_end ⟨rfl, ⟨rfl, rfl, rfl, rfl, int_eq (congrArg Int.ofNat (by rw [← h4, ss_stop (fun h => absurd h hc)])), rfl, trivial⟩, rfl⟩
    by_cases hjb : j = b
    · repeat' (first | refine zck ?_ | refine zcp (by kernel_rfl) ?_ | (refine zap rfl ?_; first | ((with_reducible refine zcu ?_); refine zan rfl ?_) | ((with_reducible refine zcv ?_); refine zan rfl ?_) | ((with_reducible refine zda ?_); refine zbc rfl rfl (by omega) ?_)) | refine zch ?_ | refine zci rfl ?_)
      refine qret1 (fun _ _ h => h) rfl ⟨?_, (show [_] = [_] from ?_)⟩
      · rw [← g5, pi_true (by omega)]; rfl
      · rw [← g5, pi_true (by omega)]
    · by_cases h50 : b - a < 50
      · repeat' (first | refine zck ?_ | refine zcp (by kernel_rfl) ?_ | refine zcm ?_ | (refine zap rfl ?_; first | ((with_reducible refine zcu ?_); refine zan rfl ?_) | ((with_reducible refine zcv ?_); refine zan rfl ?_) | ((with_reducible refine zda ?_); first | refine zbd rfl rfl (by omega) ?_ | refine zbg rfl rfl (by omega) ?_ | refine zav rfl rfl (by omega) ?_)) | refine zch ?_ | refine zci rfl ?_ | refine zcj rfl ?_)
        refine qret1 (fun _ _ h => h) rfl ⟨?_, (show [_] = [_] from ?_)⟩
        · rw [← g5, pi_small (by omega) h50]; rfl
        · rw [← g5, pi_small (by omega) h50]
      · rw [pi_go hj hjb h50] at g5
        have e1 : ((j : Nat) : Int).toNat = j := by omega
        have e2 : (((j : Nat) : Int) - 1).toNat = j - 1 := by omega
        obtain ⟨d1, hd1⟩ : ∃ d1, d1 = swp d j (j - 1) := ⟨_, rfl⟩
        obtain ⟨d2, hd2⟩ : ∃ d2, d2 = if j - a ≥ 2 then shiftDown ltInt (j - 1) d1 else d1 := ⟨_, rfl⟩
        obtain ⟨d3, hd3⟩ : ∃ d3, d3 = if b - j ≥ 2 then shiftUp ltInt b (j + 1) d2 else d2 := ⟨_, rfl⟩
        rw [← hd1, ← hd2, ← hd3] at g5
        repeat (first | refine zck ?_ | refine zcl ?_ | refine zcm ?_ | refine zcn ?_)
        first | refine zcp (by kernel_rfl) ?_ | refine run_drawR PP_mixed (by kernel_rfl) (by kernel_rfl) ?_
        repeat' (refine zap rfl ?_; first | ((with_reducible refine zcu ?_); refine zan rfl ?_) | ((with_reducible refine zda ?_); refine zbd rfl rfl (by omega) ?_))
        all_goals refine zch ?_
        all_goals repeat (first | refine zck ?_ | refine zcl ?_ | refine zcm ?_ | refine zcn ?_)
        refine zcj rfl ?_
        refine zcm ?_
        repeat (first | refine zck ?_ | refine zcl ?_ | refine zcm ?_ | refine zcn ?_)
        first | refine zcp (by kernel_rfl) ?_ | refine run_drawR PP_mixed (by kernel_rfl) (by kernel_rfl) ?_
        repeat' (refine zap rfl ?_; first | ((with_reducible refine zcu ?_); refine zan rfl ?_) | ((with_reducible refine zda ?_); first | refine zbh rfl rfl (by omega) ?_ | refine zav rfl rfl (by omega) ?_))
        all_goals refine zch ?_
        all_goals repeat (first | refine zck ?_ | refine zcl ?_ | refine zcm ?_ | refine zcn ?_)
        refine zcj rfl ?_
        refine zcm ?_
        repeat (first | refine zck ?_ | refine zcl ?_ | refine zcm ?_ | refine zcn ?_)
        first | refine zcp (by kernel_rfl) ?_ | refine run_drawR PP_mixed (by kernel_rfl) (by kernel_rfl) ?_
        repeat' (refine zap rfl ?_; first | refine reg_load_d 0 rfl rfl (by omega) ?_ | refine reg_store_d 0 rfl rfl rfl (by omega) rfl ?_ | ((with_reducible refine zcu ?_); refine zan rfl ?_) | ((with_reducible refine zda ?_); refine zav rfl rfl (by omega) ?_) | ((with_reducible refine zdf ?_); refine zas rfl rfl (by omega) ?_))
        all_goals refine zch ?_
        all_goals repeat (first | refine zck ?_ | refine zcl ?_ | refine zcm ?_ | refine zcn ?_)
        repeat (first | refine zck ?_ | refine zcl ?_ | refine zcm ?_ | refine zcn ?_)
        first | refine zcp (by kernel_rfl) ?_ | refine run_drawR PP_mixed (by kernel_rfl) (by kernel_rfl) ?_
        repeat' (refine zap rfl ?_; first | ((with_reducible refine zcu ?_); refine zan rfl ?_) | ((with_reducible refine zda ?_); first | refine zav rfl rfl (by omega) ?_ | refine zbt rfl rfl ?_))
        all_goals refine zch ?_
        all_goals repeat (first | refine zck ?_ | refine zcl ?_ | refine zcm ?_ | refine zcn ?_)
        refine run_bind_eq (l' := [(0, .slice (some ⟨bb, 0, none⟩) N cap), (1, .int .i64 a), (2, .int .i64 b), (6, .bool false), (7, .int .i64 j), (8, .int .i64 (5 - ((s + 1 : Nat) : Int)))]) (Γ' := [Dat 27 bb N cap d2]) ?_ (fun junk => ?_)
        · refine run_cond rfl (fun hc => ?_) (fun hc => ?_)
          · rw [if_pos (by omega)] at hd2
            repeat' (first | refine zck ?_ | refine zcp (by kernel_rfl) ?_ | refine zcl ?_ | (refine zap rfl ?_; first | ((with_reducible refine zcu ?_); refine zan rfl ?_) | ((with_reducible refine zcv ?_); refine zan rfl ?_) | ((with_reducible refine zda ?_); refine zav rfl rfl (by omega) ?_)) | refine zch ?_)
            refine run_loop (S := Nat × Array Int) (fun s' => [(0, .slice (some ⟨bb, 0, none⟩) N cap), (1, .int .i64 a), (2, .int .i64 b), (6, .bool false), (7, .int .i64 j), (8, .int .i64 (5 - ((s + 1 : Nat) : Int))), (9, .int .i64 s'.1)])
              (fun s' Γ => Γ = [Dat 27 bb N cap s'.2] ∧ s'.1 < b ∧ shiftDown ltInt s'.1 s'.2 = d2) (fun s' => s'.1) (j - 1, d1) ⟨rfl, rfl, rfl, rfl, rfl, rfl, int_eq (by first | rfl | omega | (dsimp only; omega)), trivial⟩ ⟨by rw [hd1, e1, e2]; rfl, by dsimp only; omega, hd2.symm⟩ ?_
            rintro ⟨u, v⟩ Γ junk ⟨rfl, h1, h4⟩
            dsimp only at h1 h4 ⊢
            by_cases hu : 0 < u
            · obtain ⟨u, rfl⟩ : ∃ m, u = m + 1 := ⟨u - 1, by omega⟩
              have e3 : ((u + 1 : Nat) : Int).toNat = u + 1 := by omega
              have e4 : (((u + 1 : Nat) : Int) - 1).toNat = u := by omega
              repeat' (first | refine zck ?_ | refine zcp (by kernel_rfl) ?_ | refine run_drawR PP_mixed (by kernel_rfl) (by kernel_rfl) ?_ | refine zcm ?_ | refine zcl ?_ | (refine zap rfl ?_; first | refine reg_load_d 0 rfl rfl (by omega) ?_ | ((with_reducible refine zcu ?_); refine zan rfl ?_) | ((with_reducible refine zcx ?_); refine zah [] (less_spec w0 _ _) rfl rfl rfl sub_nil rfl ?_) | ((with_reducible refine zda ?_); first | refine zbm rfl rfl (by omega) ?_ | refine zav rfl rfl (by omega) ?_) | ((with_reducible refine zdb ?_); refine zby rfl ?_) | ((with_reducible refine zdf ?_); refine zas rfl rfl (by omega) ?_)) | refine zch ?_ | refine zci rfl ?_)
              refine run_cond rfl (fun hE => ?_) (fun hE => ?_)
              · rw [e3, e4] at hE
                refine cut_exit rfl rfl ?_
                refine cut_end ⟨rfl, ⟨rfl, rfl, rfl, rfl, rfl, rfl, trivial⟩, ?_⟩
                rw [← h4, sd_stop (by simpa [ltInt] using hE)]; rfl
              · rw [e3, e4] at hE
                repeat' (first | refine zcp (by kernel_rfl) ?_ | refine run_drawR PP_mixed (by kernel_rfl) (by kernel_rfl) ?_ | refine zcm ?_ | refine zcn ?_ | (refine zap rfl ?_; first | refine reg_load_d 0 rfl rfl (by omega) ?_ | refine reg_store_d 0 rfl rfl rfl (by omega) rfl ?_ | ((with_reducible refine zcu ?_); refine zan rfl ?_) | ((with_reducible refine zcv ?_); refine zan rfl ?_) | ((with_reducible refine zda ?_); refine zav rfl rfl (by omega) ?_) | ((with_reducible refine zdf ?_); refine zas rfl rfl (by omega) ?_)) | refine zch ?_)
                refine cut_end ⟨rfl, (u, swp v (u + 1) u), ⟨rfl, rfl, rfl, rfl, rfl, rfl, int_eq (by first | rfl | omega | (dsimp only; omega)), trivial⟩, ⟨?_, by dsimp only; omega, ?_⟩, by dsimp only; omega⟩
                · rw [e3, e4]; rfl
                · rw [← h4, sd_go (by simpa [ltInt] using hE)]
            · have hu0 : u = 0 := by omega
              subst hu0
              repeat' (first | refine zck ?_ | refine zcp (by kernel_rfl) ?_ | (refine zap rfl ?_; first | ((with_reducible refine zcu ?_); refine zan rfl ?_) | ((with_reducible refine zda ?_); refine zbn rfl rfl (by omega) ?_)) | refine zch ?_ | refine zcj rfl ?_)
              refine cut_exit rfl rfl ?_
              refine cut_end ⟨rfl, ⟨rfl, rfl, rfl, rfl, rfl, rfl, trivial⟩, ?_⟩
              rw [← h4]; rfl
          · rw [if_neg (by omega)] at hd2
            repeat' (first | refine zcm ?_ | (refine zap rfl ?_; first | refine reg_load_d 0 rfl rfl (by omega) ?_) | refine zch ?_)
            refine cut_end ⟨rfl, ⟨rfl, rfl, rfl, rfl, rfl, rfl, trivial⟩, ?_⟩
            rw [hd2, hd1, e1, e2]; rfl
        repeat (first | refine zck ?_ | refine zcl ?_ | refine zcm ?_ | refine zcn ?_)
        first | refine zcp (by kernel_rfl) ?_ | refine run_drawR PP_mixed (by kernel_rfl) (by kernel_rfl) ?_
        repeat' (refine zap rfl ?_; first | ((with_reducible refine zcu ?_); refine zan rfl ?_) | ((with_reducible refine zda ?_); first | refine zav rfl rfl (by omega) ?_ | refine zbt rfl rfl ?_))
        all_goals refine zch ?_
        all_goals repeat (first | refine zck ?_ | refine zcl ?_ | refine zcm ?_ | refine zcn ?_)
        refine run_bind_eq (l' := [(0, .slice (some ⟨bb, 0, none⟩) N cap), (1, .int .i64 a), (2, .int .i64 b), (6, .bool false), (7, .int .i64 j), (8, .int .i64 (5 - ((s + 1 : Nat) : Int)))]) (Γ' := [Dat 27 bb N cap d3]) ?_ (fun junk => ?_)
        · refine run_cond rfl (fun hc => ?_) (fun hc => ?_)
          · rw [if_pos (by omega)] at hd3
            repeat' (first | refine zck ?_ | refine zcp (by kernel_rfl) ?_ | refine zcl ?_ | (refine zap rfl ?_; first | ((with_reducible refine zcu ?_); refine zan rfl ?_) | ((with_reducible refine zcv ?_); refine zan rfl ?_) | ((with_reducible refine zda ?_); refine zau rfl rfl (by omega) ?_)) | refine zch ?_)
            refine run_loop (S := Nat × Array Int) (fun s' => [(0, .slice (some ⟨bb, 0, none⟩) N cap), (1, .int .i64 a), (2, .int .i64 b), (6, .bool false), (7, .int .i64 j), (8, .int .i64 (5 - ((s + 1 : Nat) : Int))), (10, .int .i64 s'.1)])
              (fun s' Γ => Γ = [Dat 27 bb N cap s'.2] ∧ 0 < s'.1 ∧ s'.1 ≤ b ∧ shiftUp ltInt b s'.1 s'.2 = d3) (fun s' => b - s'.1) (j + 1, d2) ⟨rfl, rfl, rfl, rfl, rfl, rfl, int_eq (by first | rfl | omega | (dsimp only; omega)), trivial⟩ ⟨rfl, by dsimp only; omega, by dsimp only; omega, hd3.symm⟩ ?_
            rintro ⟨u, v⟩ Γ junk ⟨rfl, h0, h1, h4⟩
            dsimp only at h0 h1 h4 ⊢
            by_cases hu : u < b
            · have e3 : ((u : Nat) : Int).toNat = u := by omega
              have e4 : (((u : Nat) : Int) - 1).toNat = u - 1 := by omega
              repeat' (first | refine zck ?_ | refine zcp (by kernel_rfl) ?_ | refine run_drawR PP_mixed (by kernel_rfl) (by kernel_rfl) ?_ | refine zcm ?_ | refine zcl ?_ | (refine zap rfl ?_; first | refine reg_load_d 0 rfl rfl (by omega) ?_ | ((with_reducible refine zcu ?_); refine zan rfl ?_) | ((with_reducible refine zcx ?_); refine zah [] (less_spec w0 _ _) rfl rfl rfl sub_nil rfl ?_) | ((with_reducible refine zda ?_); first | refine zbg rfl rfl (by omega) ?_ | refine zav rfl rfl (by omega) ?_) | ((with_reducible refine zdb ?_); refine zby rfl ?_) | ((with_reducible refine zdf ?_); refine zas rfl rfl (by omega) ?_)) | refine zch ?_ | refine zci rfl ?_)
              refine run_cond rfl (fun hE => ?_) (fun hE => ?_)
              · rw [e3, e4] at hE
                refine cut_exit rfl rfl ?_
                refine cut_end ⟨rfl, ⟨rfl, rfl, rfl, rfl, rfl, rfl, trivial⟩, ?_⟩
                rw [← h4, su_stop (fun _ => by simpa [ltInt] using hE)]; rfl
              · rw [e3, e4] at hE
                repeat' (first | refine zcp (by kernel_rfl) ?_ | refine run_drawR PP_mixed (by kernel_rfl) (by kernel_rfl) ?_ | refine zcm ?_ | refine zcn ?_ | (refine zap rfl ?_; first | refine reg_load_d 0 rfl rfl (by omega) ?_ | refine reg_store_d 0 rfl rfl rfl (by omega) rfl ?_ | ((with_reducible refine zcu ?_); refine zan rfl ?_) | ((with_reducible refine zcv ?_); refine zan rfl ?_) | ((with_reducible refine zda ?_); first | refine zau rfl rfl (by omega) ?_ | refine zav rfl rfl (by omega) ?_) | ((with_reducible refine zdf ?_); refine zas rfl rfl (by omega) ?_)) | refine zch ?_)
                refine cut_end ⟨rfl, (u + 1, swp v u (u - 1)), ⟨rfl, rfl, rfl, rfl, rfl, rfl, int_eq (by first | rfl | omega | (dsimp only; omega)), trivial⟩, ⟨?_, by dsimp only; omega, by dsimp only; omega, ?_⟩, by dsimp only; omega⟩
                · rw [e3, e4]; rfl
                · rw [← h4, su_go hu (by simpa [ltInt] using hE)]
            · repeat' (first | refine zck ?_ | refine zcp (by kernel_rfl) ?_ | (refine zap rfl ?_; first | ((with_reducible refine zcu ?_); refine zan rfl ?_) | ((with_reducible refine zda ?_); refine zbh rfl rfl (by omega) ?_)) | refine zch ?_ | refine zcj rfl ?_)
              refine cut_exit rfl rfl ?_
              refine cut_end ⟨rfl, ⟨rfl, rfl, rfl, rfl, rfl, rfl, trivial⟩, ?_⟩
              rw [← h4, su_stop (fun h => absurd h hu)]
          · rw [if_neg (by omega)] at hd3
            repeat' (first | refine zcm ?_ | (refine zap rfl ?_; first | refine reg_load_d 0 rfl rfl (by omega) ?_) | refine zch ?_)
            refine cut_end ⟨rfl, ⟨rfl, rfl, rfl, rfl, rfl, rfl, trivial⟩, ?_⟩
            rw [hd3]
        repeat' (first | refine zcp (by kernel_rfl) ?_ | refine zcn ?_ | (refine zap rfl ?_; first | ((with_reducible refine zcu ?_); refine zan rfl ?_) | ((with_reducible refine zcv ?_); refine zan rfl ?_) | ((with_reducible refine zda ?_); refine zau rfl rfl (by omega) ?_)) | refine zch ?_)
        refine cut_end ⟨rfl, (s, j, d3), ⟨rfl, rfl, rfl, rfl, rfl, int_eq (by first | rfl | omega | (dsimp only; omega)), trivial⟩, ⟨rfl, by dsimp only; omega, by dsimp only; omega, by dsimp only; omega, g5⟩, by dsimp only; omega⟩
  · repeat' (first | refine zck ?_ | refine zcp (by kernel_rfl) ?_ | (refine zap rfl ?_; first | ((with_reducible refine zcu ?_); refine zan rfl ?_) | ((with_reducible refine zda ?_); refine zbh rfl rfl (by omega) ?_)) | refine zch ?_ | refine zcj rfl ?_)
    refine cut_exit rfl rfl ?_
    repeat' (first | refine zck ?_ | refine zcp (by kernel_rfl) ?_ | (refine zap rfl ?_; first | ((with_reducible refine zcv ?_); refine zan rfl ?_)) | refine zch ?_)
    have hs0 : s = 0 := by omega
    subst hs0
    refine ret_tmp1 rfl ⟨?_, (show [_] = [_] from ?_)⟩
    · rw [← g5]; rfl
    · rw [← g5]; rfl
end Go.Proofs.Ytpcnbaddkblbhaa

namespace Go.Proofs.Ytpcnbaddkblbhaa
open Go.Vc
open Go.Sort (ltInt order2 median medianAdjacent choosePivot Hint)
/-- The counter of the swaps. -/
abbrev Swp (sw s : Nat) : Asn := pt sw (.cells (List.toArray [.int .i64 (s : Int)]) 3 (0, 0))
theorem o2_true {D : Array Int} {a b s : Nat} (h : ltInt D[b]! D[a]! = true) : order2 ltInt D a b s = (b, a, s + 1) := by rw [order2, if_pos h]
theorem o2_false {D : Array Int} {a b s : Nat} (h : ltInt D[b]! D[a]! = false) : order2 ltInt D a b s = (a, b, s) := by rw [order2, if_neg (by rw [h]; exact Bool.false_ne_true)]
theorem o2_lt {D : Array Int} {a b s N : Nat} (ha : a < N) (hb : b < N) : (order2 ltInt D a b s).1 < N ∧ (order2 ltInt D a b s).2.1 < N ∧ (order2 ltInt D a b s).2.2 ≤ s + 1 := by
  cases h : ltInt D[b]! D[a]! with
  | true => rw [o2_true h]; exact ⟨hb, ha, Nat.le_refl _⟩
  | false => rw [o2_false h]; exact ⟨ha, hb, Nat.le_succ _⟩
theorem order2_spec (w0 : World) (bb N cap : Nat) (D : Array Int) (sw a b s : Nat) (hN : N ≤ 1152921504606846975) (ha : a < N) (hb : b < N) (hs : s ≤ 1000) :
    FnE PP w0 [] 101 [.slice (some ⟨bb, 0, none⟩) N cap, .int .i64 a, .int .i64 b, .pointer (some ⟨sw, 0, none⟩)] [Dat 27 bb N cap D, Swp sw s]
      (.tuple #[.int .i64 ((order2 ltInt D a b s).1 : Nat), .int .i64 ((order2 ltInt D a b s).2.1 : Nat)]) [Dat 27 bb N cap D, Swp sw (order2 ltInt D a b s).2.2] := by
  refine fn_of_run en101 fn101 rfl rfl rfl ?_
  have e1 : ((a : Nat) : Int).toNat = a := by omega
  have e2 : ((b : Nat) : Int).toNat = b := by omega
  repeat' (first | refine zck ?_ | refine zcp (by kernel_rfl) ?_ | refine run_drawR PP_mixed (by kernel_rfl) (by kernel_rfl) ?_ | (refine zap rfl ?_; first | refine reg_load_d 0 rfl rfl (by omega) ?_ | ((with_reducible refine zcu ?_); refine zan rfl ?_) | ((with_reducible refine zcv ?_); refine zan rfl ?_) | ((with_reducible refine zcx ?_); refine zah [] (less_spec w0 _ _) rfl rfl rfl sub_nil rfl ?_) | ((with_reducible refine zdf ?_); refine zas rfl rfl (by omega) ?_)) | refine zch ?_)
  refine run_cond rfl (fun hE => ?_) (fun hE => ?_)
  · rw [e1, e2] at hE
    repeat' (first | refine zck ?_ | refine zcp (by kernel_rfl) ?_ | (refine zap rfl ?_; first | ((with_reducible refine zcu ?_); refine zan rfl ?_) | ((with_reducible refine zcv ?_); refine zan rfl ?_) | ((with_reducible refine zcw ?_); refine zab 1 rfl rfl rfl ?_) | ((with_reducible refine zda ?_); refine zau rfl rfl (by omega) ?_) | ((with_reducible refine zdd ?_); refine zae 1 rfl rfl rfl rfl rfl rfl rfl ?_) | ((with_reducible refine zde ?_); refine zan rfl ?_)) | refine zch ?_)
    rw [o2_true (by simpa [ltInt] using hE)]
    exact ret_tmp2 rfl ⟨rfl, rfl⟩
  · rw [e1, e2] at hE
    repeat' (first | refine zck ?_ | refine zcp (by kernel_rfl) ?_ | refine zcm ?_ | (refine zap rfl ?_; first | ((with_reducible refine zcu ?_); refine zan rfl ?_) | ((with_reducible refine zcv ?_); refine zan rfl ?_)) | refine zch ?_)
    rw [o2_false (by simpa [ltInt] using hE)]
    exact ret_tmp2 rfl ⟨rfl, rfl⟩
theorem median_spec (w0 : World) (bb N cap : Nat) (D : Array Int) (sw s : Nat) (za zb zc : Int) (a b c : Nat) (hN : N ≤ 1152921504606846975) (ha : a < N) (hb : b < N) (hc : c < N) (hs : s ≤ 900) (e1 : za = a) (e2 : zb = b) (e3 : zc = c) :
    FnE PP w0 [] 98 [.slice (some ⟨bb, 0, none⟩) N cap, .int .i64 za, .int .i64 zb, .int .i64 zc, .pointer (some ⟨sw, 0, none⟩)] [Dat 27 bb N cap D, Swp sw s]
      (.int .i64 ((median ltInt D a b c s).1 : Nat)) [Dat 27 bb N cap D, Swp sw (median ltInt D a b c s).2] := by
  subst e1; subst e2; subst e3
  refine fn_of_run en98 fn98 rfl rfl rfl ?_
  have h1 := o2_lt (D := D) (s := s) ha hb
  have h2 := o2_lt (D := D) (s := (order2 ltInt D a b s).2.2) h1.2.1 hc
  have h3 := o2_lt (D := D) (s := (order2 ltInt D (order2 ltInt D a b s).2.1 c (order2 ltInt D a b s).2.2).2.2) h1.1 h2.1
  repeat' (first | refine zck ?_ | refine zcp (by kernel_rfl) ?_ | (refine zap rfl ?_; first | ((with_reducible refine zcu ?_); refine zan rfl ?_) | ((with_reducible refine zcv ?_); refine zan rfl ?_) | ((with_reducible refine zcx ?_); refine zah [0, 0] (order2_spec w0 bb N cap D sw _ _ _ hN (by omega) (by omega) (by omega)) rfl rfl rfl sub_nil rfl ?_) | ((with_reducible refine zcz ?_); refine zan rfl ?_)) | refine zch ?_)
  exact ret_tmp1 rfl ⟨rfl, rfl⟩
theorem median_lt {D : Array Int} {a b c s N : Nat} (ha : a < N) (hb : b < N) (hc : c < N) : (median ltInt D a b c s).1 < N ∧ (median ltInt D a b c s).2 ≤ s + 3 := by
  have h1 := o2_lt (D := D) (s := s) ha hb
  have h2 := o2_lt (D := D) (s := (order2 ltInt D a b s).2.2) h1.2.1 hc
  have h3 := o2_lt (D := D) (s := (order2 ltInt D (order2 ltInt D a b s).2.1 c (order2 ltInt D a b s).2.2).2.2) h1.1 h2.1
  exact ⟨h3.2.1, by show (order2 ltInt D _ _ _).2.2 ≤ _; omega⟩
theorem adj_spec (w0 : World) (bb N cap : Nat) (D : Array Int) (sw s : Nat) (za : Int) (a : Nat) (hN : N ≤ 1152921504606846975) (ha : a + 1 < N) (h0 : 0 < a) (hs : s ≤ 900) (e1 : za = a) :
    FnE PP w0 [] 97 [.slice (some ⟨bb, 0, none⟩) N cap, .int .i64 za, .pointer (some ⟨sw, 0, none⟩)] [Dat 27 bb N cap D, Swp sw s]
      (.int .i64 ((medianAdjacent ltInt D a s).1 : Nat)) [Dat 27 bb N cap D, Swp sw (medianAdjacent ltInt D a s).2] := by
  subst e1
  refine fn_of_run en97 fn97 rfl rfl rfl ?_
  repeat' (first | refine zck ?_ | refine zcp (by kernel_rfl) ?_ | (refine zap rfl ?_; first | ((with_reducible refine zcu ?_); refine zan rfl ?_) | ((with_reducible refine zcv ?_); refine zan rfl ?_) | ((with_reducible refine zcx ?_); refine zah [0, 0] (median_spec w0 bb N cap D sw s _ _ _ (a - 1) a (a + 1) hN (by omega) (by omega) (by omega) hs (by omega) (by omega) (by omega)) rfl rfl rfl sub_nil rfl ?_) | ((with_reducible refine zda ?_); first | refine zau rfl rfl (by omega) ?_ | refine zav rfl rfl (by omega) ?_)) | refine zch ?_)
  exact ret_tmp1 rfl ⟨rfl, rfl⟩
end Go.Proofs.Ytpcnbaddkblbhaa

namespace Go.Proofs.Ytpcnbaddkblbhaa
open Go.Vc
open Go.Sort (ltInt order2 median medianAdjacent choosePivot Hint)
def hintI : Hint → Int
  | .unknown => 0
  | .increasing => 1
  | .decreasing => 2
/-- The pivot and the number of swaps. -/
def piv (D : Array Int) (a b : Nat) : Nat × Nat :=
  if b - a ≥ 8 then
    if b - a ≥ 50 then
      median ltInt D (medianAdjacent ltInt D (a + (b - a) / 4 * 1) 0).1 (medianAdjacent ltInt D (a + (b - a) / 4 * 2) (medianAdjacent ltInt D (a + (b - a) / 4 * 1) 0).2).1
        (medianAdjacent ltInt D (a + (b - a) / 4 * 3) (medianAdjacent ltInt D (a + (b - a) / 4 * 2) (medianAdjacent ltInt D (a + (b - a) / 4 * 1) 0).2).2).1
        (medianAdjacent ltInt D (a + (b - a) / 4 * 3) (medianAdjacent ltInt D (a + (b - a) / 4 * 2) (medianAdjacent ltInt D (a + (b - a) / 4 * 1) 0).2).2).2
    else median ltInt D (a + (b - a) / 4 * 1) (a + (b - a) / 4 * 2) (a + (b - a) / 4 * 3) 0
  else (a + (b - a) / 4 * 2, 0)
theorem choose_eq (D : Array Int) (a b : Nat) : choosePivot ltInt D a b = ((piv D a b).1, if (piv D a b).2 = 0 then .increasing else if (piv D a b).2 = 12 then .decreasing else .unknown) := rfl
set_option maxHeartbeats 4000000
theorem choose_spec (w0 : World) (bb N cap : Nat) (D : Array Int) (a b : Nat) (hN : N ≤ 1152921504606846975) (hab : a < b) (hb : b ≤ N) :
    Vc.Fn PP w0 [] 82 [.slice (some ⟨bb, 0, none⟩) N cap, .int .i64 a, .int .i64 b] [Dat 27 bb N cap D]
      fun v Γ => v = .tuple #[.int .i64 ((choosePivot ltInt D a b).1 : Nat), .int .i64 (hintI (choosePivot ltInt D a b).2)] ∧ ∃ sw s, Γ = [Dat 27 bb N cap D, Swp sw s] := by
  refine fn_of_run en82 fn82 rfl rfl rfl ?_
  obtain ⟨r, hr⟩ : ∃ r, r = piv D a b := ⟨_, rfl⟩
  repeat (first | refine zck ?_ | refine zcl ?_ | refine zcm ?_ | refine zcn ?_)
  first | refine zcp (by kernel_rfl) ?_ | refine run_drawR PP_mixed (by kernel_rfl) (by kernel_rfl) ?_
  repeat' (refine zap rfl ?_; first | ((with_reducible refine zcv ?_); refine zan rfl ?_))
  all_goals refine zch ?_
  all_goals repeat (first | refine zck ?_ | refine zcl ?_ | refine zcm ?_ | refine zcn ?_)
  repeat (first | refine zck ?_ | refine zcl ?_ | refine zcm ?_ | refine zcn ?_)
  first | refine zcp (by kernel_rfl) ?_ | refine run_drawR PP_mixed (by kernel_rfl) (by kernel_rfl) ?_
  repeat' (refine zap rfl ?_; first | ((with_reducible refine zcu ?_); refine zan rfl ?_) | ((with_reducible refine zcv ?_); refine zan rfl ?_) | ((with_reducible refine zda ?_); refine zav rfl rfl (by omega) ?_))
  all_goals refine zch ?_
  all_goals repeat (first | refine zck ?_ | refine zcl ?_ | refine zcm ?_ | refine zcn ?_)
  repeat (first | refine zck ?_ | refine zcl ?_ | refine zcm ?_ | refine zcn ?_)
  first | refine zcp (by kernel_rfl) ?_ | refine run_drawR PP_mixed (by kernel_rfl) (by kernel_rfl) ?_
  repeat' (refine zap rfl ?_; first | ((with_reducible refine zdh ?_); refine zar (fun nb => ?_)))
  all_goals refine zch ?_
  all_goals repeat (first | refine zck ?_ | refine zcl ?_ | refine zcm ?_ | refine zcn ?_)
  repeat (first | refine zck ?_ | refine zcl ?_ | refine zcm ?_ | refine zcn ?_)
  first | refine zcp (by kernel_rfl) ?_ | refine run_drawR PP_mixed (by kernel_rfl) (by kernel_rfl) ?_
  repeat' (refine zap rfl ?_; first | ((with_reducible refine zcu ?_); refine zan rfl ?_) | ((with_reducible refine zcv ?_); refine zan rfl ?_) | ((with_reducible refine zda ?_); first | refine zau rfl rfl (by omega) ?_ | refine zaw rfl rfl (by omega) ?_ | refine zax rfl rfl (by omega) ?_))
  all_goals refine zch ?_
  all_goals repeat (first | refine zck ?_ | refine zcl ?_ | refine zcm ?_ | refine zcn ?_)
  repeat (first | refine zck ?_ | refine zcl ?_ | refine zcm ?_ | refine zcn ?_)
  first | refine zcp (by kernel_rfl) ?_ | refine run_drawR PP_mixed (by kernel_rfl) (by kernel_rfl) ?_
  repeat' (refine zap rfl ?_; first | ((with_reducible refine zcu ?_); refine zan rfl ?_) | ((with_reducible refine zcv ?_); refine zan rfl ?_) | ((with_reducible refine zda ?_); first | refine zau rfl rfl (by omega) ?_ | refine zaw rfl rfl (by omega) ?_ | refine zax rfl rfl (by omega) ?_))
  all_goals refine zch ?_
  all_goals repeat (first | refine zck ?_ | refine zcl ?_ | refine zcm ?_ | refine zcn ?_)
  repeat (first | refine zck ?_ | refine zcl ?_ | refine zcm ?_ | refine zcn ?_)
  first | refine zcp (by kernel_rfl) ?_ | refine run_drawR PP_mixed (by kernel_rfl) (by kernel_rfl) ?_
  repeat' (refine zap rfl ?_; first | ((with_reducible refine zcu ?_); refine zan rfl ?_) | ((with_reducible refine zcv ?_); refine zan rfl ?_) | ((with_reducible refine zda ?_); first | refine zau rfl rfl (by omega) ?_ | refine zaw rfl rfl (by omega) ?_ | refine zax rfl rfl (by omega) ?_))
  all_goals refine zch ?_
  all_goals repeat (first | refine zck ?_ | refine zcl ?_ | refine zcm ?_ | refine zcn ?_)
  repeat (first | refine zck ?_ | refine zcl ?_ | refine zcm ?_ | refine zcn ?_)
  first | refine zcp (by kernel_rfl) ?_ | refine run_drawR PP_mixed (by kernel_rfl) (by kernel_rfl) ?_
  repeat' (refine zap rfl ?_; first | ((with_reducible refine zcu ?_); refine zan rfl ?_) | ((with_reducible refine zda ?_); refine zbt rfl rfl ?_))
  all_goals refine zch ?_
  all_goals repeat (first | refine zck ?_ | refine zcl ?_ | refine zcm ?_ | refine zcn ?_)
  refine run_bind_eq (l' := [(9, .pointer (some ⟨nb, 0, none⟩)), (11, .int .i64 (r.1 : Nat))]) (Γ' := [Dat 27 bb N cap D, Swp nb r.2]) ?_ (fun junk => ?_)
  · refine run_cond rfl (fun hc => ?_) (fun hc => ?_)
    · by_cases h50 : 50 ≤ b - a
      · have m1 := median_lt (D := D) (a := a + (b - a) / 4 * 1 - 1) (b := a + (b - a) / 4 * 1) (c := a + (b - a) / 4 * 1 + 1) (s := 0) (N := N) (by omega) (by omega) (by omega)
        obtain ⟨r1, hr1⟩ : ∃ r1, r1 = medianAdjacent ltInt D (a + (b - a) / 4 * 1) 0 := ⟨_, rfl⟩
        have m1 : r1.1 < N ∧ r1.2 ≤ 0 + 3 := by rw [hr1]; exact m1
        have m2 := median_lt (D := D) (a := a + (b - a) / 4 * 2 - 1) (b := a + (b - a) / 4 * 2) (c := a + (b - a) / 4 * 2 + 1) (s := r1.2) (N := N) (by omega) (by omega) (by omega)
        obtain ⟨r2, hr2⟩ : ∃ r2, r2 = medianAdjacent ltInt D (a + (b - a) / 4 * 2) r1.2 := ⟨_, rfl⟩
        have m2 : r2.1 < N ∧ r2.2 ≤ r1.2 + 3 := by rw [hr2]; exact m2
        have m3 := median_lt (D := D) (a := a + (b - a) / 4 * 3 - 1) (b := a + (b - a) / 4 * 3) (c := a + (b - a) / 4 * 3 + 1) (s := r2.2) (N := N) (by omega) (by omega) (by omega)
        obtain ⟨r3, hr3⟩ : ∃ r3, r3 = medianAdjacent ltInt D (a + (b - a) / 4 * 3) r2.2 := ⟨_, rfl⟩
        have m3 : r3.1 < N ∧ r3.2 ≤ r2.2 + 3 := by rw [hr3]; exact m3
        have hrr : r = median ltInt D r1.1 r2.1 r3.1 r3.2 := by rw [hr, piv, if_pos (by omega), if_pos h50, ← hr1, ← hr2, ← hr3]
        have A1 := adj_spec w0 bb N cap D nb 0 ((a : Int) + ((b : Int) - a) / 4 * 1) (a + (b - a) / 4 * 1) hN (by omega) (by omega) (by omega) (by omega)
        have A2 := adj_spec w0 bb N cap D nb r1.2 ((a : Int) + ((b : Int) - a) / 4 * 2) (a + (b - a) / 4 * 2) hN (by omega) (by omega) (by omega) (by omega)
        have A3 := adj_spec w0 bb N cap D nb r2.2 ((a : Int) + ((b : Int) - a) / 4 * 3) (a + (b - a) / 4 * 3) hN (by omega) (by omega) (by omega) (by omega)
        rw [← hr1] at A1; rw [← hr2] at A2; rw [← hr3] at A3
        have A4 := median_spec w0 bb N cap D nb r3.2 _ _ _ r1.1 r2.1 r3.1 hN (by omega) (by omega) (by omega) (by omega) rfl rfl rfl
        rw [← hrr] at A4
        repeat' (first | refine zck ?_ | refine zcp (by kernel_rfl) ?_ | (refine zap rfl ?_; first | ((with_reducible refine zcu ?_); refine zan rfl ?_) | ((with_reducible refine zcv ?_); refine zan rfl ?_) | ((with_reducible refine zcx ?_); first | refine zah [0, 0] A1 rfl rfl rfl sub_nil rfl ?_ | refine zah [0, 0] A2 rfl rfl rfl sub_nil rfl ?_ | refine zah [0, 0] A3 rfl rfl rfl sub_nil rfl ?_ | refine zah [0, 0] A4 rfl rfl rfl sub_nil rfl ?_) | ((with_reducible refine zda ?_); refine zbm rfl rfl (by omega) ?_)) | refine zch ?_ | refine zci rfl ?_)
        refine cut_end ⟨rfl, ⟨rfl, rfl, trivial⟩, rfl⟩
      · have A4 := median_spec w0 bb N cap D nb 0 ((a : Int) + ((b : Int) - a) / 4 * 1) ((a : Int) + ((b : Int) - a) / 4 * 2) ((a : Int) + ((b : Int) - a) / 4 * 3) (a + (b - a) / 4 * 1) (a + (b - a) / 4 * 2) (a + (b - a) / 4 * 3) hN (by omega) (by omega) (by omega) (by omega) (by omega) (by omega) (by omega)
        have hrr : r = median ltInt D (a + (b - a) / 4 * 1) (a + (b - a) / 4 * 2) (a + (b - a) / 4 * 3) 0 := by rw [hr, piv, if_pos (by omega), if_neg h50]
        rw [← hrr] at A4
        repeat' (first | refine zck ?_ | refine zcp (by kernel_rfl) ?_ | refine zcm ?_ | (refine zap rfl ?_; first | ((with_reducible refine zcu ?_); refine zan rfl ?_) | ((with_reducible refine zcv ?_); refine zan rfl ?_) | ((with_reducible refine zcx ?_); refine zah [0, 0] A4 rfl rfl rfl sub_nil rfl ?_) | ((with_reducible refine zda ?_); refine zbn rfl rfl (by omega) ?_)) | refine zch ?_ | refine zcj rfl ?_)
        refine cut_end ⟨rfl, ⟨rfl, rfl, trivial⟩, rfl⟩
    · have hrr : r = (a + (b - a) / 4 * 2, 0) := by rw [hr, piv, if_neg (by omega)]
      subst hrr
      repeat' (first | refine zcm ?_ | (refine zap rfl ?_; first | ((with_reducible refine zcu ?_); refine zan rfl ?_)) | refine zch ?_)
      refine cut_end ⟨rfl, ⟨rfl, int_eq (by dsimp only; omega), trivial⟩, rfl⟩
  · repeat' (first | refine zck ?_ | refine zcp (by kernel_rfl) ?_ | refine zcl ?_ | (refine zap rfl ?_; first | ((with_reducible refine zcv ?_); refine zan rfl ?_) | ((with_reducible refine zcw ?_); refine zab 1 rfl rfl rfl ?_) | ((with_reducible refine zda ?_); refine zbo rfl rfl ?_)) | refine zch ?_)
    rw [choose_eq, ← hr]
    refine run_cond rfl (fun h0 => ?_) (fun h0 => ?_)
    · repeat' (first | refine zck ?_ | refine zcp (by kernel_rfl) ?_ | (refine zap rfl ?_; first | ((with_reducible refine zcu ?_); refine zan rfl ?_) | ((with_reducible refine zcv ?_); refine zan rfl ?_)) | refine zch ?_)
      refine ret_tmp2 rfl ⟨?_, nb, r.2, rfl⟩
      rw [if_pos (by omega)]; rfl
    · repeat' (first | refine zck ?_ | refine zcp (by kernel_rfl) ?_ | (refine zap rfl ?_; first | ((with_reducible refine zcv ?_); refine zan rfl ?_) | ((with_reducible refine zda ?_); refine zbo rfl rfl ?_)) | refine zch ?_)
      refine run_cond rfl (fun h1 => ?_) (fun h1 => ?_)
      · repeat' (first | refine zck ?_ | refine zcp (by kernel_rfl) ?_ | (refine zap rfl ?_; first | ((with_reducible refine zcu ?_); refine zan rfl ?_) | ((with_reducible refine zcv ?_); refine zan rfl ?_)) | refine zch ?_)
        refine ret_tmp2 rfl ⟨?_, nb, r.2, rfl⟩
        rw [if_neg (by omega), if_pos (by omega)]; rfl
      · repeat' (first | refine zck ?_ | refine zcp (by kernel_rfl) ?_ | (refine zap rfl ?_; first | ((with_reducible refine zcu ?_); refine zan rfl ?_) | ((with_reducible refine zcv ?_); refine zan rfl ?_)) | refine zch ?_)
        refine ret_tmp2 rfl ⟨?_, nb, r.2, rfl⟩
        rw [if_neg (by omega), if_neg (by omega)]; rfl
end Go.Proofs.Ytpcnbaddkblbhaa

