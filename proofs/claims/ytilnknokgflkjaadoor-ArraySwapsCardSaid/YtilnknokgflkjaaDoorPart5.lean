import Derived.Test.YtilnknokgflkjaaDoorRows
import Derived.Test.YtilnknokgflkjaaDoorTie
import Derived.Test.YtilnknokgflkjaaDoorCards
import Derived.SevenTiedAt
import Derived.Test.YtilnknokgflkjaaDoorPart4
import Derived.Test.YtilnknokgflkjaaDoorKit
/- Lemmas and walks for the claims of this seat (own work): Pw7 Pw8 Pw9 La0 La1 La2 Cd0 Rf0. -/
/- The plain law of the array: paths, Pop. -/
namespace Sim
open Go Go.Vc
def lost (n d : Nat) : Bool := decide (n % 8 ^ d = 0) || (decide (d = depN (n + 1)) && decide (depN n < depN (n + 1)))
/-- The number of nodes that go with element `n`, the levels up to `d`. -/
def G (n : Nat) : Nat → Nat
  | 0 => 0
  | d + 1 => (if lost n (d + 1) then 1 else 0) + G n d
set_option maxRecDepth 100000
theorem T_G : ∀ n, n < 200 → T (n + 1) = T n + G n (depN (n + 1)) := by decide
theorem dep_mono (n : Nat) (hn : n < 200) : depN n ≤ depN (n + 1) ∧ depN (n + 1) ≤ depN n + 1 := by
  by_cases hg : depN n < depN (n + 1)
  · rw [grown_d n hn hg]; omega
  · rw [same_d n hn hg]; omega
def vG (n d d' j : Nat) : Prop := vF (n + 1) d' j ∧ ¬ (d < d' ∧ j = n / 8 ^ d' ∧ lost n d' = true)
theorem vG_all {n : Nat} : vG n (depN (n + 1)) = vF (n + 1) := by
  funext d j
  refine propext ⟨fun h => h.1, fun h => ⟨h, fun h2 => ?_⟩⟩
  have := h.2.1; omega
theorem vG_none {n : Nat} (hn : n < 200) : vG n 0 = vF n := by
  obtain ⟨t1, t2, t3⟩ := top_C n hn
  obtain ⟨u1, u2⟩ := dep_mono n hn
  funext d j
  refine propext ⟨?_, ?_⟩
  · rintro ⟨⟨h1, h2, h3⟩, h4⟩
    have h5 : j * 8 ^ d < n := by
      rcases Nat.lt_or_eq_of_le (Nat.le_of_lt_succ h3) with h | h
      · exact h
      · exfalso
        refine h4 ⟨h1, ?_, ?_⟩
        · rw [← h, Nat.mul_div_cancel _ (Nat.pow_pos (by decide))]
        · simp [lost, ← h]
    refine ⟨h1, ?_, h5⟩
    by_cases e : d = depN (n + 1)
    · subst e
      refine Decidable.byContradiction fun hc => h4 ⟨h1, ?_, ?_⟩
      · rw [Nat.div_eq_of_lt t1]
        rcases Nat.eq_zero_or_pos j with h | h
        · exact h
        · have : 8 ^ depN (n + 1) ≤ j * 8 ^ depN (n + 1) := Nat.le_mul_of_pos_left _ h
          omega
      · simp only [lost, Bool.or_eq_true, Bool.and_eq_true, decide_eq_true_eq]
        exact .inr ⟨trivial, by omega⟩
    · omega
  · rintro ⟨h1, h2, h3⟩
    refine ⟨⟨h1, by omega, by omega⟩, ?_⟩
    rintro ⟨_, e, hl⟩
    simp only [lost, Bool.or_eq_true, Bool.and_eq_true, decide_eq_true_eq] at hl
    rcases hl with hl | ⟨hl, hl2⟩
    · rw [e, mul_div_eq hl] at h3; omega
    · omega
theorem vG_step {n d : Nat} (h : lost n (d + 1) = false) : vG n (d + 1) = vG n d := by
  funext d' j
  refine propext ⟨fun ⟨h1, h2⟩ => ⟨h1, fun ⟨h3, h4, h5⟩ => ?_⟩, fun ⟨h1, h2⟩ => ⟨h1, fun ⟨h3, h4, h5⟩ => h2 ⟨by omega, h4, h5⟩⟩⟩
  by_cases e : d' = d + 1
  · subst e; rw [h] at h5; cases h5
  · exact h2 ⟨by omega, h4, h5⟩
def pathL (ad : Nat → Nat → Int) (n : Nat) : Nat → List Int
  | 0 => []
  | d + 1 => ad (d + 1) (n / 8 ^ (d + 1)) :: pathL ad n d
theorem pathL_get (ad : Nat → Nat → Int) (n : Nat) : ∀ (d k : Nat), k < d → (pathL ad n d).getD k 0 = ad (d - k) (n / 8 ^ (d - k))
  | 0, k, h => absurd h (by omega)
  | d + 1, 0, _ => rfl
  | d + 1, k + 1, h => by
    rw [show d + 1 - (k + 1) = d - k by omega, ← pathL_get ad n d k (by omega)]; rfl
theorem pathL_last (ad : Nat → Nat → Int) (n : Nat) : ∀ (d : Nat), 1 ≤ d → lastD (pathL ad n d) = ad 1 (n / 8)
  | 0, h => absurd h (by omega)
  | 1, _ => by simp [pathL, lastD]
  | d + 2, _ => by
    have := pathL_last ad n (d + 1) (by omega)
    rw [← this]; simp [pathL, lastD]
theorem vF_path {n i d : Nat} (hi : i < n) (h1 : 1 ≤ d) (h2 : d ≤ depN n) : vF n d (i / 8 ^ d) :=
  ⟨h1, h2, Nat.lt_of_le_of_lt (Nat.div_mul_le_self _ _) hi⟩
section
variable {s0 s : Sp} {K : Int} {m : Int → Int} {l : List Int} {ad : Nat → Nat → Int}
theorem way_ok {n i : Nat} (hK : K ≤ 23) (hn : n < 200) (hi : i < n) (hT : Tree K m (depN n) (vF n) ad) : ∀ (d : Nat) (cell : Int) (s : Sp) (acc : List Int), d ≤ depN n → 0 ≤ cell → cell < 24 + 8 * K → (1 ≤ d → m cell = ad d (i / 8 ^ d)) →
    View s0 (24 + 8 * K) s m → ∃ s', (a0 K).way i d cell s acc = (some (acc ++ pathL ad i d), s') ∧ View s0 (24 + 8 * K) s' m
  | 0, cell, s, acc, _, _, _, _, hv => ⟨s, by simp [Ar.way, pathL], hv⟩
  | d + 1, cell, s, acc, hd, h0, h1, hc, hv => by
    obtain ⟨_, u2, _⟩ := dep_C _ hn
    have hN := hT.isn _ _ (vF_path hi (by omega) hd)
    have hl := isN_lo hN
    have hc := hc (by omega)
    obtain ⟨s1, e1, hv1⟩ := anode_ok hK hv h0 h1 (by rw [hc]; exact hN)
    have hdg := dig_nat i d (by omega)
    have hmod : i / 8 ^ d % 8 < 8 := Nat.mod_lt _ (by decide)
    simp only [Ar.way, e1, if_true]
    rw [hdg, hc]
    obtain ⟨s2, e2, hv2⟩ := way_ok hK hn hi hT d (ad (d + 1) (i / 8 ^ (d + 1)) + ((i / 8 ^ d % 8 : Nat) : Int)) s1 (acc ++ [ad (d + 1) (i / 8 ^ (d + 1))]) (by omega) (by omega) (by omega) (fun h => by
      have := hT.link d (i / 8 ^ d) (vF_path hi h (by omega)) (by omega)
      rw [div_step] at this; exact this) hv1
    exact ⟨s2, by rw [e2]; simp [pathL], hv2⟩

theorem gives_ok {n : Nat} (hK : K ≤ 23) (hn : n < 200) (hin : ∀ d j d' j', vF (n + 1) d j → vF (n + 1) d' j' → ad d j = ad d' j' → d = d' ∧ j = j') : ∀ (d gone : Nat) (m : Int → Int) (s : Sp), d ≤ depN (n + 1) → View s0 (24 + 8 * K) s m →
    PoolM K m (fun b => ∃ d' j, vG n d d' j ∧ b = ad d' j) ((T n + G n d : Nat) : Int) →
    ∃ s' m', (a0 K).gives ((n : Int) + 1) (depN (n + 1)) (depN n) (pathL ad n d) (depN (n + 1) - d) gone s = (0, ((gone + G n d : Nat) : Int), s') ∧ View s0 (24 + 8 * K) s' m' ∧
      PoolM K m' (fun b => ∃ d' j, vG n 0 d' j ∧ b = ad d' j) (T n) ∧ ∀ x, x ≠ 3 → x ≠ 5 → (∀ d', 1 ≤ d' → d' ≤ d → lost n d' = true → x ≠ ad d' (n / 8 ^ d')) → m' x = m x
  | 0, gone, m, s, _, hv, hp => ⟨s, m, by simp [Ar.gives, pathL, G], hv, by simpa [G] using hp, fun _ _ _ _ => rfl⟩
  | d + 1, gone, m, s, hd, hv, hp => by
    obtain ⟨t1, t2, t3⟩ := top_C n hn
    obtain ⟨u1, u2⟩ := dep_mono n hn
    have hpw : pw (depN (n + 1) - (depN (n + 1) - (d + 1))) = ((8 ^ (d + 1) : Nat) : Int) := by rw [show depN (n + 1) - (depN (n + 1) - (d + 1)) = d + 1 by omega]; exact pw_nat _ (by omega)
    have hi : depN (n + 1) - (d + 1) + 1 = depN (n + 1) - d := by omega
    have hsub : (n : Int) + 1 - 1 = n := by omega
    simp only [pathL, Ar.gives, hpw, hi, hsub]
    cases hl : lost n (d + 1) with
    | true =>
      have hG : G n (d + 1) = G n d + 1 := by simp [G, hl]; omega
      have hl2 := hl
      simp only [lost, Bool.or_eq_true, Bool.and_eq_true, decide_eq_true_eq] at hl2
      rw [if_neg (by
        rintro ⟨h1, h2⟩
        rcases hl2 with h3 | ⟨h3, h4⟩
        · have : (n : Int) % ((8 ^ (d + 1) : Nat) : Int) = ((n % 8 ^ (d + 1) : Nat) : Int) := by omega
          rw [this, h3] at h1; exact h1 rfl
        · omega)]
      have hv1 : vG n (d + 1) (d + 1) (n / 8 ^ (d + 1)) := ⟨vF_path (by omega) (by omega) hd, fun h => by omega⟩
      obtain ⟨s1, m1, e1, hw1, hp1, hx1⟩ := give_ok hK hv hp (by omega) ⟨_, _, hv1, rfl⟩
      rw [show (a0 K).pool = p0 K from rfl, e1]
      simp only [if_true]
      have hUU : (fun b => (∃ d' j, vG n (d + 1) d' j ∧ b = ad d' j) ∧ b ≠ ad (d + 1) (n / 8 ^ (d + 1))) = (fun b => ∃ d' j, vG n d d' j ∧ b = ad d' j) := by
        funext b
        refine propext ⟨?_, ?_⟩
        · rintro ⟨⟨d', j, ⟨h1, h2⟩, rfl⟩, hne⟩
          refine ⟨d', j, ⟨h1, fun ⟨h3, h4, h5⟩ => ?_⟩, rfl⟩
          by_cases e : d' = d + 1
          · subst e; exact hne (by rw [h4])
          · exact h2 ⟨by omega, h4, h5⟩
        · rintro ⟨d', j, ⟨h1, h2⟩, rfl⟩
          refine ⟨⟨d', j, ⟨h1, fun ⟨h3, h4, h5⟩ => h2 ⟨by omega, h4, h5⟩⟩, rfl⟩, fun e => ?_⟩
          obtain ⟨e1, e2⟩ := hin _ _ _ _ h1 hv1.1 e
          subst e1
          exact h2 ⟨by omega, e2, hl⟩
      have hp2 : PoolM K m1 (fun b => ∃ d' j, vG n d d' j ∧ b = ad d' j) ((T n + G n d : Nat) : Int) := by
        rw [← hUU]
        have : ((T n + G n d : Nat) : Int) = ((T n + G n (d + 1) : Nat) : Int) - 1 := by omega
        rw [this]; exact hp1
      obtain ⟨s2, m2, e2, hw2, hp3, hx2⟩ := gives_ok hK hn hin d (gone + 1) m1 s1 (by omega) hw1 hp2
      refine ⟨s2, m2, ?_, hw2, hp3, fun x h3 h5 hno => ?_⟩
      · have : ((gone + 1 : Nat) : Int) = (gone : Int) + 1 := by omega
        rw [← this, e2, hG]
        congr 2; omega
      · rw [hx2 x h3 h5 (fun d' h1 h2 h3 => hno d' h1 (by omega) h3), hx1 x h3 h5 (hno (d + 1) (by omega) (by omega) hl)]
    | false =>
      have hG : G n (d + 1) = G n d := by simp [G, hl]
      have hl2 := hl
      simp only [lost, Bool.or_eq_false_iff, Bool.and_eq_false_iff, decide_eq_false_iff_not] at hl2
      obtain ⟨h1, h2⟩ := hl2
      rw [if_pos ⟨by
        have : (n : Int) % ((8 ^ (d + 1) : Nat) : Int) = ((n % 8 ^ (d + 1) : Nat) : Int) := by omega
        rw [this]; omega, by omega⟩]
      rw [vG_step hl, hG] at hp
      obtain ⟨s2, m2, e2, hw2, hp3, hx2⟩ := gives_ok hK hn hin d gone m s (by omega) hv hp
      exact ⟨s2, m2, by rw [e2, hG], hw2, hp3, fun x h3 h5 hno => hx2 x h3 h5 (fun d' h1 h2 h3 => hno d' h1 (by omega) h3)⟩

theorem fell_ok (hK0 : 0 ≤ K) (hv : View s0 (24 + 8 * K) s m) {n D now : Nat} {gone top c : Int} (h15 : m 15 = c) (hc : 0 ≤ c - gone ∧ c ≤ 1000) (hg : 0 ≤ gone) (h10 : ¬ now < D → m 10 = now) :
    ∃ s' m', (a0 K).fell ((n : Int) + 1) D now top gone s = s' ∧ View s0 (24 + 8 * K) s' m' ∧ m' 15 = c - gone ∧ m' 10 = now ∧ m' 9 = n ∧ m' 8 = (if now < D then top else m 8) ∧ ∀ x, x ≠ 8 → x ≠ 9 → x ≠ 10 → x ≠ 15 → m' x = m x := by
  have h1 : ∃ s1 m1, (if 0 < gone then (s.get 15).2.put 15 (w64 ((s.get 15).1 - gone)) else s) = s1 ∧ View s0 (24 + 8 * K) s1 m1 ∧ m1 15 = c - gone ∧ ∀ x, x ≠ 15 → m1 x = m x := by
    by_cases h : 0 < gone
    · rw [if_pos h]
      obtain ⟨s1, e1, hv1⟩ := hv.get (a := 15) (by omega) (by omega)
      rw [e1]
      obtain ⟨s2, e2, hv2⟩ := hv1.put (a := 15) (by omega) (by omega) (w64 (m 15 - gone))
      exact ⟨s2, _, e2, hv2, by rw [upd_same, h15, w64_id (by omega) (by omega)], fun x hx => upd_ne hx⟩
    · rw [if_neg h]
      exact ⟨s, m, rfl, hv, by omega, fun _ _ => rfl⟩
  obtain ⟨s1, m1, e1, hv1, h1a, h1b⟩ := h1
  have h2 : ∃ s2 m2, (if now < D then (s1.put 8 top).put 10 (now : Int) else s1) = s2 ∧ View s0 (24 + 8 * K) s2 m2 ∧ m2 10 = now ∧ m2 8 = (if now < D then top else m 8) ∧ ∀ x, x ≠ 8 → x ≠ 10 → m2 x = m1 x := by
    by_cases h : now < D
    · rw [if_pos h, if_pos h]
      obtain ⟨s2, e2, hv2⟩ := hv1.put (a := 8) (by omega) (by omega) top
      rw [e2]
      obtain ⟨s3, e3, hv3⟩ := hv2.put (a := 10) (by omega) (by omega) now
      exact ⟨s3, _, e3, hv3, upd_same _ _ _, by rw [upd_ne (by decide), upd_same], fun x h1 h2 => by rw [upd_ne h2, upd_ne h1]⟩
    · rw [if_neg h, if_neg h]
      exact ⟨s1, m1, rfl, hv1, by rw [h1b 10 (by decide), h10 h], h1b 8 (by decide), fun _ _ _ => rfl⟩
  obtain ⟨s2, m2, e2, hv2, h2a, h2b, h2c⟩ := h2
  obtain ⟨s3, e3, hv3⟩ := hv2.put (a := 9) (by omega) (by omega) n
  refine ⟨s3, _, ?_, hv3, ?_, ?_, upd_same _ _ _, ?_, fun x h8 h9 h10 h15 => by rw [upd_ne h9, h2c x h8 h10, h1b x h15]⟩
  · have hsub : (n : Int) + 1 - 1 = n := by omega
    simp only [Ar.fell, a0, show (8 : Int) + 7 = 15 from rfl, show (8 : Int) + 2 = 10 from rfl, show (8 : Int) + 1 = 9 from rfl, hsub, e1, e2, e3]
  · rw [upd_ne (by decide), h2c 15 (by decide) (by decide), h1a]
  · rw [upd_ne (by decide), h2a]
  · rw [upd_ne (by decide), h2b]
end
end Sim

/- The plain law of the array: Pop, whole. -/
namespace Sim
open Go Go.Vc
section
variable {s0 s : Sp} {K : Int} {m : Int → Int} {l : List Int} {ad : Nat → Nat → Int}

theorem Full.pop {v : Int} (h : Full K m (l ++ [v]) ad) (hn : l.length < 200) {m1 m2 : Int → Int} (hp : PoolM K m1 (fun b => ∃ d' j, vG l.length 0 d' j ∧ b = ad d' j) (T l.length))
    (hx : ∀ x, x ≠ 3 → x ≠ 5 → (∀ d', 1 ≤ d' → d' ≤ depN (l.length + 1) → lost l.length d' = true → x ≠ ad d' (l.length / 8 ^ d')) → m1 x = m x)
    (h15 : m2 15 = T l.length) (h10 : m2 10 = depN l.length) (h9 : m2 9 = l.length) (h8 : 0 < l.length → m2 8 = if depN l.length < depN (l.length + 1) then ad (depN l.length) 0 else m 8)
    (hx2 : ∀ x, x ≠ 8 → x ≠ 9 → x ≠ 10 → x ≠ 15 → m2 x = m1 x) : Full K m2 l ad := by
  have hlen : (l ++ [v]).length = l.length + 1 := by simp
  obtain ⟨t, lf, p, q9, q10, q8, q15⟩ := h
  rw [hlen] at t p q9 q10 q8 q15
  obtain ⟨u1, u2⟩ := dep_mono _ hn
  obtain ⟨w1, w2, w3⟩ := dep_C _ hn
  have hsub : ∀ d j, vF l.length d j → vF (l.length + 1) d j := fun d j ⟨h1, h2, h3⟩ => ⟨h1, by omega, by omega⟩
  have hnl : ∀ d j d', vF l.length d j → 1 ≤ d' → d' ≤ depN (l.length + 1) → lost l.length d' = true → ∀ k : Nat, k < 8 → ad d j + (k : Int) ≠ ad d' (l.length / 8 ^ d') := fun d j d' hv h1 h2 hl k hk e => by
    have hv' : vF (l.length + 1) d' (l.length / 8 ^ d') := vF_path (by omega) h1 h2
    have e' : ad d j + (k : Int) = ad d' (l.length / 8 ^ d') + ((0 : Nat) : Int) := by simpa using e
    obtain ⟨e1, _⟩ := cell_inj (t.isn _ _ (hsub _ _ hv)) (t.isn _ _ hv') hk (by decide) e'
    obtain ⟨e2, e3⟩ := t.inj _ _ _ _ (hsub _ _ hv) hv' e1
    subst e2
    rw [← vG_none hn] at hv
    exact hv.2 ⟨h1, e3, hl⟩
  have hoc : ∀ d j (k : Nat), vF l.length d j → k < 8 → m2 (ad d j + (k : Int)) = m (ad d j + (k : Int)) := fun d j k hv hk => by
    have hl := isN_lo (t.isn _ _ (hsub _ _ hv))
    rw [hx2 _ (by omega) (by omega) (by omega) (by omega), hx _ (by omega) (by omega) (fun d' h1 h2 h3 => hnl d j d' hv h1 h2 h3 k hk)]
  refine ⟨⟨fun d j hv => ⟨hv.1, hv.2.1⟩, fun d j hv => t.isn _ _ (hsub _ _ hv), fun d j d' j' hv hv' e => t.inj _ _ _ _ (hsub _ _ hv) (hsub _ _ hv') e, fun d j hv hd => ?_, fun d j hv hd => ?_⟩, ?_, ?_, h9, h10, ?_, h15⟩
  · refine ⟨by omega, by omega, ?_⟩
    have h3 := hv.2.2
    have : j / 8 * 8 ^ (d + 1) ≤ j * 8 ^ d := by
      rw [Nat.pow_succ, Nat.mul_comm (8 ^ d) 8, ← Nat.mul_assoc]
      exact Nat.mul_le_mul_right _ (Nat.div_mul_le_self _ _)
    omega
  · have hpar : vF l.length (d + 1) (j / 8) := by
      refine ⟨by omega, by omega, ?_⟩
      have h3 := hv.2.2
      have : j / 8 * 8 ^ (d + 1) ≤ j * 8 ^ d := by
        rw [Nat.pow_succ, Nat.mul_comm (8 ^ d) 8, ← Nat.mul_assoc]
        exact Nat.mul_le_mul_right _ (Nat.div_mul_le_self _ _)
      omega
    rw [hoc _ _ _ hpar (Nat.mod_lt _ (by decide)), t.link _ _ (hsub _ _ hv) (by omega)]
  · intro i u hi
    have hil := (List.getElem?_eq_some_iff.1 hi).1
    have hv : vF l.length 1 (i / 8) := ⟨Nat.le_refl _, w3 (by omega), by omega⟩
    rw [hoc _ _ _ hv (Nat.mod_lt _ (by decide)), lf i u (by rw [List.getElem?_append_left hil]; exact hi)]
  · rw [vG_none hn] at hp
    exact hp.eq (hx2 3 (by decide) (by decide) (by decide) (by decide)) (hx2 4 (by decide) (by decide) (by decide) (by decide)) (hx2 5 (by decide) (by decide) (by decide) (by decide))
      (fun x hxN _ => by have := isN_lo hxN; exact hx2 x (by omega) (by omega) (by omega) (by omega))
  · intro h0
    rw [h8 h0]
    by_cases hg : depN l.length < depN (l.length + 1)
    · rw [if_pos hg]
    · rw [if_neg hg, q8 (by omega), show depN (l.length + 1) = depN l.length by omega]

theorem popOn_ok (hK0 : 0 ≤ K) (hK : K ≤ 23) {v top : Int} (hv : View s0 (24 + 8 * K) s m) (hF : Full K m (l ++ [v]) ad) (hn : l.length < 200) (htop : 0 < l.length → depN l.length < depN (l.length + 1) → top = ad (depN l.length) 0) :
    ∃ s' m', (a0 K).popOn ((l.length : Int) + 1) (depN (l.length + 1)) (depN l.length) (pathL ad l.length (depN (l.length + 1))) v top s = (v, 0, s') ∧ View s0 (24 + 8 * K) s' m' ∧ Full K m' l ad := by
  have hlen : (l ++ [v]).length = l.length + 1 := by simp
  obtain ⟨u1, u2⟩ := dep_mono _ hn
  have hT := T_G _ hn
  have hin := hF.tree.inj
  have hp := hF.pool
  have h15 := hF.nodes
  have h10 := hF.depth
  have hTs := (hF.small hK).1
  rw [hlen] at hin hp h15 h10 hTs
  obtain ⟨s1, m1, e1, hv1, hp1, hx⟩ := gives_ok hK hn hin (depN (l.length + 1)) 0 m s (Nat.le_refl _) hv (by rw [vG_all, ← hT]; exact hp)
  rw [Nat.sub_self] at e1
  have e1' : (a0 K).gives ((l.length : Int) + 1) (depN (l.length + 1)) (depN l.length) (pathL ad l.length (depN (l.length + 1))) 0 0 s = (0, ((0 + G l.length (depN (l.length + 1)) : Nat) : Int), s1) := e1
  have hlo : ∀ x, x < 24 → x ≠ 3 → x ≠ 5 → m1 x = m x := fun x h1 h3 h5 => hx x h3 h5 (fun d' h6 h7 h8 e => by
    have := isN_lo (hF.tree.isn d' (l.length / 8 ^ d') (by rw [hlen]; exact vF_path (by omega) h6 h7))
    omega)
  obtain ⟨s2, m2, e2, hv2, f15, f10, f9, f8, fx⟩ := fell_ok (n := l.length) (D := depN (l.length + 1)) (now := depN l.length) (gone := ((0 + G l.length (depN (l.length + 1)) : Nat) : Int)) (top := top) (c := (T (l.length + 1) : Int)) hK0 hv1
    (by rw [hlo 15 (by decide) (by decide) (by decide), h15]) (by omega) (by omega) (fun h => by rw [hlo 10 (by decide) (by decide) (by decide), h10]; omega)
  refine ⟨s2, m2, ?_, hv2, hF.pop hn hp1 hx (by rw [f15]; omega) f10 f9 ?_ fx⟩
  · unfold Ar.popOn
    rw [e1']
    dsimp only
    rw [if_pos rfl, e2]
  · intro h0
    rw [f8, hlo 8 (by decide) (by decide) (by decide)]
    by_cases hg : depN l.length < depN (l.length + 1)
    · rw [if_pos hg, if_pos hg, htop h0 hg]
    · rw [if_neg hg, if_neg hg]

theorem popIn_ok (hK0 : 0 ≤ K) (hK : K ≤ 23) {v : Int} (hv : View s0 (24 + 8 * K) s m) (hF : Full K m (l ++ [v]) ad) :
    ∃ s' m', (a0 K).popIn ((l.length : Int) + 1) (depN (l.length + 1)) s = (v, 0, s') ∧ View s0 (24 + 8 * K) s' m' ∧ Full K m' l ad := by
  have hlen : (l ++ [v]).length = l.length + 1 := by simp
  have hsm := (hF.small hK).2
  rw [hlen] at hsm
  have hn : l.length < 200 := by omega
  obtain ⟨u1, u2⟩ := dep_mono _ hn
  obtain ⟨t1, t2, t3⟩ := top_C _ hn
  have hT := hF.tree
  rw [hlen] at hT
  have hv1 : vF (l.length + 1) (depN (l.length + 1)) 0 := ⟨t2, Nat.le_refl _, by omega⟩
  have htopE := hF.top (by simp)
  rw [hlen] at htopE
  have hdiv : l.length / 8 ^ depN (l.length + 1) = 0 := Nat.div_eq_of_lt t1
  obtain ⟨s1, e1, hw1⟩ := way_ok (i := l.length) hK hsm (by omega) hT (depN (l.length + 1)) 8 s [] (Nat.le_refl _) (by omega) (by omega) (fun _ => by rw [hdiv]; exact htopE) hv
  have hleafV : vF (l.length + 1) 1 (l.length / 8) := by have := vF_path (n := l.length + 1) (i := l.length) (d := 1) (by omega) (Nat.le_refl _) t2; simpa using this
  have hlb := isN_lo (hT.isn _ _ hleafV)
  have hmod : l.length % 8 < 8 := Nat.mod_lt _ (by decide)
  have hdg : dig (l.length : Int) 1 = ((l.length % 8 : Nat) : Int) := by have := dig_nat l.length 0 (by decide); simpa using this
  obtain ⟨s2, e2, hw2⟩ := hw1.get (a := ad 1 (l.length / 8) + ((l.length % 8 : Nat) : Int)) (by omega) (by omega)
  rw [hF.leaf l.length v (by simp)] at e2
  have hdN : dep (l.length : Int) = depN l.length := dep_nat _
  have e1' : (a0 K).way (l.length : Int) (depN (l.length + 1)) (a0 K).root s [] = (some (pathL ad l.length (depN (l.length + 1))), s1) := e1
  have hsub : (l.length : Int) + 1 - 1 = l.length := by omega
  have hgl := pathL_get ad l.length (depN (l.length + 1)) (depN (l.length + 1) - 1) (by omega)
  rw [show depN (l.length + 1) - (depN (l.length + 1) - 1) = 1 by omega, Nat.pow_one] at hgl
  have hg0 := pathL_get ad l.length (depN (l.length + 1)) 0 (by omega)
  rw [Nat.sub_zero, hdiv] at hg0
  unfold Ar.popIn
  rw [hsub, e1']
  dsimp only
  rw [hgl, hdg, e2, hdN, hg0]
  dsimp only
  by_cases hc : 0 < depN l.length ∧ depN l.length < depN (l.length + 1)
  · rw [if_pos hc]
    have hv0 : vF (l.length + 1) (depN l.length) 0 := ⟨hc.1, by omega, by omega⟩
    have hlk := hT.link _ _ hv0 hc.2
    rw [show depN l.length + 1 = depN (l.length + 1) by omega] at hlk
    have hlk' : m (ad (depN (l.length + 1)) 0) = ad (depN l.length) 0 := by simpa using hlk
    have htb := isN_lo (hT.isn _ _ hv1)
    obtain ⟨s3, e3, hw3⟩ := anode_ok hK hw2 (cell := ad (depN (l.length + 1)) 0) (by omega) (by omega) (by rw [hlk']; exact hT.isn _ _ hv0)
    rw [e3]
    simp only [if_true]
    exact popOn_ok hK0 hK hw3 hF hn (fun _ _ => hlk')
  · rw [if_neg hc]
    refine popOn_ok hK0 hK hw2 hF hn (fun h0 hg => ?_)
    have := (dep_C _ hn).2.2 h0
    exact absurd ⟨by omega, hg⟩ hc

theorem pop_ok (hK0 : 0 ≤ K) (hK : K ≤ 23) {v : Int} (h : Inv K s (l ++ [v])) : ∃ s', (a0 K).pop s = (v, 0, s') ∧ Inv K s' l := by
  obtain ⟨m, ad, hv, hF⟩ := h
  have hlen : (l ++ [v]).length = l.length + 1 := by simp
  obtain ⟨hT, hn⟩ := hF.small hK
  have hmany := hF.many
  have hdepth := hF.depth
  obtain ⟨s1, e1, hv1⟩ := many_ok2 (n := l.length + 1) hK0 hv (by omega) (by rw [hmany, hlen]) (by rw [hdepth, hlen])
  obtain ⟨s2, m2, e2, hv2, hF2⟩ := popIn_ok hK0 hK hv1 hF
  refine ⟨s2, ?_, ⟨m2, ad, hv2.base, hF2⟩⟩
  unfold Ar.pop
  rw [e1]
  dsimp only
  rw [if_neg (by omega), if_pos rfl, Int.toNat_natCast, show ((l.length + 1 : Nat) : Int) = (l.length : Int) + 1 by omega, e2]
  simp [Ar.undoPop]
theorem pop_none (hK0 : 0 ≤ K) (h : Inv K s []) : ∃ s', (a0 K).pop s = (0, 8, s') ∧ Inv K s' [] := by
  obtain ⟨m, ad, hv, hF⟩ := h
  obtain ⟨s1, e1, hv1⟩ := many_ok2 (n := 0) hK0 hv (by omega) hF.many hF.depth
  refine ⟨s1, ?_, ⟨m, ad, hv1.base, hF⟩⟩
  unfold Ar.pop
  rw [e1]
  rfl
end
end Sim

/- The plain law of the array: place, Get, Set, Swap. -/
namespace Sim
open Go Go.Vc
section
variable {s0 s : Sp} {K : Int} {m : Int → Int} {l : List Int} {ad : Nat → Nat → Int}
theorem place_ok (hK0 : 0 ≤ K) (hK : K ≤ 23) (hv : View s0 (24 + 8 * K) s m) (hF : Full K m l ad) {i : Nat} (hi : i < l.length) :
    ∃ s', (a0 K).place s i = (ad 1 (i / 8) + ((i % 8 : Nat) : Int), 0, s') ∧ View s0 (24 + 8 * K) s' m := by
  obtain ⟨hT, hn⟩ := hF.small hK
  obtain ⟨w1, w2, w3⟩ := dep_C _ hn
  obtain ⟨s1, e1, hv1⟩ := hv.get (a := 9) (by omega) (by omega)
  have e1' : s.get ((a0 K).root + 1) = ((l.length : Int), s1) := by rw [← hF.many]; exact e1
  obtain ⟨s2, e2, hv2⟩ := many_ok2 hK0 hv1 (by omega) hF.many hF.depth
  have htop := hF.top (by omega)
  have hdiv : i / 8 ^ depN l.length = 0 := Nat.div_eq_of_lt (by omega)
  obtain ⟨s3, e3, hv3⟩ := way_ok hK hn hi hF.tree (depN l.length) 8 s2 [] (Nat.le_refl _) (by omega) (by omega) (fun _ => by rw [hdiv]; exact htop) hv2
  have e3' : (a0 K).way (i : Int) (depN l.length) (a0 K).root s2 [] = (some (pathL ad i (depN l.length)), s3) := e3
  have hdg : dig (i : Int) 1 = ((i % 8 : Nat) : Int) := by have := dig_nat i 0 (by decide); simpa using this
  refine ⟨s3, ?_, hv3⟩
  unfold Ar.place
  rw [if_neg (by omega), e1']
  dsimp only
  rw [if_neg (by omega), e2]
  dsimp only
  rw [if_pos rfl, Int.toNat_natCast, e3']
  dsimp only
  rw [pathL_last _ _ _ (w3 (by omega)), hdg]
theorem place_out (hK0 : 0 ≤ K) (hv : View s0 (24 + 8 * K) s m) (hF : Full K m l ad) {i : Int} (hi : i < 0 ∨ (l.length : Int) ≤ i) :
    ∃ s', (a0 K).place s i = (0, 3, s') ∧ View s0 (24 + 8 * K) s' m := by
  obtain ⟨s1, e1, hv1⟩ := hv.get (a := 9) (by omega) (by omega)
  have e1' : s.get ((a0 K).root + 1) = ((l.length : Int), s1) := by rw [← hF.many]; exact e1
  unfold Ar.place
  by_cases h : i < 0
  · rw [if_pos h]; exact ⟨s, rfl, hv⟩
  · rw [if_neg h, e1']
    dsimp only
    rw [if_pos (by omega)]; exact ⟨s1, rfl, hv1⟩

theorem Full.cell (hF : Full K m l ad) {i : Nat} (hi : i < l.length) (hn : l.length < 200) : vF l.length 1 (i / 8) ∧ 24 ≤ ad 1 (i / 8) + ((i % 8 : Nat) : Int) ∧ ad 1 (i / 8) + ((i % 8 : Nat) : Int) < 24 + 8 * K := by
  obtain ⟨w1, w2, w3⟩ := dep_C _ hn
  have hv : vF l.length 1 (i / 8) := ⟨Nat.le_refl _, w3 (by omega), by omega⟩
  have := isN_lo (hF.tree.isn _ _ hv)
  exact ⟨hv, by omega, by omega⟩

theorem Full.set (hF : Full K m l ad) {i : Nat} (hi : i < l.length) (hn : l.length < 200) (v : Int) : Full K (upd m (ad 1 (i / 8) + ((i % 8 : Nat) : Int)) v) (l.set i v) ad := by
  obtain ⟨hv, h1, h2⟩ := hF.cell hi hn
  obtain ⟨t, lf, p, q9, q10, q8, q15⟩ := hF
  have hN := t.isn _ _ hv
  have hlen : (l.set i v).length = l.length := by simp
  generalize hcell : ad 1 (i / 8) + ((i % 8 : Nat) : Int) = cell at h1 h2 ⊢
  have hoc : ∀ d j (k : Nat), vF l.length d j → k < 8 → ¬ (d = 1 ∧ j = i / 8 ∧ k = i % 8) → upd m cell v (ad d j + (k : Int)) = m (ad d j + (k : Int)) := fun d j k hv' hk hno => upd_ne fun e => by
    rw [← hcell] at e
    obtain ⟨e1, e2⟩ := cell_inj (t.isn _ _ hv') hN hk (Nat.mod_lt _ (by decide)) e
    obtain ⟨e3, e4⟩ := t.inj _ _ _ _ hv' hv e1
    exact hno ⟨e3, e4, e2⟩
  have hlo : ∀ x, x < 24 → upd m cell v x = m x := fun x hx => upd_ne (by omega)
  refine ⟨?_, ?_, ?_, ?_, ?_, ?_, ?_⟩
  · rw [hlen]
    refine ⟨t.pos, t.isn, t.inj, t.par, fun d j hv' hd => ?_⟩
    have := t.pos _ _ hv'
    rw [hoc _ _ _ (t.par _ _ hv' hd) (Nat.mod_lt _ (by decide)) (by omega), t.link _ _ hv' hd]
  · intro q u hq
    have hql := (List.getElem?_eq_some_iff.1 hq).1
    rw [hlen] at hql
    by_cases e : q = i
    · subst e
      rw [List.getElem?_set_self hi] at hq
      cases hq
      rw [hcell, upd_same]
    · rw [List.getElem?_set_ne (Ne.symm e)] at hq
      have w3 := (dep_C _ hn).2.2 (by omega)
      have hv' : vF l.length 1 (q / 8) := ⟨Nat.le_refl _, w3, by omega⟩
      rw [hoc _ _ _ hv' (Nat.mod_lt _ (by decide)) (by omega), lf q u hq]
  · rw [hlen]
    refine p.eq (hlo 3 (by decide)) (hlo 4 (by decide)) (hlo 5 (by decide)) (fun x hxN hxU => upd_ne fun e => ?_)
    rw [← hcell] at e
    have e' : x + ((0 : Nat) : Int) = ad 1 (i / 8) + ((i % 8 : Nat) : Int) := by simpa using e
    obtain ⟨e1, _⟩ := cell_inj hxN hN (by decide) (Nat.mod_lt _ (by decide)) e'
    exact hxU ⟨_, _, hv, e1⟩
  · rw [hlo 9 (by decide), q9, hlen]
  · rw [hlo 10 (by decide), q10, hlen]
  · rw [hlen, hlo 8 (by decide)]; exact q8
  · rw [hlo 15 (by decide), q15, hlen]

theorem get_ok (hK0 : 0 ≤ K) (hK : K ≤ 23) (h : Inv K s l) {i : Nat} {v : Int} (hi : l[i]? = some v) : ∃ s', (a0 K).get s i = (v, 0, s') ∧ Inv K s' l := by
  obtain ⟨m, ad, hv, hF⟩ := h
  have hil := (List.getElem?_eq_some_iff.1 hi).1
  obtain ⟨_, h1, h2⟩ := hF.cell hil (hF.small hK).2
  obtain ⟨s1, e1, hv1⟩ := place_ok hK0 hK hv hF hil
  obtain ⟨s2, e2, hv2⟩ := hv1.get (a := ad 1 (i / 8) + ((i % 8 : Nat) : Int)) (by omega) h2
  refine ⟨s2, ?_, ⟨m, ad, hv2.base, hF⟩⟩
  simp only [Ar.get, e1, if_true, e2, hF.leaf i v hi]
theorem get_out (hK0 : 0 ≤ K) (h : Inv K s l) {i : Int} (hi : i < 0 ∨ (l.length : Int) ≤ i) : ∃ s', (a0 K).get s i = (0, 3, s') ∧ Inv K s' l := by
  obtain ⟨m, ad, hv, hF⟩ := h
  obtain ⟨s1, e1, hv1⟩ := place_out hK0 hv hF hi
  refine ⟨s1, ?_, ⟨m, ad, hv1.base, hF⟩⟩
  simp [Ar.get, e1]
theorem set_ok (hK0 : 0 ≤ K) (hK : K ≤ 23) (h : Inv K s l) {i : Nat} {u : Int} (hi : l[i]? = some u) (v : Int) : ∃ s', (a0 K).set s i v = (u, 0, s') ∧ Inv K s' (l.set i v) := by
  obtain ⟨m, ad, hv, hF⟩ := h
  have hil := (List.getElem?_eq_some_iff.1 hi).1
  have hn := (hF.small hK).2
  obtain ⟨_, h1, h2⟩ := hF.cell hil hn
  obtain ⟨s1, e1, hv1⟩ := place_ok hK0 hK hv hF hil
  obtain ⟨s2, e2, hv2⟩ := hv1.get (a := ad 1 (i / 8) + ((i % 8 : Nat) : Int)) (by omega) h2
  obtain ⟨s3, e3, hv3⟩ := hv2.put (a := ad 1 (i / 8) + ((i % 8 : Nat) : Int)) (by omega) h2 v
  refine ⟨s3, ?_, ⟨_, ad, hv3.base, hF.set hil hn v⟩⟩
  simp only [Ar.set, e1, if_true, e2, e3, hF.leaf i u hi]
theorem set_out (hK0 : 0 ≤ K) (h : Inv K s l) {i v : Int} (hi : i < 0 ∨ (l.length : Int) ≤ i) : ∃ s', (a0 K).set s i v = (0, 3, s') ∧ Inv K s' l := by
  obtain ⟨m, ad, hv, hF⟩ := h
  obtain ⟨s1, e1, hv1⟩ := place_out hK0 hv hF hi
  refine ⟨s1, ?_, ⟨m, ad, hv1.base, hF⟩⟩
  simp [Ar.set, e1]
theorem swap_ok (hK0 : 0 ≤ K) (hK : K ≤ 23) (h : Inv K s l) {i j : Nat} {u w : Int} (hi : l[i]? = some u) (hj : l[j]? = some w) : ∃ s', (a0 K).swap s i j = (0, s') ∧ Inv K s' ((l.set i w).set j u) := by
  obtain ⟨m, ad, hv, hF⟩ := h
  have hil := (List.getElem?_eq_some_iff.1 hi).1
  have hjl := (List.getElem?_eq_some_iff.1 hj).1
  have hn := (hF.small hK).2
  obtain ⟨_, h1, h2⟩ := hF.cell hil hn
  obtain ⟨_, h3, h4⟩ := hF.cell hjl hn
  obtain ⟨s1, e1, hv1⟩ := hv.get (a := 9) (by omega) (by omega)
  have e1' : s.get ((a0 K).root + 1) = ((l.length : Int), s1) := by rw [← hF.many]; exact e1
  obtain ⟨s2, e2, hv2⟩ := place_ok hK0 hK hv1 hF hil
  obtain ⟨s3, e3, hv3⟩ := place_ok hK0 hK hv2 hF hjl
  obtain ⟨s4, e4, hv4⟩ := hv3.get (a := ad 1 (i / 8) + ((i % 8 : Nat) : Int)) (by omega) h2
  obtain ⟨s5, e5, hv5⟩ := hv4.get (a := ad 1 (j / 8) + ((j % 8 : Nat) : Int)) (by omega) h4
  obtain ⟨s6, e6, hv6⟩ := hv5.put (a := ad 1 (i / 8) + ((i % 8 : Nat) : Int)) (by omega) h2 w
  obtain ⟨s7, e7, hv7⟩ := hv6.put (a := ad 1 (j / 8) + ((j % 8 : Nat) : Int)) (by omega) h4 u
  have hF2 := hF.set hil hn w
  have hF3 := hF2.set (i := j) (by simpa using hjl) (by simpa using hn) u
  refine ⟨s7, ?_, ⟨_, ad, hv7.base, hF3⟩⟩
  simp only [Ar.swap, e1']
  rw [if_neg (by omega)]
  simp only [e2, if_true, e3, e4, e5, hF.leaf i u hi, hF.leaf j w hj, e6, e7]
theorem swap_out (hK0 : 0 ≤ K) (h : Inv K s l) {i j : Int} (hi : i < 0 ∨ (l.length : Int) ≤ i ∨ j < 0 ∨ (l.length : Int) ≤ j) : ∃ s', (a0 K).swap s i j = (3, s') ∧ Inv K s' l := by
  obtain ⟨m, ad, hv, hF⟩ := h
  obtain ⟨s1, e1, hv1⟩ := hv.get (a := 9) (by omega) (by omega)
  have e1' : s.get ((a0 K).root + 1) = ((l.length : Int), s1) := by rw [← hF.many]; exact e1
  refine ⟨s1, ?_, ⟨m, ad, hv1.base, hF⟩⟩
  simp only [Ar.swap, e1']
  rw [if_pos (by omega)]
theorem len_ok (hK0 : 0 ≤ K) (h : Inv K s l) : ∃ s', s.get ((a0 K).root + 1) = ((l.length : Int), s') ∧ Inv K s' l := by
  obtain ⟨m, ad, hv, hF⟩ := h
  obtain ⟨s1, e1, hv1⟩ := hv.get (a := 9) (by omega) (by omega)
  exact ⟨s1, by rw [← hF.many]; exact e1, ⟨m, ad, hv1.base, hF⟩⟩
theorem nodes_ok (hK0 : 0 ≤ K) (h : Inv K s l) : ∃ s', s.get ((a0 K).root + 7) = ((T l.length : Int), s') ∧ Inv K s' l := by
  obtain ⟨m, ad, hv, hF⟩ := h
  obtain ⟨s1, e1, hv1⟩ := hv.get (a := 15) (by omega) (by omega)
  exact ⟨s1, by rw [← hF.nodes]; exact e1, ⟨m, ad, hv1.base, hF⟩⟩
theorem leftA_ok (hK : K ≤ 23) (h : Inv K s l) : ∃ s', (p0 K).left s = (K - (T l.length : Int), s') ∧ Inv K s' l := by
  obtain ⟨m, ad, hv, hF⟩ := h
  obtain ⟨s1, e1, hv1⟩ := left_ok hK hv hF.pool
  exact ⟨s1, e1, ⟨m, ad, hv1.base, hF⟩⟩

theorem wloop_ok (hK : K ≤ 23) (hF : Full K m l ad) (hn : l.length < 200) {d j c : Nat} (hd : d + 1 ≤ depN l.length) (hj : vF l.length (d + 1) j) (hc : c = min (8 ^ (d + 1)) (l.length - j * 8 ^ (d + 1)))
    {f : Int → Int → Sp → Option (List Int) × Sp}
    (hf : 1 ≤ d → ∀ (cell : Int) (j c : Nat) (s : Sp), 0 ≤ cell → cell < 24 + 8 * K → vF l.length d j → m cell = ad d j → c = min (8 ^ d) (l.length - j * 8 ^ d) → View s0 (24 + 8 * K) s m → ∃ s', f cell c s = (some ((l.drop (j * 8 ^ d)).take (8 ^ d)), s') ∧ View s0 (24 + 8 * K) s' m) :
    ∀ (k i : Nat) (s : Sp), k + i = 8 → View s0 (24 + 8 * K) s m → ∃ s', wloop f (decide (d = 0)) (ad (d + 1) j) c ((8 ^ d : Nat) : Int) k s ((l.drop (j * 8 ^ (d + 1))).take (i * 8 ^ d)) = (some ((l.drop (j * 8 ^ (d + 1))).take (8 ^ (d + 1))), s') ∧ View s0 (24 + 8 * K) s' m
  | 0, i, s, hk, hv => by
    have hi : i = 8 := by omega
    subst hi
    refine ⟨s, ?_, hv⟩
    rw [wloop, Nat.pow_succ, Nat.mul_comm (8 ^ d) 8]
  | k + 1, i, s, hk, hv => by
    have hN := hF.tree.isn _ _ hj
    have hl := isN_lo hN
    have hik : (7 - (k : Int)) = (i : Int) := by omega
    have hmul : (i : Int) * ((8 ^ d : Nat) : Int) = ((i * 8 ^ d : Nat) : Int) := by simp
    have hP : 8 ^ (d + 1) = 8 * 8 ^ d := by rw [Nat.pow_succ, Nat.mul_comm]
    have hY : i * 8 ^ d + 8 ^ d ≤ 8 * 8 ^ d := by rw [← Nat.succ_mul]; exact Nat.mul_le_mul_right _ (by omega)
    have hY1 : (i + 1) * 8 ^ d = i * 8 ^ d + 8 ^ d := Nat.succ_mul _ _
    have hjj : (8 * j + i) * 8 ^ d = j * 8 ^ (d + 1) + i * 8 ^ d := by rw [Nat.add_mul, hP, Nat.mul_comm 8 j, Nat.mul_assoc]
    have hP1 : 1 ≤ 8 ^ d := Nat.one_le_pow _ _ (by decide)
    have hj3 := hj.2.2
    rw [wloop_succ, hik, hmul]
    generalize hX : j * 8 ^ (d + 1) = X at *
    generalize hYY : i * 8 ^ d = Y at *
    by_cases hz : (c : Int) - (Y : Int) ≤ 0
    · rw [if_pos hz]
      have : (l.drop X).take Y = (l.drop X).take ((i + 1) * 8 ^ d) := by
        rw [List.take_of_length_le (by simp; omega), List.take_of_length_le (by simp; omega)]
      rw [this]
      have hg := wloop_ok (c := c) hK hF hn hd hj (by rw [hX]; exact hc) hf k (i + 1) s (by omega) hv
      rw [hX] at hg; exact hg
    · rw [if_neg hz]
      by_cases h0 : d = 0
      · subst h0
        rw [if_pos (by simp)]
        obtain ⟨v, hvv⟩ : ∃ v, l[8 * j + i]? = some v := ⟨_, List.getElem?_eq_getElem (by simp at *; omega)⟩
        have hlf := hF.leaf _ _ hvv
        rw [show (8 * j + i) / 8 = j by omega, show (8 * j + i) % 8 = i by omega] at hlf
        obtain ⟨s1, e1, hv1⟩ := hv.get (a := ad (0 + 1) j + (i : Int)) (by omega) (by omega)
        rw [e1]
        dsimp only
        rw [show m (ad (0 + 1) j + (i : Int)) = v from hlf]
        have hYi : Y = i := by simp at hYY; omega
        have hXj : X = 8 * j := by simp at hX; omega
        have : (l.drop X).take Y ++ [v] = (l.drop X).take ((i + 1) * 8 ^ 0) := by
          rw [hYi, show (i + 1) * 8 ^ 0 = i + 1 by omega, List.take_add_one]
          congr 1
          rw [List.getElem?_drop, hXj, hvv]; rfl
        rw [this]
        have hg := wloop_ok (c := c) hK hF hn hd hj (by rw [hX]; exact hc) hf k (i + 1) s1 (by omega) hv1
        rw [hX] at hg; exact hg
      · rw [if_neg (by simp [h0])]
        have hvj : vF l.length d (8 * j + i) := ⟨by omega, by omega, by omega⟩
        have hlk := hF.tree.link d (8 * j + i) hvj (by omega)
        rw [show (8 * j + i) / 8 = j by omega, show (8 * j + i) % 8 = i by omega] at hlk
        have hcc : (if ((8 ^ d : Nat) : Int) < (c : Int) - (Y : Int) then ((8 ^ d : Nat) : Int) else (c : Int) - (Y : Int)) = ((min (8 ^ d) (l.length - (8 * j + i) * 8 ^ d) : Nat) : Int) := by
          rw [hjj]
          generalize 8 ^ d = P at *
          split <;> omega
        rw [hcc]
        obtain ⟨s1, e1, hv1⟩ := hf (by omega) (ad (d + 1) j + (i : Int)) (8 * j + i) _ s (by omega) (by omega) hvj hlk rfl hv
        rw [e1]
        dsimp only
        have : (l.drop X).take Y ++ (l.drop ((8 * j + i) * 8 ^ d)).take (8 ^ d) = (l.drop X).take ((i + 1) * 8 ^ d) := by
          rw [hY1, List.take_add, List.drop_drop, hjj]
        rw [this]
        have hg := wloop_ok (c := c) hK hF hn hd hj (by rw [hX]; exact hc) hf k (i + 1) s1 (by omega) hv1
        rw [hX] at hg; exact hg
theorem walk_ok (hK : K ≤ 23) (hF : Full K m l ad) (hn : l.length < 200) : ∀ (d : Nat), d + 1 ≤ depN l.length → ∀ (cell : Int) (j c : Nat) (s : Sp), 0 ≤ cell → cell < 24 + 8 * K → vF l.length (d + 1) j → m cell = ad (d + 1) j → c = min (8 ^ (d + 1)) (l.length - j * 8 ^ (d + 1)) →
    View s0 (24 + 8 * K) s m → ∃ s', (a0 K).walk (d + 1) cell c s = (some ((l.drop (j * 8 ^ (d + 1))).take (8 ^ (d + 1))), s') ∧ View s0 (24 + 8 * K) s' m := by
  intro d
  induction d with
  | zero =>
    intro hd cell j c s h0 h1 hj hm hc hv
    have hN := hF.tree.isn _ _ hj
    obtain ⟨s1, e1, hv1⟩ := anode_ok hK hv h0 h1 (by rw [hm]; exact hN)
    obtain ⟨s2, e2, hv2⟩ := wloop_ok (f := (a0 K).walk 0) hK hF hn hd hj hc (fun h => absurd h (by omega)) 8 0 s1 rfl hv1
    refine ⟨s2, ?_, hv2⟩
    rw [Ar.walk, e1, hm]
    dsimp only
    rw [if_pos rfl, pw_nat 0 (by decide), ← e2]
    simp
  | succ d ih =>
    intro hd cell j c s h0 h1 hj hm hc hv
    have hN := hF.tree.isn _ _ hj
    have hd4 := (dep_C _ hn).2.1
    obtain ⟨s1, e1, hv1⟩ := anode_ok hK hv h0 h1 (by rw [hm]; exact hN)
    obtain ⟨s2, e2, hv2⟩ := wloop_ok (f := (a0 K).walk (d + 1)) hK hF hn hd hj hc (fun _ => ih (by omega)) 8 0 s1 rfl hv1
    refine ⟨s2, ?_, hv2⟩
    rw [Ar.walk, e1, hm]
    dsimp only
    rw [if_pos rfl, pw_nat (d + 1) (by omega), ← e2]
    simp
theorem walkAll_ok (hK0 : 0 ≤ K) (hK : K ≤ 23) (h : Inv K s l) : ∃ s', (a0 K).walkAll s = (l, 0, s') ∧ Inv K s' l := by
  obtain ⟨m, ad, hv, hF⟩ := h
  obtain ⟨hT, hn⟩ := hF.small hK
  obtain ⟨w1, w2, w3⟩ := dep_C _ hn
  obtain ⟨s1, e1, hv1⟩ := many_ok2 hK0 hv (by omega) hF.many hF.depth
  unfold Ar.walkAll
  rw [e1]
  dsimp only
  rw [if_pos rfl]
  by_cases h0 : l.length = 0
  · rw [if_pos (by omega), List.length_eq_zero_iff.1 h0]
    exact ⟨s1, rfl, ⟨m, ad, hv1.base, by rw [List.length_eq_zero_iff.1 h0] at hF; exact hF⟩⟩
  · rw [if_neg (by omega), Int.toNat_natCast]
    obtain ⟨d, hd⟩ : ∃ d, depN l.length = d + 1 := ⟨depN l.length - 1, by omega⟩
    have htop := hF.top (by omega)
    obtain ⟨s2, e2, hv2⟩ := walk_ok hK hF hn d (by omega) 8 0 l.length s1 (by omega) (by omega) ⟨by omega, by omega, by omega⟩ (by rw [htop, hd]) (by rw [← hd]; omega) hv1
    rw [← hd] at e2
    have e2' : (a0 K).walk (depN l.length) (a0 K).root l.length s1 = (some ((l.drop (0 * 8 ^ depN l.length)).take (8 ^ depN l.length)), s2) := e2
    rw [e2']
    dsimp only
    rw [Nat.zero_mul, List.drop_zero, List.take_of_length_le w1]
    exact ⟨s2, rfl, ⟨m, ad, hv2.base, hF⟩⟩
end
end Sim

/- The array over an abstract resource: a list. -/
namespace Go.Proofs.YtilnknokgflkjaaDoor
open Go.Vc Sim
set_option maxHeartbeats 4000000
def ArrA (p : Nat) (K : Int) (l : List Int) (c : Nat) : Asn := fun h => ∃ s, (Inv K s l ∧ Sm s (24 * c)) ∧ SpaceA p s h
theorem ar0_ok {K : Int} (hK : 0 ≤ K ∧ K ≤ 23) : (a0 K).Ok := by
  refine ⟨⟨?_, show (0 : Int) ≤ 3 by decide, show (3 : Int) ≤ 4093 by decide, show (1 : Int) ≤ 24 by decide, show (24 : Int) ≤ 4096 by decide, hK.1, ?_⟩, show (0 : Int) ≤ 8 by decide, show (8 : Int) ≤ 4096 by decide⟩
  · show Pl.chk ⟨3, 24, K⟩ = 0
    unfold Pl.chk
    rw [if_neg (by dsimp only; omega), if_neg (by dsimp only; omega), if_neg (by dsimp only; omega)]
  · show K ≤ 128; omega
theorem sm_aget {A : Ar} {s : Sp} {j : Nat} {i : Int} (h : Sm s j) : Sm (A.get s i).2.2 j := by
  unfold Ar.get; split
  · exact sm_get (sm_place h)
  · exact sm_place h
theorem sm_aset {A : Ar} {s : Sp} {j : Nat} {i v : Int} (h : Sm s (j + 1)) : Sm (A.set s i v).2.2 j := by
  unfold Ar.set; split
  · exact sm_put (sm_get (sm_place h))
  · exact (sm_place h).mono (by omega)
theorem sm_aswap {A : Ar} {s : Sp} {j : Nat} {i k : Int} (h : Sm s (j + 2)) : Sm (A.swap s i k).2 j := by
  unfold Ar.swap; dsimp only; split
  · exact (sm_get h).mono (by omega)
  · split
    · split
      · exact sm_put (sm_put (sm_get (sm_get (sm_place (sm_place (sm_get h))))))
      · exact (sm_place (sm_place (sm_get h))).mono (by omega)
    · exact (sm_place (sm_get h)).mono (by omega)
set_option linter.unusedSectionVars false
section
variable (w0 : World) (hw : PowOk w0) (p : Nat) {K : Int} (hK : 0 ≤ K ∧ K ≤ 23) (l : List Int) (c : Nat)
include hw hK
theorem pushA (v : Int) (hT : (T (l.length + 1) : Int) ≤ K) : FnE PP w0 [] 11 [arrV (a0 K), spP p, .int .i64 v] [ArrA p K l (c + 1)]
    (.tuple #[.int .i64 l.length, .int .i64 0]) [ArrA p K (l ++ [v]) c] :=
  Fn.lift (SpaceA p) (fun s => Inv K s l ∧ Sm s (24 * (c + 1))) (fun s => (.tuple #[.int .i64 ((a0 K).push s v).1, .int .i64 ((a0 K).push s v).2.1], ((a0 K).push s v).2.2)) (fun s => Inv K s (l ++ [v]) ∧ Sm s (24 * c))
    en11 (fun _ h => h) (fun s _ h1 h2 => ⟨s, h1, h2⟩) (fun s hs => push_spec w0 hw p (a0 K) (ar0_ok hK) s v (hs.2.mono (by omega))) fun s hs => by
    have hsm := sm_push (A := a0 K) (v := v) (j := 24 * c) hs.2
    rcases push_ok hK.1 hK.2 hs.1 v with ⟨s', e, h1, h2⟩ | ⟨s', e, h1, h2⟩
    · rw [e] at hsm ⊢; exact ⟨rfl, h1, hsm⟩
    · omega
theorem pushA_full (v : Int) (hT : K < (T (l.length + 1) : Int)) : FnE PP w0 [] 11 [arrV (a0 K), spP p, .int .i64 v] [ArrA p K l (c + 1)]
    (.tuple #[.int .i64 0, .int .i64 9]) [ArrA p K l c] :=
  Fn.lift (SpaceA p) (fun s => Inv K s l ∧ Sm s (24 * (c + 1))) (fun s => (.tuple #[.int .i64 ((a0 K).push s v).1, .int .i64 ((a0 K).push s v).2.1], ((a0 K).push s v).2.2)) (fun s => Inv K s l ∧ Sm s (24 * c))
    en11 (fun _ h => h) (fun s _ h1 h2 => ⟨s, h1, h2⟩) (fun s hs => push_spec w0 hw p (a0 K) (ar0_ok hK) s v (hs.2.mono (by omega))) fun s hs => by
    have hsm := sm_push (A := a0 K) (v := v) (j := 24 * c) hs.2
    rcases push_ok hK.1 hK.2 hs.1 v with ⟨s', e, h1, h2⟩ | ⟨s', e, h1, h2⟩
    · omega
    · rw [e] at hsm ⊢; exact ⟨rfl, h1, hsm⟩
theorem popA (v : Int) : FnE PP w0 [] 12 [arrV (a0 K), spP p] [ArrA p K (l ++ [v]) (c + 1)] (.tuple #[.int .i64 v, .int .i64 0]) [ArrA p K l c] :=
  Fn.lift (SpaceA p) (fun s => Inv K s (l ++ [v]) ∧ Sm s (24 * (c + 1))) (fun s => (.tuple #[.int .i64 ((a0 K).pop s).1, .int .i64 ((a0 K).pop s).2.1], ((a0 K).pop s).2.2)) (fun s => Inv K s l ∧ Sm s (24 * c))
    en12 (fun _ h => h) (fun s _ h1 h2 => ⟨s, h1, h2⟩) (fun s hs => pop_spec w0 hw p (a0 K) (ar0_ok hK) s (hs.2.mono (by omega))) fun s hs => by
    have hsm := sm_pop (A := a0 K) (j := 24 * c) hs.2
    obtain ⟨s', e, h1⟩ := pop_ok hK.1 hK.2 hs.1
    rw [e] at hsm ⊢; exact ⟨rfl, h1, hsm⟩
theorem popA_none : FnE PP w0 [] 12 [arrV (a0 K), spP p] [ArrA p K [] (c + 1)] (.tuple #[.int .i64 0, .int .i64 8]) [ArrA p K [] c] :=
  Fn.lift (SpaceA p) (fun s => Inv K s [] ∧ Sm s (24 * (c + 1))) (fun s => (.tuple #[.int .i64 ((a0 K).pop s).1, .int .i64 ((a0 K).pop s).2.1], ((a0 K).pop s).2.2)) (fun s => Inv K s [] ∧ Sm s (24 * c))
    en12 (fun _ h => h) (fun s _ h1 h2 => ⟨s, h1, h2⟩) (fun s hs => pop_spec w0 hw p (a0 K) (ar0_ok hK) s (hs.2.mono (by omega))) fun s hs => by
    have hsm := sm_pop (A := a0 K) (j := 24 * c) hs.2
    obtain ⟨s', e, h1⟩ := pop_none hK.1 hs.1
    rw [e] at hsm ⊢; exact ⟨rfl, h1, hsm⟩
theorem getA {i : Nat} {v : Int} (hi : l[i]? = some v) (iI : Int) (hI : iI = i) : FnE PP w0 [] 18 [arrV (a0 K), spP p, .int .i64 iI] [ArrA p K l c] (.tuple #[.int .i64 v, .int .i64 0]) [ArrA p K l c] :=
  Fn.lift (SpaceA p) (fun s => Inv K s l ∧ Sm s (24 * c)) (fun s => (.tuple #[.int .i64 ((a0 K).get s iI).1, .int .i64 ((a0 K).get s iI).2.1], ((a0 K).get s iI).2.2)) (fun s => Inv K s l ∧ Sm s (24 * c))
    en18 (fun _ h => h) (fun s _ h1 h2 => ⟨s, h1, h2⟩) (fun s hs => aget_spec w0 hw p (a0 K) (ar0_ok hK) s iI (hs.2.mono (by omega))) fun s hs => by
    have hsm : Sm ((a0 K).get s iI).2.2 (24 * c) := sm_aget hs.2
    obtain ⟨s', e, h1⟩ := get_ok hK.1 hK.2 hs.1 hi
    subst hI
    rw [e] at hsm ⊢; exact ⟨rfl, h1, hsm⟩
theorem getA_out {i : Int} (hi : i < 0 ∨ (l.length : Int) ≤ i) : FnE PP w0 [] 18 [arrV (a0 K), spP p, .int .i64 i] [ArrA p K l c] (.tuple #[.int .i64 0, .int .i64 3]) [ArrA p K l c] :=
  Fn.lift (SpaceA p) (fun s => Inv K s l ∧ Sm s (24 * c)) (fun s => (.tuple #[.int .i64 ((a0 K).get s i).1, .int .i64 ((a0 K).get s i).2.1], ((a0 K).get s i).2.2)) (fun s => Inv K s l ∧ Sm s (24 * c))
    en18 (fun _ h => h) (fun s _ h1 h2 => ⟨s, h1, h2⟩) (fun s hs => aget_spec w0 hw p (a0 K) (ar0_ok hK) s i (hs.2.mono (by omega))) fun s hs => by
    have hsm : Sm ((a0 K).get s i).2.2 (24 * c) := sm_aget hs.2
    obtain ⟨s', e, h1⟩ := get_out hK.1 hs.1 hi
    rw [e] at hsm ⊢; exact ⟨rfl, h1, hsm⟩
theorem setA {i : Nat} {u : Int} (v : Int) (hi : l[i]? = some u) (iI : Int) (hI : iI = i) : FnE PP w0 [] 20 [arrV (a0 K), spP p, .int .i64 iI, .int .i64 v] [ArrA p K l (c + 1)] (.tuple #[.int .i64 u, .int .i64 0]) [ArrA p K (l.set i v) c] :=
  Fn.lift (SpaceA p) (fun s => Inv K s l ∧ Sm s (24 * (c + 1))) (fun s => (.tuple #[.int .i64 ((a0 K).set s iI v).1, .int .i64 ((a0 K).set s iI v).2.1], ((a0 K).set s iI v).2.2)) (fun s => Inv K s (l.set i v) ∧ Sm s (24 * c))
    en20 (fun _ h => h) (fun s _ h1 h2 => ⟨s, h1, h2⟩) (fun s hs => aset_spec w0 hw p (a0 K) (ar0_ok hK) s iI v (hs.2.mono (by omega))) fun s hs => by
    have hsm : Sm ((a0 K).set s iI v).2.2 (24 * c) := sm_aset (hs.2.mono (by omega))
    obtain ⟨s', e, h1⟩ := set_ok hK.1 hK.2 hs.1 hi v
    subst hI
    rw [e] at hsm ⊢; exact ⟨rfl, h1, hsm⟩
theorem setA_out {i : Int} (v : Int) (hi : i < 0 ∨ (l.length : Int) ≤ i) : FnE PP w0 [] 20 [arrV (a0 K), spP p, .int .i64 i, .int .i64 v] [ArrA p K l (c + 1)] (.tuple #[.int .i64 0, .int .i64 3]) [ArrA p K l c] :=
  Fn.lift (SpaceA p) (fun s => Inv K s l ∧ Sm s (24 * (c + 1))) (fun s => (.tuple #[.int .i64 ((a0 K).set s i v).1, .int .i64 ((a0 K).set s i v).2.1], ((a0 K).set s i v).2.2)) (fun s => Inv K s l ∧ Sm s (24 * c))
    en20 (fun _ h => h) (fun s _ h1 h2 => ⟨s, h1, h2⟩) (fun s hs => aset_spec w0 hw p (a0 K) (ar0_ok hK) s i v (hs.2.mono (by omega))) fun s hs => by
    have hsm : Sm ((a0 K).set s i v).2.2 (24 * c) := sm_aset (hs.2.mono (by omega))
    obtain ⟨s', e, h1⟩ := set_out hK.1 hs.1 (v := v) hi
    rw [e] at hsm ⊢; exact ⟨rfl, h1, hsm⟩
theorem swapA {i j : Nat} {u v : Int} (hi : l[i]? = some u) (hj : l[j]? = some v) (iI jI : Int) (hI : iI = i) (hJ : jI = j) : FnE PP w0 [] 17 [arrV (a0 K), spP p, .int .i64 iI, .int .i64 jI] [ArrA p K l (c + 1)] (.int .i64 0) [ArrA p K ((l.set i v).set j u) c] :=
  Fn.lift (SpaceA p) (fun s => Inv K s l ∧ Sm s (24 * (c + 1))) (fun s => (.int .i64 ((a0 K).swap s iI jI).1, ((a0 K).swap s iI jI).2)) (fun s => Inv K s ((l.set i v).set j u) ∧ Sm s (24 * c))
    en17 (fun _ h => h) (fun s _ h1 h2 => ⟨s, h1, h2⟩) (fun s hs => aswap_spec w0 hw p (a0 K) (ar0_ok hK) s iI jI (hs.2.mono (by omega))) fun s hs => by
    have hsm : Sm ((a0 K).swap s iI jI).2 (24 * c) := sm_aswap (hs.2.mono (by omega))
    obtain ⟨s', e, h1⟩ := swap_ok hK.1 hK.2 hs.1 hi hj
    subst hI; subst hJ
    rw [e] at hsm ⊢; exact ⟨rfl, h1, hsm⟩
theorem swapA_out {i j : Int} (hi : i < 0 ∨ (l.length : Int) ≤ i ∨ j < 0 ∨ (l.length : Int) ≤ j) : FnE PP w0 [] 17 [arrV (a0 K), spP p, .int .i64 i, .int .i64 j] [ArrA p K l (c + 1)] (.int .i64 3) [ArrA p K l c] :=
  Fn.lift (SpaceA p) (fun s => Inv K s l ∧ Sm s (24 * (c + 1))) (fun s => (.int .i64 ((a0 K).swap s i j).1, ((a0 K).swap s i j).2)) (fun s => Inv K s l ∧ Sm s (24 * c))
    en17 (fun _ h => h) (fun s _ h1 h2 => ⟨s, h1, h2⟩) (fun s hs => aswap_spec w0 hw p (a0 K) (ar0_ok hK) s i j (hs.2.mono (by omega))) fun s hs => by
    have hsm : Sm ((a0 K).swap s i j).2 (24 * c) := sm_aswap (hs.2.mono (by omega))
    obtain ⟨s', e, h1⟩ := swap_out hK.1 hs.1 hi
    rw [e] at hsm ⊢; exact ⟨rfl, h1, hsm⟩
theorem lenA : FnE PP w0 [] 14 [arrV (a0 K), spP p] [ArrA p K l c] (.int .i64 l.length) [ArrA p K l c] :=
  Fn.lift (SpaceA p) (fun s => Inv K s l ∧ Sm s (24 * c)) (fun s => (.int .i64 (s.get ((a0 K).root + 1)).1, (s.get ((a0 K).root + 1)).2)) (fun s => Inv K s l ∧ Sm s (24 * c))
    en14 (fun _ h => h) (fun s _ h1 h2 => ⟨s, h1, h2⟩) (fun s hs => len_spec w0 p (a0 K) (ar0_ok hK) s (hs.2.mono (by omega))) fun s hs => by
    have hsm := sm_get (a := (a0 K).root + 1) hs.2
    obtain ⟨s', e, h1⟩ := len_ok hK.1 hs.1
    rw [e] at hsm ⊢; exact ⟨rfl, h1, hsm⟩
theorem nodesA (aI : Int) (ha : aI = 15) : FnE PP w0 [] 28 [spP p, .int .i64 aI] [ArrA p K l c] (.int .i64 (T l.length)) [ArrA p K l c] :=
  Fn.lift (SpaceA p) (fun s => Inv K s l ∧ Sm s (24 * c)) (fun s => (.int .i64 (s.get ((a0 K).root + 7)).1, (s.get ((a0 K).root + 7)).2)) (fun s => Inv K s l ∧ Sm s (24 * c))
    en28 (fun _ h => h) (fun s _ h1 h2 => ⟨s, h1, h2⟩) (fun s hs => by subst ha; exact getS w0 p s _ (hs.2.mono (by omega))) fun s hs => by
    have hsm := sm_get (a := (a0 K).root + 7) hs.2
    obtain ⟨s', e, h1⟩ := nodes_ok hK.1 hs.1
    rw [e] at hsm ⊢; exact ⟨rfl, h1, hsm⟩
theorem leftA : FnE PP w0 [] 13 [poolV (a0 K).pool, spP p] [ArrA p K l c] (.int .i64 (K - (T l.length : Int))) [ArrA p K l c] :=
  Fn.lift (SpaceA p) (fun s => Inv K s l ∧ Sm s (24 * c)) (fun s => (.int .i64 ((p0 K).left s).1, ((p0 K).left s).2)) (fun s => Inv K s l ∧ Sm s (24 * c))
    en13 (fun _ h => h) (fun s _ h1 h2 => ⟨s, h1, h2⟩) (fun s hs => left_spec w0 p (p0 K) (ar0_ok hK).1 s (hs.2.mono (by omega))) fun s hs => by
    have hsm := sm_left (P := p0 K) hs.2
    obtain ⟨s', e, h1⟩ := leftA_ok hK.2 hs.1
    rw [e] at hsm ⊢; exact ⟨rfl, h1, hsm⟩
theorem walkA : Vc.Fn PP w0 [] 19 [arrV (a0 K), spP p] [ArrA p K l c] fun v Γ => ∃ a cap, v = .tuple #[.slice a l.length cap, .int .i64 0] ∧ Γ = [ArrA p K l c, SlA 2 1 a l.length cap (intL l)] :=
  Fn.pre (SpaceA p) (fun s => Inv K s l ∧ Sm s (24 * c)) en19 (fun _ h => h) fun s hs => (walkAll_spec w0 hw p (a0 K) (ar0_ok hK) s (hs.2.mono (by omega))).post fun v Γ' ⟨a, cap, h1, h2⟩ => by
    have hsm := sm_walkAll (A := a0 K) hs.2
    obtain ⟨s', e, h3⟩ := walkAll_ok hK.1 hK.2 hs.1
    rw [e] at hsm h1 h2
    refine ⟨_, ⟨a, cap, h1, rfl⟩, fun h hh => ?_⟩
    subst h2
    obtain ⟨g1, g2, hd, rfl, hA, hr⟩ := hh
    exact ⟨g1, g2, hd, rfl, ⟨s', ⟨h3, hsm⟩, hA⟩, hr⟩
end
end Go.Proofs.YtilnknokgflkjaaDoor

/- The beginning: start, Known, New. -/
namespace Go.Proofs.YtilnknokgflkjaaDoor
open Go.Vc Sim
set_option maxHeartbeats 4000000
theorem zero_lookW {N : Nat} {a : Int} : lookW (wk 0 (List.replicate N 0)) a = if 0 ≤ a ∧ a < N then some ⟨0, 0, 0⟩ else none := by
  rw [lookW_wk]
  simp only [List.length_replicate, Int.natCast_zero, Int.zero_add, Int.sub_zero]
  by_cases h : 0 ≤ a ∧ a < N
  · rw [if_pos h, if_pos h, List.getElem?_replicate, if_pos (by omega)]; rfl
  · rw [if_neg h, if_neg h]
theorem inv_start {K : Int} (hK : 0 ≤ K) {kn : List (Int × Wd)} (h : ∀ a, lookW kn a = lookW (wk 0 (List.replicate (24 + 8 * K).toNat 0)) a) : Inv K ⟨kn, [], [], 0, false⟩ [] := by
  have hN : ((24 + 8 * K).toNat : Int) = 24 + 8 * K := by omega
  refine ⟨fun _ => 0, fun _ _ => 0, ⟨rfl, rfl, fun a h0 h1 => ?_, ⟨[], rfl⟩, fun a h0 h1 => ?_⟩, ⟨⟨?_, ?_, ?_, ?_, ?_⟩, ?_, ?_, rfl, rfl, fun h => absurd h (by simp), rfl⟩⟩
  · refine ⟨⟨0, 0, 0⟩, ?_⟩
    show lookW kn a = _
    rw [h, zero_lookW, if_pos (by omega)]
  · simp only [Sp.value, lastV]
    rw [h, zero_lookW, if_pos (by omega)]
  · rintro d j ⟨_, _, h3⟩; simp at h3
  · rintro d j ⟨_, _, h3⟩; simp at h3
  · rintro d j _ _ ⟨_, _, h3⟩; simp at h3
  · rintro d j ⟨_, _, h3⟩; simp at h3
  · rintro d j ⟨_, _, h3⟩; simp at h3
  · intro i v hi; simp at hi
  · refine ⟨[], 0, Int.le_refl _, hK, rfl, rfl, rfl, List.nodup_nil, by simp, fun b => ?_, rfl, by decide⟩
    constructor
    · rintro ⟨d, j, ⟨_, _, h3⟩, _⟩; simp at h3
    · rintro ⟨⟨k, h0, h1, _⟩, _⟩; omega
def zeros (K : Int) : List Int := List.replicate (24 + 8 * K).toNat 0
theorem newA (w0 : World) (kb : Nat) {K : Int} (hK : 0 ≤ K ∧ K ≤ 23) (c : Nat) (hc : c ≤ 10000000000) : Vc.Fn PP w0 [] 9 [.map (some kb)] [pt kb (mapI (knM (wk 0 (zeros K))))]
    fun v Γ => ∃ p, v = spP p ∧ Γ = [ArrA p K [] c] := by
  refine (new_spec w0 kb (wk 0 (zeros K)) fun q a w hq => ?_).post ?_
  · rw [wk_get] at hq
    obtain ⟨v, hv, h2⟩ : ∃ v, (zeros K)[q]? = some v ∧ (((0 + q : Nat) : Int), (⟨v, 0, 0⟩ : Wd)) = (a, w) := by
      cases h : (zeros K)[q]? with
      | none => rw [h] at hq; cases hq
      | some v => rw [h] at hq; exact ⟨v, rfl, Option.some.inj hq⟩
    have hql := (List.getElem?_eq_some_iff.1 hv).1
    cases h2
    refine ⟨?_, rfl⟩
    rw [lookW_wk, if_pos (by omega)]
    simp only [Int.natCast_zero, Int.sub_zero, Nat.zero_add, Int.toNat_natCast, hv]; rfl
  · rintro v Γ ⟨p, kn', rfl, rfl, h⟩
    refine ⟨_, ⟨p, rfl, rfl⟩, fun g hg => ?_⟩
    refine Stars.one.2 ⟨_, ⟨inv_start hK.1 h, ?_⟩, Stars.one.1 hg⟩
    show 0 + 24 * c ≤ 1099511627776
    omega
theorem startA (w0 : World) (m : Int) (hm : 0 ≤ m ∧ m ≤ 255) (K : Int) (hK : K = m % 24) :
    Vc.Fn PP w0 [] 8 [.int .u8 m] [] (fun v Γ => ∃ vb, v = .tuple #[.agg #[.int .i64 3, .int .i64 24, .int .i64 K, .int .i64 8], .agg #[.slice (some ⟨vb, 0, none⟩) (zeros K).length (zeros K).length]] ∧
      Γ = [pt vb (.cells (List.toArray (intL' (zeros K) ++ [])) 2 (0, 0))]) := by
  subst hK
  refine (start_spec w0 m hm).post ?_
  rintro v Γ ⟨vb, rfl, rfl⟩
  refine ⟨_, ⟨vb, ?_, rfl⟩, fun g hg => ?_⟩
  · simp only [zeros, List.length_replicate]; rfl
  · rw [show intL' (zeros (m % 24)) ++ [] = List.replicate (24 + 8 * (m % 24)).toNat (.int .i64 0) by simp [zeros, intL', List.map_replicate]]
    exact hg
theorem knownA (w0 : World) (vb cap : Nat) (K : Int) (hK : 0 ≤ K ∧ K ≤ 23) (T : TypeId) (fr : Nat × Nat) :
    Vc.Fn PP w0 [(vb, .cells (List.toArray (intL' (zeros K) ++ [])) T fr)] 10 [.agg #[.slice (some ⟨vb, 0, none⟩) (zeros K).length cap]] []
      (fun v Γ => ∃ mb, v = .map (some mb) ∧ Γ = [pt mb (mapI (knM (wk 0 (zeros K))))]) :=
  known_spec w0 vb cap (zeros K) [] T fr (by simp [zeros]; omega)

theorem awake_T : ∀ k, k < 9 → T (k + 1) ≤ 5 := by decide
def upTo (k : Nat) : List Int := (List.range k).map fun (i : Nat) => (i : Int)
theorem upTo_len (k : Nat) : (upTo k).length = k := by simp [upTo]
theorem upTo_succ (k : Nat) : upTo (k + 1) = upTo k ++ [(k : Int)] := by simp [upTo, List.range_succ]

theorem awake_spec (w0 : World) (hw : PowOk w0) : FnE PP w0 [] 7 [] [] (.bool true) [] := by
  refine fn_of_run en7 fn7 rfl rfl rfl ?_
  repeat (first | refine zck ?_ | refine zcl ?_ | refine zcm ?_ | refine zcn ?_)
  first | refine zcp (by kernel_rfl) ?_ | refine zcq PP_mixed (by kernel_rfl) (by kernel_rfl) ?_
  repeat' (refine zap rfl ?_; first | ((with_reducible refine zct ?_); first | refine zaj rfl ?_ | refine zak rfl ?_ | refine zal rfl ?_ | refine zam rfl rfl (fun _ => ?_) (fun _ => ?_)) | ((with_reducible refine zcu ?_); refine zan rfl ?_) | ((with_reducible refine zcv ?_); refine zan rfl ?_) | ((with_reducible refine zcw ?_); first | refine zaa 0 rfl rfl rfl ?_ | refine zaa 1 rfl rfl rfl ?_ | refine zaa 2 rfl rfl rfl ?_ | refine zaa 3 rfl rfl rfl ?_ | refine zaa 4 rfl rfl rfl ?_ | refine zaa 5 rfl rfl rfl ?_ | refine zab 0 rfl rfl rfl ?_ | refine zab 1 rfl rfl rfl ?_ | refine zab 2 rfl rfl rfl ?_ | refine zab 3 rfl rfl rfl ?_ | refine zab 4 rfl rfl rfl ?_ | refine zab 5 rfl rfl rfl ?_) | ((with_reducible refine zcy ?_); refine zao rfl ?_) | ((with_reducible refine zcz ?_); refine zan rfl ?_) | ((with_reducible refine zda ?_); first | refine zau rfl rfl (by omega) ?_ | refine zav rfl rfl (by omega) ?_ | refine zbo rfl rfl ?_ | refine zbp rfl rfl ?_ | refine zbq rfl rfl ?_ | refine zaz rfl rfl ?_ | refine zbb rfl rfl ?_ | refine zba rfl rfl ?_) | ((with_reducible refine zdc ?_); first | refine zbu rfl ?_ | refine zbv rfl ?_ | refine zbw rfl rfl rfl ?_) | ((with_reducible refine zdd ?_); first | refine zae 0 rfl rfl rfl rfl rfl rfl rfl ?_ | refine zae 1 rfl rfl rfl rfl rfl rfl rfl ?_ | refine zae 2 rfl rfl rfl rfl rfl rfl rfl ?_ | refine zae 3 rfl rfl rfl rfl rfl rfl rfl ?_ | refine zae 4 rfl rfl rfl rfl rfl rfl rfl ?_ | refine zae 5 rfl rfl rfl rfl rfl rfl rfl ?_) | ((with_reducible refine zdh ?_); refine zar (fun nb => ?_)))
  all_goals refine zch ?_
  all_goals repeat (first | refine zck ?_ | refine zcl ?_ | refine zcm ?_ | refine zcn ?_)
  repeat (first | refine zck ?_ | refine zcl ?_ | refine zcm ?_ | refine zcn ?_)
  first | refine zcp (by kernel_rfl) ?_ | refine zcq PP_mixed (by kernel_rfl) (by kernel_rfl) ?_
  repeat' (refine zap rfl ?_; first | (refine zai [] (startA w0 5 (by decide) 5 rfl) rfl rfl rfl sub_nil ?_; rintro v Γ' ⟨vb, rfl, rfl⟩) | ((with_reducible refine zct ?_); first | refine zaj rfl ?_ | refine zak rfl ?_ | refine zal rfl ?_ | refine zam rfl rfl (fun _ => ?_) (fun _ => ?_)) | ((with_reducible refine zcu ?_); refine zan rfl ?_) | ((with_reducible refine zcv ?_); refine zan rfl ?_) | ((with_reducible refine zcw ?_); first | refine zaa 0 rfl rfl rfl ?_ | refine zaa 1 rfl rfl rfl ?_ | refine zaa 2 rfl rfl rfl ?_ | refine zaa 3 rfl rfl rfl ?_ | refine zaa 4 rfl rfl rfl ?_ | refine zaa 5 rfl rfl rfl ?_ | refine zab 0 rfl rfl rfl ?_ | refine zab 1 rfl rfl rfl ?_ | refine zab 2 rfl rfl rfl ?_ | refine zab 3 rfl rfl rfl ?_ | refine zab 4 rfl rfl rfl ?_ | refine zab 5 rfl rfl rfl ?_) | ((with_reducible refine zcy ?_); refine zao rfl ?_) | ((with_reducible refine zcz ?_); refine zan rfl ?_) | ((with_reducible refine zda ?_); first | refine zau rfl rfl (by omega) ?_ | refine zav rfl rfl (by omega) ?_ | refine zbo rfl rfl ?_ | refine zbp rfl rfl ?_ | refine zbq rfl rfl ?_ | refine zaz rfl rfl ?_ | refine zbb rfl rfl ?_ | refine zba rfl rfl ?_) | ((with_reducible refine zdc ?_); first | refine zbu rfl ?_ | refine zbv rfl ?_ | refine zbw rfl rfl rfl ?_) | ((with_reducible refine zdd ?_); first | refine zae 0 rfl rfl rfl rfl rfl rfl rfl ?_ | refine zae 1 rfl rfl rfl rfl rfl rfl rfl ?_ | refine zae 2 rfl rfl rfl rfl rfl rfl rfl ?_ | refine zae 3 rfl rfl rfl rfl rfl rfl rfl ?_ | refine zae 4 rfl rfl rfl rfl rfl rfl rfl ?_ | refine zae 5 rfl rfl rfl rfl rfl rfl rfl ?_) | ((with_reducible refine zdh ?_); refine zar (fun nb => ?_)))
  all_goals refine zch ?_
  all_goals repeat (first | refine zck ?_ | refine zcl ?_ | refine zcm ?_ | refine zcn ?_)
  rename_i b1
  revert nb; intro b2
  refine run_share [0] rfl ?_
  refine run_share [0] rfl ?_
  refine run_share [0] rfl ?_
  repeat (first | refine zck ?_ | refine zcl ?_ | refine zcm ?_ | refine zcn ?_)
  first | refine zcp (by kernel_rfl) ?_ | refine zcq PP_mixed (by kernel_rfl) (by kernel_rfl) ?_
  repeat' (refine zap rfl ?_; first | (refine zai [] (knownA w0 vb _ 5 (by decide) 2 (0, 0)) rfl rfl rfl (by intro p hp; simp at hp; subst hp; simp) ?_; rintro v Γ' ⟨mb, rfl, rfl⟩) | (refine zai [0] (newA w0 mb (K := 5) (by decide) 200 (by decide)) rfl rfl rfl sub_nil ?_; rintro v Γ' ⟨p, rfl, rfl⟩) | ((with_reducible refine zct ?_); first | refine zaj rfl ?_ | refine zak rfl ?_ | refine zal rfl ?_ | refine zam rfl rfl (fun _ => ?_) (fun _ => ?_)) | ((with_reducible refine zcu ?_); refine zan rfl ?_) | ((with_reducible refine zcv ?_); refine zan rfl ?_) | ((with_reducible refine zcw ?_); first | refine zaa 0 rfl rfl rfl ?_ | refine zaa 1 rfl rfl rfl ?_ | refine zaa 2 rfl rfl rfl ?_ | refine zaa 3 rfl rfl rfl ?_ | refine zaa 4 rfl rfl rfl ?_ | refine zaa 5 rfl rfl rfl ?_ | refine zab 0 rfl rfl rfl ?_ | refine zab 1 rfl rfl rfl ?_ | refine zab 2 rfl rfl rfl ?_ | refine zab 3 rfl rfl rfl ?_ | refine zab 4 rfl rfl rfl ?_ | refine zab 5 rfl rfl rfl ?_) | ((with_reducible refine zcy ?_); refine zao rfl ?_) | ((with_reducible refine zcz ?_); refine zan rfl ?_) | ((with_reducible refine zda ?_); first | refine zau rfl rfl (by omega) ?_ | refine zav rfl rfl (by omega) ?_ | refine zbo rfl rfl ?_ | refine zbp rfl rfl ?_ | refine zbq rfl rfl ?_ | refine zaz rfl rfl ?_ | refine zbb rfl rfl ?_ | refine zba rfl rfl ?_) | ((with_reducible refine zdc ?_); first | refine zbu rfl ?_ | refine zbv rfl ?_ | refine zbw rfl rfl rfl ?_) | ((with_reducible refine zdd ?_); first | refine zae 0 rfl rfl rfl rfl rfl rfl rfl ?_ | refine zae 1 rfl rfl rfl rfl rfl rfl rfl ?_ | refine zae 2 rfl rfl rfl rfl rfl rfl rfl ?_ | refine zae 3 rfl rfl rfl rfl rfl rfl rfl ?_ | refine zae 4 rfl rfl rfl rfl rfl rfl rfl ?_ | refine zae 5 rfl rfl rfl rfl rfl rfl rfl ?_) | ((with_reducible refine zdh ?_); refine zar (fun nb => ?_)))
  all_goals refine zch ?_
  all_goals repeat (first | refine zck ?_ | refine zcl ?_ | refine zcm ?_ | refine zcn ?_)
  repeat (first | refine zck ?_ | refine zcl ?_ | refine zcm ?_ | refine zcn ?_)
  first | refine zcp (by kernel_rfl) ?_ | refine zcq PP_mixed (by kernel_rfl) (by kernel_rfl) ?_
  repeat' (refine zap rfl ?_; first | ((with_reducible refine zct ?_); first | refine zaj rfl ?_ | refine zak rfl ?_ | refine zal rfl ?_ | refine zam rfl rfl (fun _ => ?_) (fun _ => ?_)) | ((with_reducible refine zcu ?_); refine zan rfl ?_) | ((with_reducible refine zcv ?_); refine zan rfl ?_) | ((with_reducible refine zcw ?_); first | refine zaa 0 rfl rfl rfl ?_ | refine zaa 1 rfl rfl rfl ?_ | refine zaa 2 rfl rfl rfl ?_ | refine zaa 3 rfl rfl rfl ?_ | refine zaa 4 rfl rfl rfl ?_ | refine zaa 5 rfl rfl rfl ?_ | refine zab 0 rfl rfl rfl ?_ | refine zab 1 rfl rfl rfl ?_ | refine zab 2 rfl rfl rfl ?_ | refine zab 3 rfl rfl rfl ?_ | refine zab 4 rfl rfl rfl ?_ | refine zab 5 rfl rfl rfl ?_) | ((with_reducible refine zcy ?_); refine zao rfl ?_) | ((with_reducible refine zcz ?_); refine zan rfl ?_) | ((with_reducible refine zda ?_); first | refine zau rfl rfl (by omega) ?_ | refine zav rfl rfl (by omega) ?_ | refine zbo rfl rfl ?_ | refine zbp rfl rfl ?_ | refine zbq rfl rfl ?_ | refine zaz rfl rfl ?_ | refine zbb rfl rfl ?_ | refine zba rfl rfl ?_) | ((with_reducible refine zdc ?_); first | refine zbu rfl ?_ | refine zbv rfl ?_ | refine zbw rfl rfl rfl ?_) | ((with_reducible refine zdd ?_); first | refine zae 0 rfl rfl rfl rfl rfl rfl rfl ?_ | refine zae 1 rfl rfl rfl rfl rfl rfl rfl ?_ | refine zae 2 rfl rfl rfl rfl rfl rfl rfl ?_ | refine zae 3 rfl rfl rfl rfl rfl rfl rfl ?_ | refine zae 4 rfl rfl rfl rfl rfl rfl rfl ?_ | refine zae 5 rfl rfl rfl rfl rfl rfl rfl ?_) | ((with_reducible refine zdh ?_); refine zar (fun nb => ?_)))
  all_goals refine zch ?_
  all_goals repeat (first | refine zck ?_ | refine zcl ?_ | refine zcm ?_ | refine zcn ?_)
  refine run_slots [(1, .pointer (some ⟨b1, 0, none⟩)), (3, spP p), (4, .int .i64 0)] ⟨rfl, rfl, rfl, trivial⟩ (fun junk => ?_)
  refine run_loop (S := Nat) (fun k => [(1, .pointer (some ⟨b1, 0, none⟩)), (3, spP p), (4, .int .i64 (k : Int))])
    (fun k Γ => Γ = [ArrA p 5 (upTo k) (200 - k)] ∧ k ≤ 9) (fun k => 9 - k) 0 ⟨rfl, rfl, rfl, trivial⟩ ⟨rfl, Nat.zero_le _⟩ ?_
  rintro k Γ junk ⟨rfl, hk⟩
  by_cases hlt : k < 9
  · have hP := pushA w0 hw p (K := 5) (by decide) (upTo k) (200 - (k + 1)) k (by rw [upTo_len]; exact_mod_cast awake_T k hlt)
    rw [upTo_len, ← upTo_succ, show 200 - (k + 1) + 1 = 200 - k by omega] at hP
    repeat' (first | refine zck ?_ | refine zcp (by kernel_rfl) ?_ | refine zcq PP_mixed (by kernel_rfl) (by kernel_rfl) ?_ | refine zcm ?_ | refine zcl ?_ | refine zcn ?_ | refine zco ?_ | refine zcs rfl ?_ | (refine zap rfl ?_; first | ((with_reducible refine zct ?_); first | refine zaj rfl ?_ | refine zak rfl ?_ | refine zal rfl ?_ | refine zam rfl rfl (fun _ => ?_) (fun _ => ?_)) | ((with_reducible refine zcu ?_); refine zan rfl ?_) | ((with_reducible refine zcv ?_); refine zan rfl ?_) | ((with_reducible refine zcw ?_); first | refine zaa 0 rfl rfl rfl ?_ | refine zaa 1 rfl rfl rfl ?_ | refine zaa 2 rfl rfl rfl ?_ | refine zaa 3 rfl rfl rfl ?_ | refine zaa 4 rfl rfl rfl ?_ | refine zaa 5 rfl rfl rfl ?_ | refine zab 0 rfl rfl rfl ?_ | refine zab 1 rfl rfl rfl ?_ | refine zab 2 rfl rfl rfl ?_ | refine zab 3 rfl rfl rfl ?_ | refine zab 4 rfl rfl rfl ?_ | refine zab 5 rfl rfl rfl ?_) | ((with_reducible refine zcx ?_); refine zah [0] hP rfl rfl rfl sub_nil rfl ?_) | ((with_reducible refine zcy ?_); refine zao rfl ?_) | ((with_reducible refine zcz ?_); refine zan rfl ?_) | ((with_reducible refine zda ?_); first | refine zbc rfl rfl (by omega) ?_ | refine zbd rfl rfl (by omega) ?_ | refine zbe rfl rfl (by omega) ?_ | refine zbf rfl rfl (by omega) ?_ | refine zbg rfl rfl (by omega) ?_ | refine zbh rfl rfl (by omega) ?_ | refine zau rfl rfl (by omega) ?_ | refine zav rfl rfl (by omega) ?_ | refine zbo rfl rfl ?_ | refine zbp rfl rfl ?_ | refine zbq rfl rfl ?_ | refine zaz rfl rfl ?_ | refine zbb rfl rfl ?_ | refine zba rfl rfl ?_) | ((with_reducible refine zdc ?_); first | refine zbu rfl ?_ | refine zbv rfl ?_ | refine zbw rfl rfl rfl ?_) | ((with_reducible refine zdd ?_); first | refine zae 0 rfl rfl rfl rfl rfl rfl rfl ?_ | refine zae 1 rfl rfl rfl rfl rfl rfl rfl ?_ | refine zae 2 rfl rfl rfl rfl rfl rfl rfl ?_ | refine zae 3 rfl rfl rfl rfl rfl rfl rfl ?_ | refine zae 4 rfl rfl rfl rfl rfl rfl rfl ?_ | refine zae 5 rfl rfl rfl rfl rfl rfl rfl ?_) | ((with_reducible refine zdh ?_); refine zar (fun nb => ?_))) | refine zch ?_ | refine zci rfl ?_ | refine zcj rfl ?_)
    refine cut_end ⟨rfl, k + 1, ⟨rfl, rfl, int_eq (by omega), trivial⟩, ⟨rfl, hlt⟩, by omega⟩
  · have hk9 : k = 9 := by omega
    subst hk9
    repeat' (first | refine zck ?_ | refine zcp (by kernel_rfl) ?_ | refine zcq PP_mixed (by kernel_rfl) (by kernel_rfl) ?_ | refine zcm ?_ | refine zcl ?_ | refine zcn ?_ | refine zco ?_ | refine zcs rfl ?_ | (refine zap rfl ?_; first | ((with_reducible refine zct ?_); first | refine zaj rfl ?_ | refine zak rfl ?_ | refine zal rfl ?_ | refine zam rfl rfl (fun _ => ?_) (fun _ => ?_)) | ((with_reducible refine zcu ?_); refine zan rfl ?_) | ((with_reducible refine zcv ?_); refine zan rfl ?_) | ((with_reducible refine zcw ?_); first | refine zaa 0 rfl rfl rfl ?_ | refine zaa 1 rfl rfl rfl ?_ | refine zaa 2 rfl rfl rfl ?_ | refine zaa 3 rfl rfl rfl ?_ | refine zaa 4 rfl rfl rfl ?_ | refine zaa 5 rfl rfl rfl ?_ | refine zab 0 rfl rfl rfl ?_ | refine zab 1 rfl rfl rfl ?_ | refine zab 2 rfl rfl rfl ?_ | refine zab 3 rfl rfl rfl ?_ | refine zab 4 rfl rfl rfl ?_ | refine zab 5 rfl rfl rfl ?_) | ((with_reducible refine zcy ?_); refine zao rfl ?_) | ((with_reducible refine zcz ?_); refine zan rfl ?_) | ((with_reducible refine zda ?_); first | refine zbc rfl rfl (by omega) ?_ | refine zbd rfl rfl (by omega) ?_ | refine zbe rfl rfl (by omega) ?_ | refine zbf rfl rfl (by omega) ?_ | refine zbg rfl rfl (by omega) ?_ | refine zbh rfl rfl (by omega) ?_ | refine zau rfl rfl (by omega) ?_ | refine zav rfl rfl (by omega) ?_ | refine zbo rfl rfl ?_ | refine zbp rfl rfl ?_ | refine zbq rfl rfl ?_ | refine zaz rfl rfl ?_ | refine zbb rfl rfl ?_ | refine zba rfl rfl ?_) | ((with_reducible refine zdc ?_); first | refine zbu rfl ?_ | refine zbv rfl ?_ | refine zbw rfl rfl rfl ?_) | ((with_reducible refine zdd ?_); first | refine zae 0 rfl rfl rfl rfl rfl rfl rfl ?_ | refine zae 1 rfl rfl rfl rfl rfl rfl rfl ?_ | refine zae 2 rfl rfl rfl rfl rfl rfl rfl ?_ | refine zae 3 rfl rfl rfl rfl rfl rfl rfl ?_ | refine zae 4 rfl rfl rfl rfl rfl rfl rfl ?_ | refine zae 5 rfl rfl rfl rfl rfl rfl rfl ?_) | ((with_reducible refine zdh ?_); refine zar (fun nb => ?_))) | refine zch ?_ | refine zci rfl ?_ | refine zcj rfl ?_)
    refine cut_exit rfl rfl ?_
    repeat (first | refine zck ?_ | refine zcl ?_ | refine zcm ?_ | refine zcn ?_ | refine zco ?_)
    have hG := getA w0 hw p (K := 5) (by decide) (upTo 9) (200 - 9) (i := 8) (v := 8) rfl 8 rfl
    have hL : FnE PP w0 [] 13 [poolV (a0 5).pool, spP p] [ArrA p 5 (upTo 9) (200 - 9)] (.int .i64 2) [ArrA p 5 (upTo 9) (200 - 9)] := leftA w0 hw p (K := 5) (by decide) (upTo 9) (200 - 9)
    have hPo : FnE PP w0 [] 12 [arrV (a0 5), spP p] [ArrA p 5 (upTo 9) (200 - 9)] (.tuple #[.int .i64 8, .int .i64 0]) [ArrA p 5 (upTo 8) (200 - 10)] := by
      have h := popA w0 hw p (K := 5) (by decide) (upTo 8) (200 - 10) 8
      rw [show upTo 8 ++ [8] = upTo 9 from (upTo_succ 8).symm] at h; exact h
    have hL2 : FnE PP w0 [] 13 [poolV (a0 5).pool, spP p] [ArrA p 5 (upTo 8) (200 - 10)] (.int .i64 4) [ArrA p 5 (upTo 8) (200 - 10)] := leftA w0 hw p (K := 5) (by decide) (upTo 8) (200 - 10)
    have hLn : FnE PP w0 [] 14 [arrV (a0 5), spP p] [ArrA p 5 (upTo 8) (200 - 10)] (.int .i64 8) [ArrA p 5 (upTo 8) (200 - 10)] := lenA w0 hw p (K := 5) (by decide) (upTo 8) (200 - 10)
    generalize upTo 9 = l9 at *
    generalize upTo 8 = l8 at *
    repeat (first | refine zck ?_ | refine zcl ?_ | refine zcm ?_ | refine zcn ?_)
    first | refine zcp (by kernel_rfl) ?_ | refine zcq PP_mixed (by kernel_rfl) (by kernel_rfl) ?_
    repeat' (refine zap rfl ?_; first | ((with_reducible refine zct ?_); first | refine zaj rfl ?_ | refine zak rfl ?_ | refine zal rfl ?_ | refine zam rfl rfl (fun _ => ?_) (fun _ => ?_)) | ((with_reducible refine zcu ?_); refine zan rfl ?_) | ((with_reducible refine zcv ?_); refine zan rfl ?_) | ((with_reducible refine zcw ?_); first | refine zaa 0 rfl rfl rfl ?_ | refine zaa 1 rfl rfl rfl ?_ | refine zaa 2 rfl rfl rfl ?_ | refine zaa 3 rfl rfl rfl ?_ | refine zaa 4 rfl rfl rfl ?_ | refine zaa 5 rfl rfl rfl ?_ | refine zab 0 rfl rfl rfl ?_ | refine zab 1 rfl rfl rfl ?_ | refine zab 2 rfl rfl rfl ?_ | refine zab 3 rfl rfl rfl ?_ | refine zab 4 rfl rfl rfl ?_ | refine zab 5 rfl rfl rfl ?_) | ((with_reducible refine zcx ?_); refine zah [0] hG rfl rfl rfl sub_nil rfl ?_) | ((with_reducible refine zcy ?_); refine zao rfl ?_) | ((with_reducible refine zcz ?_); refine zan rfl ?_) | ((with_reducible refine zda ?_); first | refine zbc rfl rfl (by omega) ?_ | refine zbd rfl rfl (by omega) ?_ | refine zbe rfl rfl (by omega) ?_ | refine zbf rfl rfl (by omega) ?_ | refine zbg rfl rfl (by omega) ?_ | refine zbh rfl rfl (by omega) ?_ | refine zau rfl rfl (by omega) ?_ | refine zav rfl rfl (by omega) ?_ | refine zbo rfl rfl ?_ | refine zbp rfl rfl ?_ | refine zbq rfl rfl ?_ | refine zaz rfl rfl ?_ | refine zbb rfl rfl ?_ | refine zba rfl rfl ?_) | ((with_reducible refine zdc ?_); first | refine zbu rfl ?_ | refine zbv rfl ?_ | refine zbw rfl rfl rfl ?_) | ((with_reducible refine zdd ?_); first | refine zae 0 rfl rfl rfl rfl rfl rfl rfl ?_ | refine zae 1 rfl rfl rfl rfl rfl rfl rfl ?_ | refine zae 2 rfl rfl rfl rfl rfl rfl rfl ?_ | refine zae 3 rfl rfl rfl rfl rfl rfl rfl ?_ | refine zae 4 rfl rfl rfl rfl rfl rfl rfl ?_ | refine zae 5 rfl rfl rfl rfl rfl rfl rfl ?_) | ((with_reducible refine zdh ?_); refine zar (fun nb => ?_)))
    all_goals refine zch ?_
    all_goals repeat (first | refine zck ?_ | refine zcl ?_ | refine zcm ?_ | refine zcn ?_)
    repeat (first | refine zck ?_ | refine zcl ?_ | refine zcm ?_ | refine zcn ?_)
    first | refine zcp (by kernel_rfl) ?_ | refine zcq PP_mixed (by kernel_rfl) (by kernel_rfl) ?_
    repeat' (refine zap rfl ?_; first | ((with_reducible refine zct ?_); first | refine zaj rfl ?_ | refine zak rfl ?_ | refine zal rfl ?_ | refine zam rfl rfl (fun _ => ?_) (fun _ => ?_)) | ((with_reducible refine zcu ?_); refine zan rfl ?_) | ((with_reducible refine zcv ?_); refine zan rfl ?_) | ((with_reducible refine zcw ?_); first | refine zaa 0 rfl rfl rfl ?_ | refine zaa 1 rfl rfl rfl ?_ | refine zaa 2 rfl rfl rfl ?_ | refine zaa 3 rfl rfl rfl ?_ | refine zaa 4 rfl rfl rfl ?_ | refine zaa 5 rfl rfl rfl ?_ | refine zab 0 rfl rfl rfl ?_ | refine zab 1 rfl rfl rfl ?_ | refine zab 2 rfl rfl rfl ?_ | refine zab 3 rfl rfl rfl ?_ | refine zab 4 rfl rfl rfl ?_ | refine zab 5 rfl rfl rfl ?_) | ((with_reducible refine zcx ?_); refine zah [0] hL rfl rfl rfl sub_nil rfl ?_) | ((with_reducible refine zcy ?_); refine zao rfl ?_) | ((with_reducible refine zcz ?_); refine zan rfl ?_) | ((with_reducible refine zda ?_); first | refine zbc rfl rfl (by omega) ?_ | refine zbd rfl rfl (by omega) ?_ | refine zbe rfl rfl (by omega) ?_ | refine zbf rfl rfl (by omega) ?_ | refine zbg rfl rfl (by omega) ?_ | refine zbh rfl rfl (by omega) ?_ | refine zau rfl rfl (by omega) ?_ | refine zav rfl rfl (by omega) ?_ | refine zbo rfl rfl ?_ | refine zbp rfl rfl ?_ | refine zbq rfl rfl ?_ | refine zaz rfl rfl ?_ | refine zbb rfl rfl ?_ | refine zba rfl rfl ?_) | ((with_reducible refine zdc ?_); first | refine zbu rfl ?_ | refine zbv rfl ?_ | refine zbw rfl rfl rfl ?_) | ((with_reducible refine zdd ?_); first | refine zae 0 rfl rfl rfl rfl rfl rfl rfl ?_ | refine zae 1 rfl rfl rfl rfl rfl rfl rfl ?_ | refine zae 2 rfl rfl rfl rfl rfl rfl rfl ?_ | refine zae 3 rfl rfl rfl rfl rfl rfl rfl ?_ | refine zae 4 rfl rfl rfl rfl rfl rfl rfl ?_ | refine zae 5 rfl rfl rfl rfl rfl rfl rfl ?_) | ((with_reducible refine zdh ?_); refine zar (fun nb => ?_)))
    all_goals refine zch ?_
    all_goals repeat (first | refine zck ?_ | refine zcl ?_ | refine zcm ?_ | refine zcn ?_)
    repeat (first | refine zck ?_ | refine zcl ?_ | refine zcm ?_ | refine zcn ?_)
    first | refine zcp (by kernel_rfl) ?_ | refine zcq PP_mixed (by kernel_rfl) (by kernel_rfl) ?_
    repeat' (refine zap rfl ?_; first | ((with_reducible refine zct ?_); first | refine zaj rfl ?_ | refine zak rfl ?_ | refine zal rfl ?_ | refine zam rfl rfl (fun _ => ?_) (fun _ => ?_)) | ((with_reducible refine zcu ?_); refine zan rfl ?_) | ((with_reducible refine zcv ?_); refine zan rfl ?_) | ((with_reducible refine zcw ?_); first | refine zaa 0 rfl rfl rfl ?_ | refine zaa 1 rfl rfl rfl ?_ | refine zaa 2 rfl rfl rfl ?_ | refine zaa 3 rfl rfl rfl ?_ | refine zaa 4 rfl rfl rfl ?_ | refine zaa 5 rfl rfl rfl ?_ | refine zab 0 rfl rfl rfl ?_ | refine zab 1 rfl rfl rfl ?_ | refine zab 2 rfl rfl rfl ?_ | refine zab 3 rfl rfl rfl ?_ | refine zab 4 rfl rfl rfl ?_ | refine zab 5 rfl rfl rfl ?_) | ((with_reducible refine zcx ?_); refine zah [0] hPo rfl rfl rfl sub_nil rfl ?_) | ((with_reducible refine zcy ?_); refine zao rfl ?_) | ((with_reducible refine zcz ?_); refine zan rfl ?_) | ((with_reducible refine zda ?_); first | refine zbc rfl rfl (by omega) ?_ | refine zbd rfl rfl (by omega) ?_ | refine zbe rfl rfl (by omega) ?_ | refine zbf rfl rfl (by omega) ?_ | refine zbg rfl rfl (by omega) ?_ | refine zbh rfl rfl (by omega) ?_ | refine zau rfl rfl (by omega) ?_ | refine zav rfl rfl (by omega) ?_ | refine zbo rfl rfl ?_ | refine zbp rfl rfl ?_ | refine zbq rfl rfl ?_ | refine zaz rfl rfl ?_ | refine zbb rfl rfl ?_ | refine zba rfl rfl ?_) | ((with_reducible refine zdc ?_); first | refine zbu rfl ?_ | refine zbv rfl ?_ | refine zbw rfl rfl rfl ?_) | ((with_reducible refine zdd ?_); first | refine zae 0 rfl rfl rfl rfl rfl rfl rfl ?_ | refine zae 1 rfl rfl rfl rfl rfl rfl rfl ?_ | refine zae 2 rfl rfl rfl rfl rfl rfl rfl ?_ | refine zae 3 rfl rfl rfl rfl rfl rfl rfl ?_ | refine zae 4 rfl rfl rfl rfl rfl rfl rfl ?_ | refine zae 5 rfl rfl rfl rfl rfl rfl rfl ?_) | ((with_reducible refine zdh ?_); refine zar (fun nb => ?_)))
    all_goals refine zch ?_
    all_goals repeat (first | refine zck ?_ | refine zcl ?_ | refine zcm ?_ | refine zcn ?_)
    repeat (first | refine zck ?_ | refine zcl ?_ | refine zcm ?_ | refine zcn ?_)
    first | refine zcp (by kernel_rfl) ?_ | refine zcq PP_mixed (by kernel_rfl) (by kernel_rfl) ?_
    repeat' (refine zap rfl ?_; first | ((with_reducible refine zct ?_); first | refine zaj rfl ?_ | refine zak rfl ?_ | refine zal rfl ?_ | refine zam rfl rfl (fun _ => ?_) (fun _ => ?_)) | ((with_reducible refine zcu ?_); refine zan rfl ?_) | ((with_reducible refine zcv ?_); refine zan rfl ?_) | ((with_reducible refine zcw ?_); first | refine zaa 0 rfl rfl rfl ?_ | refine zaa 1 rfl rfl rfl ?_ | refine zaa 2 rfl rfl rfl ?_ | refine zaa 3 rfl rfl rfl ?_ | refine zaa 4 rfl rfl rfl ?_ | refine zaa 5 rfl rfl rfl ?_ | refine zab 0 rfl rfl rfl ?_ | refine zab 1 rfl rfl rfl ?_ | refine zab 2 rfl rfl rfl ?_ | refine zab 3 rfl rfl rfl ?_ | refine zab 4 rfl rfl rfl ?_ | refine zab 5 rfl rfl rfl ?_) | ((with_reducible refine zcx ?_); first | refine zah [0] hL2 rfl rfl rfl sub_nil rfl ?_ | refine zah [0] hLn rfl rfl rfl sub_nil rfl ?_) | ((with_reducible refine zcy ?_); refine zao rfl ?_) | ((with_reducible refine zcz ?_); refine zan rfl ?_) | ((with_reducible refine zda ?_); first | refine zbc rfl rfl (by omega) ?_ | refine zbd rfl rfl (by omega) ?_ | refine zbe rfl rfl (by omega) ?_ | refine zbf rfl rfl (by omega) ?_ | refine zbg rfl rfl (by omega) ?_ | refine zbh rfl rfl (by omega) ?_ | refine zau rfl rfl (by omega) ?_ | refine zav rfl rfl (by omega) ?_ | refine zbo rfl rfl ?_ | refine zbp rfl rfl ?_ | refine zbq rfl rfl ?_ | refine zaz rfl rfl ?_ | refine zbb rfl rfl ?_ | refine zba rfl rfl ?_) | ((with_reducible refine zdc ?_); first | refine zbu rfl ?_ | refine zbv rfl ?_ | refine zbw rfl rfl rfl ?_) | ((with_reducible refine zdd ?_); first | refine zae 0 rfl rfl rfl rfl rfl rfl rfl ?_ | refine zae 1 rfl rfl rfl rfl rfl rfl rfl ?_ | refine zae 2 rfl rfl rfl rfl rfl rfl rfl ?_ | refine zae 3 rfl rfl rfl rfl rfl rfl rfl ?_ | refine zae 4 rfl rfl rfl rfl rfl rfl rfl ?_ | refine zae 5 rfl rfl rfl rfl rfl rfl rfl ?_) | ((with_reducible refine zdh ?_); refine zar (fun nb => ?_)))
    all_goals refine zch ?_
    all_goals repeat (first | refine zck ?_ | refine zcl ?_ | refine zcm ?_ | refine zcn ?_)
    refine run_ret (leaves_nil (ends_take [] rfl (ends_one rfl rfl ⟨rfl, rfl, rfl⟩)))
end Go.Proofs.YtilnknokgflkjaaDoor

/- The walk of ArrayDrains. -/
namespace Go.Proofs.YtilnknokgflkjaaDoor
open Go.Vc Sim
set_option maxHeartbeats 4000000
abbrev encI : Int → List Value := fun x => [.int .i64 x]
theorem inSl_rd {c : Array Value} {off i : Nat} {u : Value} (h : c[off + (i * 1 + 0)]? = some u) (o : Nat) (ho : o = off + i * 1) : rd false 1 c.toList o = some u := by
  subst ho
  show nth c.toList _ = _
  rw [nth_eq]; simpa using h

theorem drains_spec (w0 : World) (hw : PowOk w0) (m : Int) (hm : u8P m) (v : Value) (l : List Int) (hv : InSl w0 encI 1 v l) (hl : ∀ x ∈ l, i64P x) :
    FnE PP w0 [] 3 [.int .u8 m, v] [] (.bool true) [] := by
  obtain ⟨a, cap, rfl, hmax, hmem⟩ := hv
  have hmax2 : (l.length : Int) ≤ 9223372036854775807 := by have := hmax.2; simp only [maxLen] at this; omega
  refine fn_of_run en3 fn3 rfl rfl rfl ?_
  by_cases hlen : (l.length : Int) > 200
  · repeat' (first | refine zck ?_ | refine zcp (by kernel_rfl) ?_ | refine zcq PP_mixed (by kernel_rfl) (by kernel_rfl) ?_ | refine zcm ?_ | refine zcl ?_ | refine zcn ?_ | refine zco ?_ | refine zcs rfl ?_ | (refine zap rfl ?_; first | ((with_reducible refine zct ?_); first | refine zaj rfl ?_ | refine zak rfl ?_ | refine zal rfl ?_ | refine zam rfl rfl (fun _ => ?_) (fun _ => ?_)) | ((with_reducible refine zcu ?_); refine zan rfl ?_) | ((with_reducible refine zcv ?_); refine zan rfl ?_) | ((with_reducible refine zcw ?_); first | refine zaa 0 rfl rfl rfl ?_ | refine zaa 1 rfl rfl rfl ?_ | refine zaa 2 rfl rfl rfl ?_ | refine zaa 3 rfl rfl rfl ?_ | refine zaa 4 rfl rfl rfl ?_ | refine zaa 5 rfl rfl rfl ?_ | refine zab 0 rfl rfl rfl ?_ | refine zab 1 rfl rfl rfl ?_ | refine zab 2 rfl rfl rfl ?_ | refine zab 3 rfl rfl rfl ?_ | refine zab 4 rfl rfl rfl ?_ | refine zab 5 rfl rfl rfl ?_) | ((with_reducible refine zcx ?_); first | refine zah [] (awake_spec w0 hw) rfl rfl rfl sub_nil rfl ?_ | refine zce rfl ?_) | ((with_reducible refine zcy ?_); refine zao rfl ?_) | ((with_reducible refine zcz ?_); refine zan rfl ?_) | ((with_reducible refine zda ?_); first | refine zbc rfl rfl (by omega) ?_ | refine zbd rfl rfl (by omega) ?_ | refine zbe rfl rfl (by omega) ?_ | refine zbf rfl rfl (by omega) ?_ | refine zbg rfl rfl (by omega) ?_ | refine zbh rfl rfl (by omega) ?_ | refine zbk rfl rfl (by omega) ?_ | refine zbl rfl rfl (by omega) ?_ | refine zbm rfl rfl (by omega) ?_ | refine zbn rfl rfl (by omega) ?_ | refine zau rfl rfl (by omega) ?_ | refine zav rfl rfl (by omega) ?_ | refine zbo rfl rfl ?_ | refine zbp rfl rfl ?_ | refine zbq rfl rfl ?_ | refine zbs rfl rfl ?_ | refine zbt rfl rfl ?_ | refine zaz rfl rfl ?_ | refine zbb rfl rfl ?_ | refine zba rfl rfl ?_) | ((with_reducible refine zdc ?_); first | refine zbu rfl ?_ | refine zbv rfl ?_ | refine zbw rfl rfl rfl ?_) | ((with_reducible refine zdd ?_); first | refine zae 0 rfl rfl rfl rfl rfl rfl rfl ?_ | refine zae 1 rfl rfl rfl rfl rfl rfl rfl ?_ | refine zae 2 rfl rfl rfl rfl rfl rfl rfl ?_ | refine zae 3 rfl rfl rfl rfl rfl rfl rfl ?_ | refine zae 4 rfl rfl rfl rfl rfl rfl rfl ?_ | refine zae 5 rfl rfl rfl rfl rfl rfl rfl ?_) | ((with_reducible refine zdf ?_); first | refine zas rfl rfl (by omega) ?_ | refine zat rfl rfl (by omega) ?_) | ((with_reducible refine zdh ?_); refine zar (fun nb => ?_))) | refine zch ?_ | refine zci rfl ?_ | refine zcj rfl ?_)
    exact ret_tmp1 rfl ⟨rfl, rfl⟩
  have hK : 0 ≤ m % 24 ∧ m % 24 ≤ 23 := by omega
  generalize hKK : m % 24 = K at hK
  repeat (first | refine zck ?_ | refine zcl ?_ | refine zcm ?_ | refine zcn ?_)
  first | refine zcp (by kernel_rfl) ?_ | refine zcq PP_mixed (by kernel_rfl) (by kernel_rfl) ?_
  repeat' (refine zap rfl ?_; first | ((with_reducible refine zct ?_); first | refine zaj rfl ?_ | refine zak rfl ?_ | refine zal rfl ?_ | refine zam rfl rfl (fun _ => ?_) (fun _ => ?_)) | ((with_reducible refine zcu ?_); refine zan rfl ?_) | ((with_reducible refine zcv ?_); refine zan rfl ?_) | ((with_reducible refine zcw ?_); first | refine zaa 0 rfl rfl rfl ?_ | refine zaa 1 rfl rfl rfl ?_ | refine zaa 2 rfl rfl rfl ?_ | refine zaa 3 rfl rfl rfl ?_ | refine zaa 4 rfl rfl rfl ?_ | refine zaa 5 rfl rfl rfl ?_ | refine zab 0 rfl rfl rfl ?_ | refine zab 1 rfl rfl rfl ?_ | refine zab 2 rfl rfl rfl ?_ | refine zab 3 rfl rfl rfl ?_ | refine zab 4 rfl rfl rfl ?_ | refine zab 5 rfl rfl rfl ?_) | ((with_reducible refine zcx ?_); refine zce rfl ?_) | ((with_reducible refine zcy ?_); refine zao rfl ?_) | ((with_reducible refine zcz ?_); refine zan rfl ?_) | ((with_reducible refine zda ?_); first | refine zbc rfl rfl (by omega) ?_ | refine zbd rfl rfl (by omega) ?_ | refine zbe rfl rfl (by omega) ?_ | refine zbf rfl rfl (by omega) ?_ | refine zbg rfl rfl (by omega) ?_ | refine zbh rfl rfl (by omega) ?_ | refine zbk rfl rfl (by omega) ?_ | refine zbl rfl rfl (by omega) ?_ | refine zbm rfl rfl (by omega) ?_ | refine zbn rfl rfl (by omega) ?_ | refine zau rfl rfl (by omega) ?_ | refine zav rfl rfl (by omega) ?_ | refine zbo rfl rfl ?_ | refine zbp rfl rfl ?_ | refine zbq rfl rfl ?_ | refine zbs rfl rfl ?_ | refine zbt rfl rfl ?_ | refine zaz rfl rfl ?_ | refine zbb rfl rfl ?_ | refine zba rfl rfl ?_) | ((with_reducible refine zdc ?_); first | refine zbu rfl ?_ | refine zbv rfl ?_ | refine zbw rfl rfl rfl ?_) | ((with_reducible refine zdd ?_); first | refine zae 0 rfl rfl rfl rfl rfl rfl rfl ?_ | refine zae 1 rfl rfl rfl rfl rfl rfl rfl ?_ | refine zae 2 rfl rfl rfl rfl rfl rfl rfl ?_ | refine zae 3 rfl rfl rfl rfl rfl rfl rfl ?_ | refine zae 4 rfl rfl rfl rfl rfl rfl rfl ?_ | refine zae 5 rfl rfl rfl rfl rfl rfl rfl ?_) | ((with_reducible refine zdf ?_); first | refine zas rfl rfl (by omega) ?_ | refine zat rfl rfl (by omega) ?_) | ((with_reducible refine zdh ?_); refine zar (fun nb => ?_)))
  all_goals refine zch ?_
  all_goals repeat (first | refine zck ?_ | refine zcl ?_ | refine zcm ?_ | refine zcn ?_)
  repeat (first | refine zck ?_ | refine zcl ?_ | refine zcm ?_ | refine zcn ?_)
  first | refine zcp (by kernel_rfl) ?_ | refine zcq PP_mixed (by kernel_rfl) (by kernel_rfl) ?_
  repeat' (refine zap rfl ?_; first | ((with_reducible refine zct ?_); first | refine zaj rfl ?_ | refine zak rfl ?_ | refine zal rfl ?_ | refine zam rfl rfl (fun _ => ?_) (fun _ => ?_)) | ((with_reducible refine zcu ?_); refine zan rfl ?_) | ((with_reducible refine zcv ?_); refine zan rfl ?_) | ((with_reducible refine zcw ?_); first | refine zaa 0 rfl rfl rfl ?_ | refine zaa 1 rfl rfl rfl ?_ | refine zaa 2 rfl rfl rfl ?_ | refine zaa 3 rfl rfl rfl ?_ | refine zaa 4 rfl rfl rfl ?_ | refine zaa 5 rfl rfl rfl ?_ | refine zab 0 rfl rfl rfl ?_ | refine zab 1 rfl rfl rfl ?_ | refine zab 2 rfl rfl rfl ?_ | refine zab 3 rfl rfl rfl ?_ | refine zab 4 rfl rfl rfl ?_ | refine zab 5 rfl rfl rfl ?_) | ((with_reducible refine zcx ?_); refine zce rfl ?_) | ((with_reducible refine zcy ?_); refine zao rfl ?_) | ((with_reducible refine zcz ?_); refine zan rfl ?_) | ((with_reducible refine zda ?_); first | refine zbc rfl rfl (by omega) ?_ | refine zbd rfl rfl (by omega) ?_ | refine zbe rfl rfl (by omega) ?_ | refine zbf rfl rfl (by omega) ?_ | refine zbg rfl rfl (by omega) ?_ | refine zbh rfl rfl (by omega) ?_ | refine zbk rfl rfl (by omega) ?_ | refine zbl rfl rfl (by omega) ?_ | refine zbm rfl rfl (by omega) ?_ | refine zbn rfl rfl (by omega) ?_ | refine zau rfl rfl (by omega) ?_ | refine zav rfl rfl (by omega) ?_ | refine zbo rfl rfl ?_ | refine zbp rfl rfl ?_ | refine zbq rfl rfl ?_ | refine zbs rfl rfl ?_ | refine zbt rfl rfl ?_ | refine zaz rfl rfl ?_ | refine zbb rfl rfl ?_ | refine zba rfl rfl ?_) | ((with_reducible refine zdc ?_); first | refine zbu rfl ?_ | refine zbv rfl ?_ | refine zbw rfl rfl rfl ?_) | ((with_reducible refine zdd ?_); first | refine zae 0 rfl rfl rfl rfl rfl rfl rfl ?_ | refine zae 1 rfl rfl rfl rfl rfl rfl rfl ?_ | refine zae 2 rfl rfl rfl rfl rfl rfl rfl ?_ | refine zae 3 rfl rfl rfl rfl rfl rfl rfl ?_ | refine zae 4 rfl rfl rfl rfl rfl rfl rfl ?_ | refine zae 5 rfl rfl rfl rfl rfl rfl rfl ?_) | ((with_reducible refine zdf ?_); first | refine zas rfl rfl (by omega) ?_ | refine zat rfl rfl (by omega) ?_) | ((with_reducible refine zdh ?_); refine zar (fun nb => ?_)))
  all_goals refine zch ?_
  all_goals repeat (first | refine zck ?_ | refine zcl ?_ | refine zcm ?_ | refine zcn ?_)
  refine zcj rfl ?_
  repeat (first | refine zck ?_ | refine zcl ?_ | refine zcm ?_ | refine zcn ?_ | refine zco ?_)
  repeat (first | refine zck ?_ | refine zcl ?_ | refine zcm ?_ | refine zcn ?_)
  first | refine zcp (by kernel_rfl) ?_ | refine zcq PP_mixed (by kernel_rfl) (by kernel_rfl) ?_
  repeat' (refine zap rfl ?_; first | (refine zai [] (startA w0 m hm K hKK.symm) rfl rfl rfl sub_nil ?_; rintro v Γ' ⟨vb, rfl, rfl⟩) | ((with_reducible refine zct ?_); first | refine zaj rfl ?_ | refine zak rfl ?_ | refine zal rfl ?_ | refine zam rfl rfl (fun _ => ?_) (fun _ => ?_)) | ((with_reducible refine zcu ?_); refine zan rfl ?_) | ((with_reducible refine zcv ?_); refine zan rfl ?_) | ((with_reducible refine zcw ?_); first | refine zaa 0 rfl rfl rfl ?_ | refine zaa 1 rfl rfl rfl ?_ | refine zaa 2 rfl rfl rfl ?_ | refine zaa 3 rfl rfl rfl ?_ | refine zaa 4 rfl rfl rfl ?_ | refine zaa 5 rfl rfl rfl ?_ | refine zab 0 rfl rfl rfl ?_ | refine zab 1 rfl rfl rfl ?_ | refine zab 2 rfl rfl rfl ?_ | refine zab 3 rfl rfl rfl ?_ | refine zab 4 rfl rfl rfl ?_ | refine zab 5 rfl rfl rfl ?_) | ((with_reducible refine zcx ?_); refine zce rfl ?_) | ((with_reducible refine zcy ?_); refine zao rfl ?_) | ((with_reducible refine zcz ?_); refine zan rfl ?_) | ((with_reducible refine zda ?_); first | refine zbc rfl rfl (by omega) ?_ | refine zbd rfl rfl (by omega) ?_ | refine zbe rfl rfl (by omega) ?_ | refine zbf rfl rfl (by omega) ?_ | refine zbg rfl rfl (by omega) ?_ | refine zbh rfl rfl (by omega) ?_ | refine zbk rfl rfl (by omega) ?_ | refine zbl rfl rfl (by omega) ?_ | refine zbm rfl rfl (by omega) ?_ | refine zbn rfl rfl (by omega) ?_ | refine zau rfl rfl (by omega) ?_ | refine zav rfl rfl (by omega) ?_ | refine zbo rfl rfl ?_ | refine zbp rfl rfl ?_ | refine zbq rfl rfl ?_ | refine zbs rfl rfl ?_ | refine zbt rfl rfl ?_ | refine zaz rfl rfl ?_ | refine zbb rfl rfl ?_ | refine zba rfl rfl ?_) | ((with_reducible refine zdc ?_); first | refine zbu rfl ?_ | refine zbv rfl ?_ | refine zbw rfl rfl rfl ?_) | ((with_reducible refine zdd ?_); first | refine zae 0 rfl rfl rfl rfl rfl rfl rfl ?_ | refine zae 1 rfl rfl rfl rfl rfl rfl rfl ?_ | refine zae 2 rfl rfl rfl rfl rfl rfl rfl ?_ | refine zae 3 rfl rfl rfl rfl rfl rfl rfl ?_ | refine zae 4 rfl rfl rfl rfl rfl rfl rfl ?_ | refine zae 5 rfl rfl rfl rfl rfl rfl rfl ?_) | ((with_reducible refine zdf ?_); first | refine zas rfl rfl (by omega) ?_ | refine zat rfl rfl (by omega) ?_) | ((with_reducible refine zdh ?_); refine zar (fun nb => ?_)))
  all_goals refine zch ?_
  all_goals repeat (first | refine zck ?_ | refine zcl ?_ | refine zcm ?_ | refine zcn ?_)
  rename_i b1
  revert nb; intro b2
  refine run_share [0] rfl ?_
  refine run_share [0] rfl ?_
  refine run_share [0] rfl ?_
  repeat (first | refine zck ?_ | refine zcl ?_ | refine zcm ?_ | refine zcn ?_)
  first | refine zcp (by kernel_rfl) ?_ | refine zcq PP_mixed (by kernel_rfl) (by kernel_rfl) ?_
  repeat' (refine zap rfl ?_; first | (refine zai [] (knownA w0 vb _ K hK 2 (0, 0)) rfl rfl rfl (by intro p hp; simp at hp; subst hp; simp) ?_; rintro v Γ' ⟨mb, rfl, rfl⟩) | (refine zai [0] (newA w0 mb hK 1000 (by decide)) rfl rfl rfl sub_nil ?_; rintro v Γ' ⟨p, rfl, rfl⟩) | ((with_reducible refine zct ?_); first | refine zaj rfl ?_ | refine zak rfl ?_ | refine zal rfl ?_ | refine zam rfl rfl (fun _ => ?_) (fun _ => ?_)) | ((with_reducible refine zcu ?_); refine zan rfl ?_) | ((with_reducible refine zcv ?_); refine zan rfl ?_) | ((with_reducible refine zcw ?_); first | refine zaa 0 rfl rfl rfl ?_ | refine zaa 1 rfl rfl rfl ?_ | refine zaa 2 rfl rfl rfl ?_ | refine zaa 3 rfl rfl rfl ?_ | refine zaa 4 rfl rfl rfl ?_ | refine zaa 5 rfl rfl rfl ?_ | refine zab 0 rfl rfl rfl ?_ | refine zab 1 rfl rfl rfl ?_ | refine zab 2 rfl rfl rfl ?_ | refine zab 3 rfl rfl rfl ?_ | refine zab 4 rfl rfl rfl ?_ | refine zab 5 rfl rfl rfl ?_) | ((with_reducible refine zcx ?_); refine zce rfl ?_) | ((with_reducible refine zcy ?_); refine zao rfl ?_) | ((with_reducible refine zcz ?_); refine zan rfl ?_) | ((with_reducible refine zda ?_); first | refine zbc rfl rfl (by omega) ?_ | refine zbd rfl rfl (by omega) ?_ | refine zbe rfl rfl (by omega) ?_ | refine zbf rfl rfl (by omega) ?_ | refine zbg rfl rfl (by omega) ?_ | refine zbh rfl rfl (by omega) ?_ | refine zbk rfl rfl (by omega) ?_ | refine zbl rfl rfl (by omega) ?_ | refine zbm rfl rfl (by omega) ?_ | refine zbn rfl rfl (by omega) ?_ | refine zau rfl rfl (by omega) ?_ | refine zav rfl rfl (by omega) ?_ | refine zbo rfl rfl ?_ | refine zbp rfl rfl ?_ | refine zbq rfl rfl ?_ | refine zbs rfl rfl ?_ | refine zbt rfl rfl ?_ | refine zaz rfl rfl ?_ | refine zbb rfl rfl ?_ | refine zba rfl rfl ?_) | ((with_reducible refine zdc ?_); first | refine zbu rfl ?_ | refine zbv rfl ?_ | refine zbw rfl rfl rfl ?_) | ((with_reducible refine zdd ?_); first | refine zae 0 rfl rfl rfl rfl rfl rfl rfl ?_ | refine zae 1 rfl rfl rfl rfl rfl rfl rfl ?_ | refine zae 2 rfl rfl rfl rfl rfl rfl rfl ?_ | refine zae 3 rfl rfl rfl rfl rfl rfl rfl ?_ | refine zae 4 rfl rfl rfl rfl rfl rfl rfl ?_ | refine zae 5 rfl rfl rfl rfl rfl rfl rfl ?_) | ((with_reducible refine zdf ?_); first | refine zas rfl rfl (by omega) ?_ | refine zat rfl rfl (by omega) ?_) | ((with_reducible refine zdh ?_); refine zar (fun nb => ?_)))
  all_goals refine zch ?_
  all_goals repeat (first | refine zck ?_ | refine zcl ?_ | refine zcm ?_ | refine zcn ?_)
  repeat (first | refine zck ?_ | refine zcl ?_ | refine zcm ?_ | refine zcn ?_)
  first | refine zcp (by kernel_rfl) ?_ | refine zcq PP_mixed (by kernel_rfl) (by kernel_rfl) ?_
  repeat' (refine zap rfl ?_; first | ((with_reducible refine zct ?_); first | refine zaj rfl ?_ | refine zak rfl ?_ | refine zal rfl ?_ | refine zam rfl rfl (fun _ => ?_) (fun _ => ?_)) | ((with_reducible refine zcu ?_); refine zan rfl ?_) | ((with_reducible refine zcv ?_); refine zan rfl ?_) | ((with_reducible refine zcw ?_); first | refine zaa 0 rfl rfl rfl ?_ | refine zaa 1 rfl rfl rfl ?_ | refine zaa 2 rfl rfl rfl ?_ | refine zaa 3 rfl rfl rfl ?_ | refine zaa 4 rfl rfl rfl ?_ | refine zaa 5 rfl rfl rfl ?_ | refine zab 0 rfl rfl rfl ?_ | refine zab 1 rfl rfl rfl ?_ | refine zab 2 rfl rfl rfl ?_ | refine zab 3 rfl rfl rfl ?_ | refine zab 4 rfl rfl rfl ?_ | refine zab 5 rfl rfl rfl ?_) | ((with_reducible refine zcx ?_); refine zce rfl ?_) | ((with_reducible refine zcy ?_); refine zao rfl ?_) | ((with_reducible refine zcz ?_); refine zan rfl ?_) | ((with_reducible refine zda ?_); first | refine zbc rfl rfl (by omega) ?_ | refine zbd rfl rfl (by omega) ?_ | refine zbe rfl rfl (by omega) ?_ | refine zbf rfl rfl (by omega) ?_ | refine zbg rfl rfl (by omega) ?_ | refine zbh rfl rfl (by omega) ?_ | refine zbk rfl rfl (by omega) ?_ | refine zbl rfl rfl (by omega) ?_ | refine zbm rfl rfl (by omega) ?_ | refine zbn rfl rfl (by omega) ?_ | refine zau rfl rfl (by omega) ?_ | refine zav rfl rfl (by omega) ?_ | refine zbo rfl rfl ?_ | refine zbp rfl rfl ?_ | refine zbq rfl rfl ?_ | refine zbs rfl rfl ?_ | refine zbt rfl rfl ?_ | refine zaz rfl rfl ?_ | refine zbb rfl rfl ?_ | refine zba rfl rfl ?_) | ((with_reducible refine zdc ?_); first | refine zbu rfl ?_ | refine zbv rfl ?_ | refine zbw rfl rfl rfl ?_) | ((with_reducible refine zdd ?_); first | refine zae 0 rfl rfl rfl rfl rfl rfl rfl ?_ | refine zae 1 rfl rfl rfl rfl rfl rfl rfl ?_ | refine zae 2 rfl rfl rfl rfl rfl rfl rfl ?_ | refine zae 3 rfl rfl rfl rfl rfl rfl rfl ?_ | refine zae 4 rfl rfl rfl rfl rfl rfl rfl ?_ | refine zae 5 rfl rfl rfl rfl rfl rfl rfl ?_) | ((with_reducible refine zdf ?_); first | refine zas rfl rfl (by omega) ?_ | refine zat rfl rfl (by omega) ?_) | ((with_reducible refine zdh ?_); refine zar (fun nb => ?_)))
  all_goals refine zch ?_
  all_goals repeat (refine zck ?_)
  repeat (first | refine zck ?_ | refine zcl ?_ | refine zcm ?_ | refine zcn ?_)
  first | refine zcp (by kernel_rfl) ?_ | refine zcq PP_mixed (by kernel_rfl) (by kernel_rfl) ?_
  repeat' (refine zap rfl ?_; first | ((with_reducible refine zct ?_); first | refine zaj rfl ?_ | refine zak rfl ?_ | refine zal rfl ?_ | refine zam rfl rfl (fun _ => ?_) (fun _ => ?_)) | ((with_reducible refine zcu ?_); refine zan rfl ?_) | ((with_reducible refine zcv ?_); refine zan rfl ?_) | ((with_reducible refine zcw ?_); first | refine zaa 0 rfl rfl rfl ?_ | refine zaa 1 rfl rfl rfl ?_ | refine zaa 2 rfl rfl rfl ?_ | refine zaa 3 rfl rfl rfl ?_ | refine zaa 4 rfl rfl rfl ?_ | refine zaa 5 rfl rfl rfl ?_ | refine zab 0 rfl rfl rfl ?_ | refine zab 1 rfl rfl rfl ?_ | refine zab 2 rfl rfl rfl ?_ | refine zab 3 rfl rfl rfl ?_ | refine zab 4 rfl rfl rfl ?_ | refine zab 5 rfl rfl rfl ?_) | ((with_reducible refine zcx ?_); refine zce rfl ?_) | ((with_reducible refine zcy ?_); refine zao rfl ?_) | ((with_reducible refine zcz ?_); refine zan rfl ?_) | ((with_reducible refine zda ?_); first | refine zbc rfl rfl (by omega) ?_ | refine zbd rfl rfl (by omega) ?_ | refine zbe rfl rfl (by omega) ?_ | refine zbf rfl rfl (by omega) ?_ | refine zbg rfl rfl (by omega) ?_ | refine zbh rfl rfl (by omega) ?_ | refine zbk rfl rfl (by omega) ?_ | refine zbl rfl rfl (by omega) ?_ | refine zbm rfl rfl (by omega) ?_ | refine zbn rfl rfl (by omega) ?_ | refine zau rfl rfl (by omega) ?_ | refine zav rfl rfl (by omega) ?_ | refine zbo rfl rfl ?_ | refine zbp rfl rfl ?_ | refine zbq rfl rfl ?_ | refine zbs rfl rfl ?_ | refine zbt rfl rfl ?_ | refine zaz rfl rfl ?_ | refine zbb rfl rfl ?_ | refine zba rfl rfl ?_) | ((with_reducible refine zdc ?_); first | refine zbu rfl ?_ | refine zbv rfl ?_ | refine zbw rfl rfl rfl ?_) | ((with_reducible refine zdd ?_); first | refine zae 0 rfl rfl rfl rfl rfl rfl rfl ?_ | refine zae 1 rfl rfl rfl rfl rfl rfl rfl ?_ | refine zae 2 rfl rfl rfl rfl rfl rfl rfl ?_ | refine zae 3 rfl rfl rfl rfl rfl rfl rfl ?_ | refine zae 4 rfl rfl rfl rfl rfl rfl rfl ?_ | refine zae 5 rfl rfl rfl rfl rfl rfl rfl ?_) | ((with_reducible refine zdf ?_); first | refine zas rfl rfl (by omega) ?_ | refine zat rfl rfl (by omega) ?_) | ((with_reducible refine zdh ?_); refine zar (fun nb => ?_)))
  all_goals refine zch ?_
  all_goals repeat (refine zck ?_)
  refine run_slots [(1, .slice a l.length cap), (5, ptr b1), (7, spP p), (8, .int .i64 0), (9, .int .i64 0)] ⟨rfl, rfl, rfl, rfl, rfl, trivial⟩ (fun junk => ?_)
  refine run_join (S := Nat × Nat) (fun st => [(1, .slice a l.length cap), (5, ptr b1), (7, spP p), (8, .int .i64 (st.1 : Int))]) (fun st Γ => Γ = [ArrA p K (l.take st.1) st.2] ∧ st.1 ≤ l.length ∧ 700 ≤ st.2) ?_ ?_
  · refine zcl ?_
    refine run_loop (S := Nat) (fun k => [(1, .slice a l.length cap), (5, ptr b1), (7, spP p), (8, .int .i64 (k : Int)), (9, .int .i64 (k : Int))])
      (fun k Γ => Γ = [ArrA p K (l.take k) (1000 - k)] ∧ k ≤ l.length) (fun k => l.length - k) 0 ⟨rfl, rfl, rfl, rfl, rfl, trivial⟩ ⟨by simp, Nat.zero_le _⟩ ?_
    rintro k Γ junk ⟨rfl, hk⟩
    by_cases hlt : k < l.length
    · have hx : l[k]? = some l[k] := List.getElem?_eq_getElem hlt
      generalize l[k] = x at hx
      obtain ⟨b, off, c, TT, fr, rfl, hh, hc⟩ := hmem.resolve_left (by intro e; subst e; simp at hlt)
      have hcx := inSl_rd ((hc k x hx).2 0 _ rfl)
      have hlk : (l.take k).length = k := by simp; omega
      have hsn : l.take k ++ [x] = l.take (k + 1) := by rw [List.take_add_one, hx]; rfl
      by_cases hT : (T (k + 1) : Int) ≤ K
      · have hP := pushA w0 hw p hK (l.take k) (1000 - (k + 1)) x (by rw [hlk]; exact hT)
        rw [hlk, hsn, show 1000 - (k + 1) + 1 = 1000 - k by omega] at hP
        repeat' (first | refine zck ?_ | refine zcp (by kernel_rfl) ?_ | refine zcq PP_mixed (by kernel_rfl) (by kernel_rfl) ?_ | refine zcm ?_ | refine zcl ?_ | refine zcn ?_ | refine zco ?_ | refine zcs rfl ?_ | (refine zap rfl ?_; first | refine zac rfl hh (hcx _ (by omega)) ?_ | ((with_reducible refine zct ?_); first | refine zaj rfl ?_ | refine zak rfl ?_ | refine zal rfl ?_ | refine zam rfl rfl (fun _ => ?_) (fun _ => ?_)) | ((with_reducible refine zcu ?_); refine zan rfl ?_) | ((with_reducible refine zcv ?_); refine zan rfl ?_) | ((with_reducible refine zcw ?_); first | refine zaa 0 rfl rfl rfl ?_ | refine zaa 1 rfl rfl rfl ?_ | refine zaa 2 rfl rfl rfl ?_ | refine zaa 3 rfl rfl rfl ?_ | refine zaa 4 rfl rfl rfl ?_ | refine zaa 5 rfl rfl rfl ?_ | refine zab 0 rfl rfl rfl ?_ | refine zab 1 rfl rfl rfl ?_ | refine zab 2 rfl rfl rfl ?_ | refine zab 3 rfl rfl rfl ?_ | refine zab 4 rfl rfl rfl ?_ | refine zab 5 rfl rfl rfl ?_) | ((with_reducible refine zcx ?_); first | refine zah [0] hP rfl rfl rfl sub_nil rfl ?_ | refine zce rfl ?_) | ((with_reducible refine zcy ?_); refine zao rfl ?_) | ((with_reducible refine zcz ?_); refine zan rfl ?_) | ((with_reducible refine zda ?_); first | refine zbc rfl rfl (by omega) ?_ | refine zbd rfl rfl (by omega) ?_ | refine zbe rfl rfl (by omega) ?_ | refine zbf rfl rfl (by omega) ?_ | refine zbg rfl rfl (by omega) ?_ | refine zbh rfl rfl (by omega) ?_ | refine zbk rfl rfl (by omega) ?_ | refine zbl rfl rfl (by omega) ?_ | refine zbm rfl rfl (by omega) ?_ | refine zbn rfl rfl (by omega) ?_ | refine zau rfl rfl (by omega) ?_ | refine zav rfl rfl (by omega) ?_ | refine zbo rfl rfl ?_ | refine zbp rfl rfl ?_ | refine zbq rfl rfl ?_ | refine zbs rfl rfl ?_ | refine zbt rfl rfl ?_ | refine zaz rfl rfl ?_ | refine zbb rfl rfl ?_ | refine zba rfl rfl ?_) | ((with_reducible refine zdc ?_); first | refine zbu rfl ?_ | refine zbv rfl ?_ | refine zbw rfl rfl rfl ?_) | ((with_reducible refine zdd ?_); first | refine zae 0 rfl rfl rfl rfl rfl rfl rfl ?_ | refine zae 1 rfl rfl rfl rfl rfl rfl rfl ?_ | refine zae 2 rfl rfl rfl rfl rfl rfl rfl ?_ | refine zae 3 rfl rfl rfl rfl rfl rfl rfl ?_ | refine zae 4 rfl rfl rfl rfl rfl rfl rfl ?_ | refine zae 5 rfl rfl rfl rfl rfl rfl rfl ?_) | ((with_reducible refine zdf ?_); first | refine zas rfl rfl (by omega) ?_ | refine zat rfl rfl (by omega) ?_) | ((with_reducible refine zdh ?_); refine zar (fun nb => ?_))) | refine zch ?_ | refine zci rfl ?_ | refine zcj rfl ?_)
        refine cut_end ⟨rfl, k + 1, ⟨rfl, rfl, rfl, int_eq (by omega), int_eq (by omega), trivial⟩, ⟨rfl, hlt⟩, by omega⟩
      · have hP := pushA_full w0 hw p hK (l.take k) (1000 - (k + 1)) x (by rw [hlk]; omega)
        rw [show 1000 - (k + 1) + 1 = 1000 - k by omega] at hP
        repeat' (first | refine zck ?_ | refine zcp (by kernel_rfl) ?_ | refine zcq PP_mixed (by kernel_rfl) (by kernel_rfl) ?_ | refine zcm ?_ | refine zcl ?_ | refine zcn ?_ | refine zco ?_ | refine zcs rfl ?_ | (refine zap rfl ?_; first | refine zac rfl hh (hcx _ (by omega)) ?_ | ((with_reducible refine zct ?_); first | refine zaj rfl ?_ | refine zak rfl ?_ | refine zal rfl ?_ | refine zam rfl rfl (fun _ => ?_) (fun _ => ?_)) | ((with_reducible refine zcu ?_); refine zan rfl ?_) | ((with_reducible refine zcv ?_); refine zan rfl ?_) | ((with_reducible refine zcw ?_); first | refine zaa 0 rfl rfl rfl ?_ | refine zaa 1 rfl rfl rfl ?_ | refine zaa 2 rfl rfl rfl ?_ | refine zaa 3 rfl rfl rfl ?_ | refine zaa 4 rfl rfl rfl ?_ | refine zaa 5 rfl rfl rfl ?_ | refine zab 0 rfl rfl rfl ?_ | refine zab 1 rfl rfl rfl ?_ | refine zab 2 rfl rfl rfl ?_ | refine zab 3 rfl rfl rfl ?_ | refine zab 4 rfl rfl rfl ?_ | refine zab 5 rfl rfl rfl ?_) | ((with_reducible refine zcx ?_); first | refine zah [0] hP rfl rfl rfl sub_nil rfl ?_ | refine zce rfl ?_) | ((with_reducible refine zcy ?_); refine zao rfl ?_) | ((with_reducible refine zcz ?_); refine zan rfl ?_) | ((with_reducible refine zda ?_); first | refine zbc rfl rfl (by omega) ?_ | refine zbd rfl rfl (by omega) ?_ | refine zbe rfl rfl (by omega) ?_ | refine zbf rfl rfl (by omega) ?_ | refine zbg rfl rfl (by omega) ?_ | refine zbh rfl rfl (by omega) ?_ | refine zbk rfl rfl (by omega) ?_ | refine zbl rfl rfl (by omega) ?_ | refine zbm rfl rfl (by omega) ?_ | refine zbn rfl rfl (by omega) ?_ | refine zau rfl rfl (by omega) ?_ | refine zav rfl rfl (by omega) ?_ | refine zbo rfl rfl ?_ | refine zbp rfl rfl ?_ | refine zbq rfl rfl ?_ | refine zbs rfl rfl ?_ | refine zbt rfl rfl ?_ | refine zaz rfl rfl ?_ | refine zbb rfl rfl ?_ | refine zba rfl rfl ?_) | ((with_reducible refine zdc ?_); first | refine zbu rfl ?_ | refine zbv rfl ?_ | refine zbw rfl rfl rfl ?_) | ((with_reducible refine zdd ?_); first | refine zae 0 rfl rfl rfl rfl rfl rfl rfl ?_ | refine zae 1 rfl rfl rfl rfl rfl rfl rfl ?_ | refine zae 2 rfl rfl rfl rfl rfl rfl rfl ?_ | refine zae 3 rfl rfl rfl rfl rfl rfl rfl ?_ | refine zae 4 rfl rfl rfl rfl rfl rfl rfl ?_ | refine zae 5 rfl rfl rfl rfl rfl rfl rfl ?_) | ((with_reducible refine zdf ?_); first | refine zas rfl rfl (by omega) ?_ | refine zat rfl rfl (by omega) ?_) | ((with_reducible refine zdh ?_); refine zar (fun nb => ?_))) | refine zch ?_ | refine zci rfl ?_ | refine zcj rfl ?_)
        refine cut_exit rfl rfl ?_
        refine cut_end ⟨rfl, (k, 1000 - (k + 1)), ⟨rfl, rfl, rfl, rfl, trivial⟩, rfl, hk, by dsimp only; omega⟩
    · repeat' (first | refine zck ?_ | refine zcp (by kernel_rfl) ?_ | refine zcq PP_mixed (by kernel_rfl) (by kernel_rfl) ?_ | refine zcm ?_ | refine zcl ?_ | refine zcn ?_ | refine zco ?_ | refine zcs rfl ?_ | (refine zap rfl ?_; first | ((with_reducible refine zct ?_); first | refine zaj rfl ?_ | refine zak rfl ?_ | refine zal rfl ?_ | refine zam rfl rfl (fun _ => ?_) (fun _ => ?_)) | ((with_reducible refine zcu ?_); refine zan rfl ?_) | ((with_reducible refine zcv ?_); refine zan rfl ?_) | ((with_reducible refine zcw ?_); first | refine zaa 0 rfl rfl rfl ?_ | refine zaa 1 rfl rfl rfl ?_ | refine zaa 2 rfl rfl rfl ?_ | refine zaa 3 rfl rfl rfl ?_ | refine zaa 4 rfl rfl rfl ?_ | refine zaa 5 rfl rfl rfl ?_ | refine zab 0 rfl rfl rfl ?_ | refine zab 1 rfl rfl rfl ?_ | refine zab 2 rfl rfl rfl ?_ | refine zab 3 rfl rfl rfl ?_ | refine zab 4 rfl rfl rfl ?_ | refine zab 5 rfl rfl rfl ?_) | ((with_reducible refine zcx ?_); refine zce rfl ?_) | ((with_reducible refine zcy ?_); refine zao rfl ?_) | ((with_reducible refine zcz ?_); refine zan rfl ?_) | ((with_reducible refine zda ?_); first | refine zbc rfl rfl (by omega) ?_ | refine zbd rfl rfl (by omega) ?_ | refine zbe rfl rfl (by omega) ?_ | refine zbf rfl rfl (by omega) ?_ | refine zbg rfl rfl (by omega) ?_ | refine zbh rfl rfl (by omega) ?_ | refine zbk rfl rfl (by omega) ?_ | refine zbl rfl rfl (by omega) ?_ | refine zbm rfl rfl (by omega) ?_ | refine zbn rfl rfl (by omega) ?_ | refine zau rfl rfl (by omega) ?_ | refine zav rfl rfl (by omega) ?_ | refine zbo rfl rfl ?_ | refine zbp rfl rfl ?_ | refine zbq rfl rfl ?_ | refine zbs rfl rfl ?_ | refine zbt rfl rfl ?_ | refine zaz rfl rfl ?_ | refine zbb rfl rfl ?_ | refine zba rfl rfl ?_) | ((with_reducible refine zdc ?_); first | refine zbu rfl ?_ | refine zbv rfl ?_ | refine zbw rfl rfl rfl ?_) | ((with_reducible refine zdd ?_); first | refine zae 0 rfl rfl rfl rfl rfl rfl rfl ?_ | refine zae 1 rfl rfl rfl rfl rfl rfl rfl ?_ | refine zae 2 rfl rfl rfl rfl rfl rfl rfl ?_ | refine zae 3 rfl rfl rfl rfl rfl rfl rfl ?_ | refine zae 4 rfl rfl rfl rfl rfl rfl rfl ?_ | refine zae 5 rfl rfl rfl rfl rfl rfl rfl ?_) | ((with_reducible refine zdf ?_); first | refine zas rfl rfl (by omega) ?_ | refine zat rfl rfl (by omega) ?_) | ((with_reducible refine zdh ?_); refine zar (fun nb => ?_))) | refine zch ?_ | refine zci rfl ?_ | refine zcj rfl ?_)
      refine cut_exit rfl rfl ?_
      refine cut_end ⟨rfl, (k, 1000 - k), ⟨rfl, rfl, rfl, rfl, trivial⟩, rfl, hk, by dsimp only; omega⟩
  rintro ⟨n, c⟩ Γ junk ⟨rfl, hn, hc⟩
  dsimp only at hn hc ⊢
  repeat (first | refine zck ?_ | refine zcl ?_ | refine zcm ?_ | refine zcn ?_)
  first | refine zcp (by kernel_rfl) ?_ | refine zcq PP_mixed (by kernel_rfl) (by kernel_rfl) ?_
  repeat' (refine zap rfl ?_; first | ((with_reducible refine zct ?_); first | refine zaj rfl ?_ | refine zak rfl ?_ | refine zal rfl ?_ | refine zam rfl rfl (fun _ => ?_) (fun _ => ?_)) | ((with_reducible refine zcu ?_); refine zan rfl ?_) | ((with_reducible refine zcv ?_); refine zan rfl ?_) | ((with_reducible refine zcw ?_); first | refine zaa 0 rfl rfl rfl ?_ | refine zaa 1 rfl rfl rfl ?_ | refine zaa 2 rfl rfl rfl ?_ | refine zaa 3 rfl rfl rfl ?_ | refine zaa 4 rfl rfl rfl ?_ | refine zaa 5 rfl rfl rfl ?_ | refine zab 0 rfl rfl rfl ?_ | refine zab 1 rfl rfl rfl ?_ | refine zab 2 rfl rfl rfl ?_ | refine zab 3 rfl rfl rfl ?_ | refine zab 4 rfl rfl rfl ?_ | refine zab 5 rfl rfl rfl ?_) | ((with_reducible refine zcx ?_); refine zce rfl ?_) | ((with_reducible refine zcy ?_); refine zao rfl ?_) | ((with_reducible refine zcz ?_); refine zan rfl ?_) | ((with_reducible refine zda ?_); first | refine zbc rfl rfl (by omega) ?_ | refine zbd rfl rfl (by omega) ?_ | refine zbe rfl rfl (by omega) ?_ | refine zbf rfl rfl (by omega) ?_ | refine zbg rfl rfl (by omega) ?_ | refine zbh rfl rfl (by omega) ?_ | refine zbk rfl rfl (by omega) ?_ | refine zbl rfl rfl (by omega) ?_ | refine zbm rfl rfl (by omega) ?_ | refine zbn rfl rfl (by omega) ?_ | refine zau rfl rfl (by omega) ?_ | refine zav rfl rfl (by omega) ?_ | refine zbo rfl rfl ?_ | refine zbp rfl rfl ?_ | refine zbq rfl rfl ?_ | refine zbs rfl rfl ?_ | refine zbt rfl rfl ?_ | refine zaz rfl rfl ?_ | refine zbb rfl rfl ?_ | refine zba rfl rfl ?_) | ((with_reducible refine zdc ?_); first | refine zbu rfl ?_ | refine zbv rfl ?_ | refine zbw rfl rfl rfl ?_) | ((with_reducible refine zdd ?_); first | refine zae 0 rfl rfl rfl rfl rfl rfl rfl ?_ | refine zae 1 rfl rfl rfl rfl rfl rfl rfl ?_ | refine zae 2 rfl rfl rfl rfl rfl rfl rfl ?_ | refine zae 3 rfl rfl rfl rfl rfl rfl rfl ?_ | refine zae 4 rfl rfl rfl rfl rfl rfl rfl ?_ | refine zae 5 rfl rfl rfl rfl rfl rfl rfl ?_) | ((with_reducible refine zdf ?_); first | refine zas rfl rfl (by omega) ?_ | refine zat rfl rfl (by omega) ?_) | ((with_reducible refine zdh ?_); refine zar (fun nb => ?_)))
  all_goals refine zch ?_
  all_goals repeat (refine zck ?_)
  refine run_slots [(1, .slice a l.length cap), (5, ptr b1), (7, spP p), (12, .int .i64 ((n : Int) - 1))] ⟨rfl, rfl, rfl, rfl, trivial⟩ (fun junk => ?_)
  refine zcl ?_
  refine run_loop (S := Nat × Nat) (fun st => [(1, .slice a l.length cap), (5, ptr b1), (7, spP p), (12, .int .i64 ((st.1 : Int) - 1))]) (fun st Γ => Γ = [ArrA p K (l.take st.1) st.2] ∧ st.1 ≤ l.length ∧ 300 + st.1 ≤ st.2)
    (fun st => st.1) (n, c) ⟨rfl, rfl, rfl, rfl, trivial⟩ ⟨rfl, hn, by dsimp only; omega⟩ ?_
  rintro ⟨k, c⟩ Γ junk ⟨rfl, hk, hc⟩
  dsimp only at hk hc ⊢
  match k, hk, hc with
  | 0, hk, hc =>
    repeat' (first | refine zck ?_ | refine zcp (by kernel_rfl) ?_ | refine zcq PP_mixed (by kernel_rfl) (by kernel_rfl) ?_ | refine zcm ?_ | refine zcl ?_ | refine zcn ?_ | refine zco ?_ | refine zcs rfl ?_ | (refine zap rfl ?_; first | ((with_reducible refine zct ?_); first | refine zaj rfl ?_ | refine zak rfl ?_ | refine zal rfl ?_ | refine zam rfl rfl (fun _ => ?_) (fun _ => ?_)) | ((with_reducible refine zcu ?_); refine zan rfl ?_) | ((with_reducible refine zcv ?_); refine zan rfl ?_) | ((with_reducible refine zcw ?_); first | refine zaa 0 rfl rfl rfl ?_ | refine zaa 1 rfl rfl rfl ?_ | refine zaa 2 rfl rfl rfl ?_ | refine zaa 3 rfl rfl rfl ?_ | refine zaa 4 rfl rfl rfl ?_ | refine zaa 5 rfl rfl rfl ?_ | refine zab 0 rfl rfl rfl ?_ | refine zab 1 rfl rfl rfl ?_ | refine zab 2 rfl rfl rfl ?_ | refine zab 3 rfl rfl rfl ?_ | refine zab 4 rfl rfl rfl ?_ | refine zab 5 rfl rfl rfl ?_) | ((with_reducible refine zcx ?_); refine zce rfl ?_) | ((with_reducible refine zcy ?_); refine zao rfl ?_) | ((with_reducible refine zcz ?_); refine zan rfl ?_) | ((with_reducible refine zda ?_); first | refine zbc rfl rfl (by omega) ?_ | refine zbd rfl rfl (by omega) ?_ | refine zbe rfl rfl (by omega) ?_ | refine zbf rfl rfl (by omega) ?_ | refine zbg rfl rfl (by omega) ?_ | refine zbh rfl rfl (by omega) ?_ | refine zbk rfl rfl (by omega) ?_ | refine zbl rfl rfl (by omega) ?_ | refine zbm rfl rfl (by omega) ?_ | refine zbn rfl rfl (by omega) ?_ | refine zau rfl rfl (by omega) ?_ | refine zav rfl rfl (by omega) ?_ | refine zbo rfl rfl ?_ | refine zbp rfl rfl ?_ | refine zbq rfl rfl ?_ | refine zbs rfl rfl ?_ | refine zbt rfl rfl ?_ | refine zaz rfl rfl ?_ | refine zbb rfl rfl ?_ | refine zba rfl rfl ?_) | ((with_reducible refine zdc ?_); first | refine zbu rfl ?_ | refine zbv rfl ?_ | refine zbw rfl rfl rfl ?_) | ((with_reducible refine zdd ?_); first | refine zae 0 rfl rfl rfl rfl rfl rfl rfl ?_ | refine zae 1 rfl rfl rfl rfl rfl rfl rfl ?_ | refine zae 2 rfl rfl rfl rfl rfl rfl rfl ?_ | refine zae 3 rfl rfl rfl rfl rfl rfl rfl ?_ | refine zae 4 rfl rfl rfl rfl rfl rfl rfl ?_ | refine zae 5 rfl rfl rfl rfl rfl rfl rfl ?_) | ((with_reducible refine zdf ?_); first | refine zas rfl rfl (by omega) ?_ | refine zat rfl rfl (by omega) ?_) | ((with_reducible refine zdh ?_); refine zar (fun nb => ?_))) | refine zch ?_ | refine zci rfl ?_ | refine zcj rfl ?_)
    refine cut_exit rfl rfl ?_
    repeat (first | refine zck ?_ | refine zcl ?_ | refine zcm ?_ | refine zcn ?_ | refine zco ?_)
    have hP := popA_none w0 hw p hK (c - 1)
    rw [show c - 1 + 1 = c by omega] at hP
    have hL : FnE PP w0 [] 13 [poolV (a0 K).pool, spP p] [ArrA p K [] (c - 1)] (.int .i64 K) [ArrA p K [] (c - 1)] := by
      have h := leftA w0 hw p hK [] (c - 1)
      rw [show ((T ([] : List Int).length : Nat) : Int) = 0 from rfl, Int.sub_zero] at h; exact h
    have hLn : FnE PP w0 [] 14 [arrV (a0 K), spP p] [ArrA p K [] (c - 1)] (.int .i64 0) [ArrA p K [] (c - 1)] := lenA w0 hw p hK [] (c - 1)
    rw [show l.take 0 = [] from rfl]
    repeat (first | refine zck ?_ | refine zcl ?_ | refine zcm ?_ | refine zcn ?_)
    first | refine zcp (by kernel_rfl) ?_ | refine zcq PP_mixed (by kernel_rfl) (by kernel_rfl) ?_
    repeat' (refine zap rfl ?_; first | ((with_reducible refine zct ?_); first | refine zaj rfl ?_ | refine zak rfl ?_ | refine zal rfl ?_ | refine zam rfl rfl (fun _ => ?_) (fun _ => ?_)) | ((with_reducible refine zcu ?_); refine zan rfl ?_) | ((with_reducible refine zcv ?_); refine zan rfl ?_) | ((with_reducible refine zcw ?_); first | refine zaa 0 rfl rfl rfl ?_ | refine zaa 1 rfl rfl rfl ?_ | refine zaa 2 rfl rfl rfl ?_ | refine zaa 3 rfl rfl rfl ?_ | refine zaa 4 rfl rfl rfl ?_ | refine zaa 5 rfl rfl rfl ?_ | refine zab 0 rfl rfl rfl ?_ | refine zab 1 rfl rfl rfl ?_ | refine zab 2 rfl rfl rfl ?_ | refine zab 3 rfl rfl rfl ?_ | refine zab 4 rfl rfl rfl ?_ | refine zab 5 rfl rfl rfl ?_) | ((with_reducible refine zcx ?_); first | refine zah [0] hP rfl rfl rfl sub_nil rfl ?_ | refine zce rfl ?_) | ((with_reducible refine zcy ?_); refine zao rfl ?_) | ((with_reducible refine zcz ?_); refine zan rfl ?_) | ((with_reducible refine zda ?_); first | refine zbc rfl rfl (by omega) ?_ | refine zbd rfl rfl (by omega) ?_ | refine zbe rfl rfl (by omega) ?_ | refine zbf rfl rfl (by omega) ?_ | refine zbg rfl rfl (by omega) ?_ | refine zbh rfl rfl (by omega) ?_ | refine zbk rfl rfl (by omega) ?_ | refine zbl rfl rfl (by omega) ?_ | refine zbm rfl rfl (by omega) ?_ | refine zbn rfl rfl (by omega) ?_ | refine zau rfl rfl (by omega) ?_ | refine zav rfl rfl (by omega) ?_ | refine zbo rfl rfl ?_ | refine zbp rfl rfl ?_ | refine zbq rfl rfl ?_ | refine zbs rfl rfl ?_ | refine zbt rfl rfl ?_ | refine zaz rfl rfl ?_ | refine zbb rfl rfl ?_ | refine zba rfl rfl ?_) | ((with_reducible refine zdc ?_); first | refine zbu rfl ?_ | refine zbv rfl ?_ | refine zbw rfl rfl rfl ?_) | ((with_reducible refine zdd ?_); first | refine zae 0 rfl rfl rfl rfl rfl rfl rfl ?_ | refine zae 1 rfl rfl rfl rfl rfl rfl rfl ?_ | refine zae 2 rfl rfl rfl rfl rfl rfl rfl ?_ | refine zae 3 rfl rfl rfl rfl rfl rfl rfl ?_ | refine zae 4 rfl rfl rfl rfl rfl rfl rfl ?_ | refine zae 5 rfl rfl rfl rfl rfl rfl rfl ?_) | ((with_reducible refine zdf ?_); first | refine zas rfl rfl (by omega) ?_ | refine zat rfl rfl (by omega) ?_) | ((with_reducible refine zdh ?_); refine zar (fun nb => ?_)))
    all_goals refine zch ?_
    all_goals repeat (first | refine zck ?_ | refine zcl ?_ | refine zcm ?_ | refine zcn ?_)
    repeat (first | refine zck ?_ | refine zcl ?_ | refine zcm ?_ | refine zcn ?_)
    first | refine zcp (by kernel_rfl) ?_ | refine zcq PP_mixed (by kernel_rfl) (by kernel_rfl) ?_
    repeat' (refine zap rfl ?_; first | ((with_reducible refine zct ?_); first | refine zaj rfl ?_ | refine zak rfl ?_ | refine zal rfl ?_ | refine zam rfl rfl (fun _ => ?_) (fun _ => ?_)) | ((with_reducible refine zcu ?_); refine zan rfl ?_) | ((with_reducible refine zcv ?_); refine zan rfl ?_) | ((with_reducible refine zcw ?_); first | refine zaa 0 rfl rfl rfl ?_ | refine zaa 1 rfl rfl rfl ?_ | refine zaa 2 rfl rfl rfl ?_ | refine zaa 3 rfl rfl rfl ?_ | refine zaa 4 rfl rfl rfl ?_ | refine zaa 5 rfl rfl rfl ?_ | refine zab 0 rfl rfl rfl ?_ | refine zab 1 rfl rfl rfl ?_ | refine zab 2 rfl rfl rfl ?_ | refine zab 3 rfl rfl rfl ?_ | refine zab 4 rfl rfl rfl ?_ | refine zab 5 rfl rfl rfl ?_) | ((with_reducible refine zcx ?_); first | refine zah [0] hL rfl rfl rfl sub_nil rfl ?_ | refine zah [0] hLn rfl rfl rfl sub_nil rfl ?_ | refine zah [] (awake_spec w0 hw) rfl rfl rfl sub_nil rfl ?_ | refine zce rfl ?_) | ((with_reducible refine zcy ?_); refine zao rfl ?_) | ((with_reducible refine zcz ?_); refine zan rfl ?_) | ((with_reducible refine zda ?_); first | refine zbc rfl rfl (by omega) ?_ | refine zbd rfl rfl (by omega) ?_ | refine zbe rfl rfl (by omega) ?_ | refine zbf rfl rfl (by omega) ?_ | refine zbg rfl rfl (by omega) ?_ | refine zbh rfl rfl (by omega) ?_ | refine zbk rfl rfl (by omega) ?_ | refine zbl rfl rfl (by omega) ?_ | refine zbm rfl rfl (by omega) ?_ | refine zbn rfl rfl (by omega) ?_ | refine zau rfl rfl (by omega) ?_ | refine zav rfl rfl (by omega) ?_ | refine zbo rfl rfl ?_ | refine zbp rfl rfl ?_ | refine zbq rfl rfl ?_ | refine zbs rfl rfl ?_ | refine zbt rfl rfl ?_ | refine zaz rfl rfl ?_ | refine zbb rfl rfl ?_ | refine zba rfl rfl ?_) | ((with_reducible refine zdc ?_); first | refine zbu rfl ?_ | refine zbv rfl ?_ | refine zbw rfl rfl rfl ?_) | ((with_reducible refine zdd ?_); first | refine zae 0 rfl rfl rfl rfl rfl rfl rfl ?_ | refine zae 1 rfl rfl rfl rfl rfl rfl rfl ?_ | refine zae 2 rfl rfl rfl rfl rfl rfl rfl ?_ | refine zae 3 rfl rfl rfl rfl rfl rfl rfl ?_ | refine zae 4 rfl rfl rfl rfl rfl rfl rfl ?_ | refine zae 5 rfl rfl rfl rfl rfl rfl rfl ?_) | ((with_reducible refine zdf ?_); first | refine zas rfl rfl (by omega) ?_ | refine zat rfl rfl (by omega) ?_) | ((with_reducible refine zdh ?_); refine zar (fun nb => ?_)))
    all_goals refine zch ?_
    all_goals repeat (first | refine zck ?_ | refine zcl ?_ | refine zcm ?_ | refine zcn ?_)
    refine run_ret (leaves_nil (ends_take [] rfl (ends_one rfl rfl ⟨rfl, rfl, rfl⟩)))
  | k + 1, hk, hc =>
    have hlt : k < l.length := by omega
    have hx : l[k]? = some l[k] := List.getElem?_eq_getElem hlt
    generalize l[k] = x at hx
    obtain ⟨b, off, cc, TT, fr, rfl, hh, hcc⟩ := hmem.resolve_left (by intro e; subst e; simp at hlt)
    have hcx := inSl_rd ((hcc k x hx).2 0 _ rfl)
    have hsn : l.take k ++ [x] = l.take (k + 1) := by rw [List.take_add_one, hx]; rfl
    have hP := popA w0 hw p hK (l.take k) (c - 1) x
    rw [hsn, show c - 1 + 1 = c by omega] at hP
    repeat' (first | refine zck ?_ | refine zcp (by kernel_rfl) ?_ | refine zcq PP_mixed (by kernel_rfl) (by kernel_rfl) ?_ | refine zcm ?_ | refine zcl ?_ | refine zcn ?_ | refine zco ?_ | refine zcs rfl ?_ | (refine zap rfl ?_; first | refine zac rfl hh (hcx _ (by omega)) ?_ | ((with_reducible refine zct ?_); first | refine zaj rfl ?_ | refine zak rfl ?_ | refine zal rfl ?_ | refine zam rfl rfl (fun _ => ?_) (fun _ => ?_)) | ((with_reducible refine zcu ?_); refine zan rfl ?_) | ((with_reducible refine zcv ?_); refine zan rfl ?_) | ((with_reducible refine zcw ?_); first | refine zaa 0 rfl rfl rfl ?_ | refine zaa 1 rfl rfl rfl ?_ | refine zaa 2 rfl rfl rfl ?_ | refine zaa 3 rfl rfl rfl ?_ | refine zaa 4 rfl rfl rfl ?_ | refine zaa 5 rfl rfl rfl ?_ | refine zab 0 rfl rfl rfl ?_ | refine zab 1 rfl rfl rfl ?_ | refine zab 2 rfl rfl rfl ?_ | refine zab 3 rfl rfl rfl ?_ | refine zab 4 rfl rfl rfl ?_ | refine zab 5 rfl rfl rfl ?_) | ((with_reducible refine zcx ?_); first | refine zah [0] hP rfl rfl rfl sub_nil rfl ?_ | refine zce rfl ?_) | ((with_reducible refine zcy ?_); refine zao rfl ?_) | ((with_reducible refine zcz ?_); refine zan rfl ?_) | ((with_reducible refine zda ?_); first | refine zbc rfl rfl (by omega) ?_ | refine zbd rfl rfl (by omega) ?_ | refine zbe rfl rfl (by omega) ?_ | refine zbf rfl rfl (by omega) ?_ | refine zbg rfl rfl (by omega) ?_ | refine zbh rfl rfl (by omega) ?_ | refine zbk rfl rfl (by omega) ?_ | refine zbl rfl rfl (by omega) ?_ | refine zbm rfl rfl (by omega) ?_ | refine zbn rfl rfl (by omega) ?_ | refine zau rfl rfl (by omega) ?_ | refine zav rfl rfl (by omega) ?_ | refine zbo rfl rfl ?_ | refine zbp rfl rfl ?_ | refine zbq rfl rfl ?_ | refine zbs rfl rfl ?_ | refine zbt rfl rfl ?_ | refine zaz rfl rfl ?_ | refine zbb rfl rfl ?_ | refine zba rfl rfl ?_) | ((with_reducible refine zdc ?_); first | refine zbu rfl ?_ | refine zbv rfl ?_ | refine zbw rfl rfl rfl ?_) | ((with_reducible refine zdd ?_); first | refine zae 0 rfl rfl rfl rfl rfl rfl rfl ?_ | refine zae 1 rfl rfl rfl rfl rfl rfl rfl ?_ | refine zae 2 rfl rfl rfl rfl rfl rfl rfl ?_ | refine zae 3 rfl rfl rfl rfl rfl rfl rfl ?_ | refine zae 4 rfl rfl rfl rfl rfl rfl rfl ?_ | refine zae 5 rfl rfl rfl rfl rfl rfl rfl ?_) | ((with_reducible refine zdf ?_); first | refine zas rfl rfl (by omega) ?_ | refine zat rfl rfl (by omega) ?_) | ((with_reducible refine zdh ?_); refine zar (fun nb => ?_))) | refine zch ?_ | refine zci rfl ?_ | refine zcj rfl ?_)
    refine cut_end ⟨rfl, (k, c - 1), ⟨rfl, rfl, rfl, int_eq (by dsimp only; omega), trivial⟩, ⟨rfl, by dsimp only; omega, by dsimp only; omega⟩, by dsimp only; omega⟩
end Go.Proofs.YtilnknokgflkjaaDoor

/- What every card of this seat shares. -/
namespace Go.Proofs.YtilnknokgflkjaaDoor
open Go.Vc Sim Go.ChangeShapes Go.WideShapes Go.RowKit
set_option maxRecDepth 100000
theorem cOwn : ownKnob Tryd.prog.godebug = none := by kernel_rfl
theorem cLaid : laidOutB Tryd.prog = true := by kernel_rfl
def nPow : String := Rows.arrayDrainsRow.named.headD ""
def lPow : List (String × DataW Unit) := [(nPow, Rows.laid_simulcast_array_powers)]
theorem gPow : Tryd.prog.globalNamed nPow = some 0 := by kernel_rfl
theorem tPow : (Tryd.prog.globals[0]?).map (·.type) = some 74 := by kernel_rfl
theorem laid_eq : (Rows.laid_simulcast_array_powers : DataW Unit) = Lib.tabData .i64 [1, 8, 64, 512, 4096] := rfl
theorem pow_ok {W : World} (h : laidMetH Tryd.prog lPow W) : PowOk W := by
  rw [MakeChecks.laidMetH_plain _ _ _ (by kernel_rfl), lPow, laid_eq] at h
  have hT := Lib.tabIs_of_head gPow tPow Tryd.underlying74 Tryd.underlying2 (by kernel_rfl) (by kernel_rfl) h
  unfold Lib.TabIs World.var? at hT
  rw [gPow] at hT
  simp only [Option.bind_some] at hT
  split at hT
  · rename_i cs T fr hc
    cases hT
    exact ⟨T, fr, hc⟩
  · cases hT
theorem door_met (os : Os) (args : Array Value) : laidMetH Tryd.prog lPow ((World.doorLaid Tryd.prog 400 os).forCall (fun _ _ => 0) ⟨#[], args, []⟩).memory :=
  laidMetH_of_parts3 (fuel := 8) (laidMet_of_run' 8 (by kernel_rfl) (by kernel_rfl)) (by kernel_rfl) (by kernel_rfl)
theorem calls_of {f : FuncId} {args : List Value} {W : World} (h : FnE PP W [] f args [] (.bool true) []) : Calls Tryd.prog f args.toArray W fun e W' => e = .returned (.bool true) ∧ Below W.heap.size W W' := by
  have := h.calls Heap.emp W (fun p hp => by cases hp) (st_start W)
  rw [PP_def] at this
  exact this.mono fun e W' ⟨v, Γ', he, ⟨hv, hΓ⟩, hst⟩ => ⟨by rw [he, hv], below_of_good hst.good⟩
end Go.Proofs.YtilnknokgflkjaaDoor

/- The walks of the reference: Nodes, Same, Set. -/
namespace Sim
def Rn : Nat → Nat → Nat
  | 0, _ => 0
  | f + 1, c => (c + 7) / 8 + if (c + 7) / 8 = 1 then 0 else Rn f ((c + 7) / 8)
set_option maxRecDepth 100000
theorem T_bd : ∀ n, n < 202 → T n ≤ 1000 := by decide
theorem Rn_T : ∀ n, n < 202 → 0 < n → Rn 3 n = T n := by decide
end Sim
namespace Go.Vc
theorem wr_ints : ∀ (l : List Int) (k : Nat) (x : Int), k < l.length → wr [Value.int .i64 x] k (intsV l) = some (intsV (l.set k x))
  | [], k, x, h => by simp at h
  | y :: l, 0, x, _ => rfl
  | y :: l, k + 1, x, h => by
    have ih := wr_ints l k x (by simpa using h)
    simp only [intsV, List.map_cons, wr, List.set_cons_succ] at ih ⊢
    rw [ih]
end Go.Vc
namespace Go.Proofs.YtilnknokgflkjaaDoor
open Go.Vc Sim
set_option maxHeartbeats 4000000
abbrev LA (v : Value) (l : List Int) : Asn := LstA 2 v l
theorem nodes_spec (w0 : World) (n : Nat) (hn : n < 202) (nI : Int) (hI : nI = n) : FnE PP w0 [] 37 [.int .i64 nI] [] (.int .i64 (T n)) [] := by
  subst hI
  refine fn_of_run en37 fn37 rfl rfl rfl ?_
  by_cases h0 : n = 0
  · subst h0
    repeat' (first | refine zck ?_ | refine zcp (by kernel_rfl) ?_ | refine zcq PP_mixed (by kernel_rfl) (by kernel_rfl) ?_ | refine zcm ?_ | refine zcl ?_ | refine zcn ?_ | refine zco ?_ | refine zcs rfl ?_ | (refine zap rfl ?_; first | ((with_reducible refine zcu ?_); refine zan rfl ?_) | ((with_reducible refine zcv ?_); refine zan rfl ?_) | ((with_reducible refine zda ?_); first | refine zbc rfl rfl (by omega) ?_ | refine zbd rfl rfl (by omega) ?_ | refine zau rfl rfl (by omega) ?_ | refine zbo rfl rfl ?_ | refine zax rfl rfl (by omega) ?_ | refine zaz rfl rfl ?_ | refine zbb rfl rfl ?_)) | refine zch ?_ | refine zci rfl ?_ | refine zcj rfl ?_)
    exact ret_tmp1 rfl ⟨rfl, rfl⟩
  · repeat (first | refine zck ?_ | refine zcl ?_ | refine zcm ?_ | refine zcn ?_)
    first | refine zcp (by kernel_rfl) ?_ | refine zcq PP_mixed (by kernel_rfl) (by kernel_rfl) ?_
    repeat' (refine zap rfl ?_; first | ((with_reducible refine zcu ?_); refine zan rfl ?_) | ((with_reducible refine zcv ?_); refine zan rfl ?_) | ((with_reducible refine zda ?_); first | refine zbc rfl rfl (by omega) ?_ | refine zbd rfl rfl (by omega) ?_ | refine zau rfl rfl (by omega) ?_ | refine zbo rfl rfl ?_ | refine zax rfl rfl (by omega) ?_ | refine zaz rfl rfl ?_ | refine zbb rfl rfl ?_))
    all_goals refine zch ?_
    all_goals repeat (first | refine zck ?_ | refine zcl ?_ | refine zcm ?_ | refine zcn ?_)
    repeat (first | refine zck ?_ | refine zcl ?_ | refine zcm ?_ | refine zcn ?_)
    first | refine zcp (by kernel_rfl) ?_ | refine zcq PP_mixed (by kernel_rfl) (by kernel_rfl) ?_
    repeat' (refine zap rfl ?_; first | ((with_reducible refine zcu ?_); refine zan rfl ?_) | ((with_reducible refine zcv ?_); refine zan rfl ?_) | ((with_reducible refine zda ?_); first | refine zbc rfl rfl (by omega) ?_ | refine zbd rfl rfl (by omega) ?_ | refine zau rfl rfl (by omega) ?_ | refine zbo rfl rfl ?_ | refine zax rfl rfl (by omega) ?_ | refine zaz rfl rfl ?_ | refine zbb rfl rfl ?_))
    all_goals refine zch ?_
    all_goals repeat (first | refine zck ?_ | refine zcl ?_ | refine zcm ?_ | refine zcn ?_)
    refine zcj rfl ?_
    repeat (first | refine zck ?_ | refine zcl ?_ | refine zcm ?_ | refine zcn ?_ | refine zco ?_)
    repeat (first | refine zck ?_ | refine zcl ?_ | refine zcm ?_ | refine zcn ?_)
    first | refine zcp (by kernel_rfl) ?_ | refine zcq PP_mixed (by kernel_rfl) (by kernel_rfl) ?_
    repeat' (refine zap rfl ?_; first | ((with_reducible refine zcu ?_); refine zan rfl ?_) | ((with_reducible refine zcv ?_); refine zan rfl ?_) | ((with_reducible refine zda ?_); first | refine zbc rfl rfl (by omega) ?_ | refine zbd rfl rfl (by omega) ?_ | refine zau rfl rfl (by omega) ?_ | refine zbo rfl rfl ?_ | refine zax rfl rfl (by omega) ?_ | refine zaz rfl rfl ?_ | refine zbb rfl rfl ?_))
    all_goals refine zch ?_
    all_goals repeat (first | refine zck ?_ | refine zcl ?_ | refine zcm ?_ | refine zcn ?_)
    refine run_loop (S := Nat × Nat × Nat) (fun st => [(0, .int .i64 (st.2.1 : Int)), (3, .int .i64 (st.2.2 : Int))])
      (fun st Γ => Γ = [] ∧ 1 ≤ st.2.1 ∧ st.2.1 ≤ 8 ^ st.1 ∧ 1 ≤ st.1 ∧ st.1 ≤ 3 ∧ st.2.2 + Rn st.1 st.2.1 = T n ∧ st.2.2 ≤ 1000) (fun st => st.1) (3, n, 0) ⟨rfl, rfl, trivial⟩
      ⟨rfl, by dsimp only; omega, by dsimp only; omega, by dsimp only; omega, by dsimp only; omega, by dsimp only; rw [Nat.zero_add]; exact Rn_T n hn (by omega), by dsimp only; omega⟩ ?_
    rintro ⟨f, c, out⟩ Γ junk ⟨rfl, h1, h2, h3, h4, h5, h6⟩
    dsimp only at h1 h2 h3 h4 h5 h6 ⊢
    have h8 : c ≤ 512 := by
      have : 8 ^ f ≤ 8 ^ 3 := Nat.pow_le_pow_right (by decide) h4
      omega
    obtain ⟨f, rfl⟩ : ∃ g, f = g + 1 := ⟨f - 1, by omega⟩
    have h9 : c ≤ 8 * 8 ^ f := by rw [Nat.pow_succ] at h2; omega
    simp only [Rn] at h5
    have h12 : T n ≤ 1000 := T_bd n hn
    by_cases h10 : (c + 7) / 8 = 1
    · rw [if_pos h10] at h5
      repeat' (first | refine zck ?_ | refine zcp (by kernel_rfl) ?_ | refine zcq PP_mixed (by kernel_rfl) (by kernel_rfl) ?_ | refine zcm ?_ | refine zcl ?_ | refine zcn ?_ | refine zco ?_ | refine zcs rfl ?_ | (refine zap rfl ?_; first | ((with_reducible refine zcu ?_); refine zan rfl ?_) | ((with_reducible refine zcv ?_); refine zan rfl ?_) | ((with_reducible refine zda ?_); first | refine zbc rfl rfl (by omega) ?_ | refine zbd rfl rfl (by omega) ?_ | refine zau rfl rfl (by omega) ?_ | refine zbo rfl rfl ?_ | refine zax rfl rfl (by omega) ?_ | refine zaz rfl rfl ?_ | refine zbb rfl rfl ?_)) | refine zch ?_ | refine zci rfl ?_ | refine zcj rfl ?_)
      refine qret1 (fun _ _ h => h) rfl ⟨int_eq (by show (out : Int) + ((c : Int) + 7) / 8 = _; omega), rfl⟩
    · rw [if_neg h10] at h5
      have h11 : 1 ≤ f := by
        rcases Nat.eq_zero_or_pos f with h | h
        · subst h; simp at h9; omega
        · exact h
      repeat' (first | refine zck ?_ | refine zcp (by kernel_rfl) ?_ | refine zcq PP_mixed (by kernel_rfl) (by kernel_rfl) ?_ | refine zcm ?_ | refine zcl ?_ | refine zcn ?_ | refine zco ?_ | refine zcs rfl ?_ | (refine zap rfl ?_; first | ((with_reducible refine zcu ?_); refine zan rfl ?_) | ((with_reducible refine zcv ?_); refine zan rfl ?_) | ((with_reducible refine zda ?_); first | refine zbc rfl rfl (by omega) ?_ | refine zbd rfl rfl (by omega) ?_ | refine zau rfl rfl (by omega) ?_ | refine zbo rfl rfl ?_ | refine zax rfl rfl (by omega) ?_ | refine zaz rfl rfl ?_ | refine zbb rfl rfl ?_)) | refine zch ?_ | refine zci rfl ?_ | refine zcj rfl ?_)
      refine cut_end ⟨rfl, (f, (c + 7) / 8, out + (c + 7) / 8), ⟨int_eq (by dsimp only; omega), int_eq (by dsimp only; omega), trivial⟩, ⟨rfl, by dsimp only; omega, by dsimp only; omega, h11, by dsimp only; omega, by dsimp only; omega, by dsimp only; omega⟩, by dsimp only; omega⟩

theorem same_spec (w0 : World) (sh : Shared) (va vb : Value) (l1 l2 : List Int) (h1 : RdSl w0 sh encI 1 va l1) (h2 : RdSl w0 sh encI 1 vb l2) (hb1 : l1.length ≤ 1000000) (hb2 : l2.length ≤ 1000000) :
    FnE PP w0 sh 21 [va, vb] [] (.bool (decide (l1 = l2))) [] := by
  obtain ⟨a1, c1, rfl, -⟩ := id h1
  obtain ⟨a2, c2, rfl, -⟩ := id h2
  refine fn_of_run en21 fn21 rfl rfl rfl ?_
  by_cases hl : l1.length = l2.length
  · repeat (first | refine zck ?_ | refine zcl ?_ | refine zcm ?_ | refine zcn ?_)
    first | refine zcp (by kernel_rfl) ?_ | refine zcq PP_mixed (by kernel_rfl) (by kernel_rfl) ?_
    repeat' (refine zap rfl ?_; first | ((with_reducible refine zcu ?_); refine zan rfl ?_) | ((with_reducible refine zcv ?_); refine zan rfl ?_) | ((with_reducible refine zcw ?_); first | refine zaa 0 rfl rfl rfl ?_ | refine zaa 1 rfl rfl rfl ?_ | refine zaa 2 rfl rfl rfl ?_ | refine zaa 3 rfl rfl rfl ?_ | refine zaa 4 rfl rfl rfl ?_ | refine zaa 5 rfl rfl rfl ?_ | refine zab 0 rfl rfl rfl ?_ | refine zab 1 rfl rfl rfl ?_ | refine zab 2 rfl rfl rfl ?_ | refine zab 3 rfl rfl rfl ?_ | refine zab 4 rfl rfl rfl ?_ | refine zab 5 rfl rfl rfl ?_) | ((with_reducible refine zcx ?_); refine zce rfl ?_) | ((with_reducible refine zda ?_); first | refine zbe rfl rfl (by omega) ?_ | refine zbf rfl rfl (by omega) ?_ | refine zbg rfl rfl (by omega) ?_ | refine zbh rfl rfl (by omega) ?_ | refine zau rfl rfl (by omega) ?_ | refine zbp rfl rfl ?_ | refine zbq rfl rfl ?_ | refine zba rfl rfl ?_) | ((with_reducible refine zdf ?_); first | refine zas rfl rfl (by omega) ?_ | refine zat rfl rfl (by omega) ?_))
    all_goals refine zch ?_
    all_goals repeat (first | refine zck ?_ | refine zcl ?_ | refine zcm ?_ | refine zcn ?_)
    repeat (first | refine zck ?_ | refine zcl ?_ | refine zcm ?_ | refine zcn ?_)
    first | refine zcp (by kernel_rfl) ?_ | refine zcq PP_mixed (by kernel_rfl) (by kernel_rfl) ?_
    repeat' (refine zap rfl ?_; first | ((with_reducible refine zcu ?_); refine zan rfl ?_) | ((with_reducible refine zcv ?_); refine zan rfl ?_) | ((with_reducible refine zcw ?_); first | refine zaa 0 rfl rfl rfl ?_ | refine zaa 1 rfl rfl rfl ?_ | refine zaa 2 rfl rfl rfl ?_ | refine zaa 3 rfl rfl rfl ?_ | refine zaa 4 rfl rfl rfl ?_ | refine zaa 5 rfl rfl rfl ?_ | refine zab 0 rfl rfl rfl ?_ | refine zab 1 rfl rfl rfl ?_ | refine zab 2 rfl rfl rfl ?_ | refine zab 3 rfl rfl rfl ?_ | refine zab 4 rfl rfl rfl ?_ | refine zab 5 rfl rfl rfl ?_) | ((with_reducible refine zcx ?_); refine zce rfl ?_) | ((with_reducible refine zda ?_); first | refine zbe rfl rfl (by omega) ?_ | refine zbf rfl rfl (by omega) ?_ | refine zbg rfl rfl (by omega) ?_ | refine zbh rfl rfl (by omega) ?_ | refine zau rfl rfl (by omega) ?_ | refine zbp rfl rfl ?_ | refine zbq rfl rfl ?_ | refine zba rfl rfl ?_) | ((with_reducible refine zdf ?_); first | refine zas rfl rfl (by omega) ?_ | refine zat rfl rfl (by omega) ?_))
    all_goals refine zch ?_
    all_goals repeat (first | refine zck ?_ | refine zcl ?_ | refine zcm ?_ | refine zcn ?_)
    refine zcj rfl ?_
    repeat (first | refine zck ?_ | refine zcl ?_ | refine zcm ?_ | refine zcn ?_ | refine zco ?_)
    repeat (first | refine zck ?_ | refine zcl ?_ | refine zcm ?_ | refine zcn ?_)
    first | refine zcp (by kernel_rfl) ?_ | refine zcq PP_mixed (by kernel_rfl) (by kernel_rfl) ?_
    repeat' (refine zap rfl ?_; first | ((with_reducible refine zcu ?_); refine zan rfl ?_) | ((with_reducible refine zcv ?_); refine zan rfl ?_) | ((with_reducible refine zcw ?_); first | refine zaa 0 rfl rfl rfl ?_ | refine zaa 1 rfl rfl rfl ?_ | refine zaa 2 rfl rfl rfl ?_ | refine zaa 3 rfl rfl rfl ?_ | refine zaa 4 rfl rfl rfl ?_ | refine zaa 5 rfl rfl rfl ?_ | refine zab 0 rfl rfl rfl ?_ | refine zab 1 rfl rfl rfl ?_ | refine zab 2 rfl rfl rfl ?_ | refine zab 3 rfl rfl rfl ?_ | refine zab 4 rfl rfl rfl ?_ | refine zab 5 rfl rfl rfl ?_) | ((with_reducible refine zcx ?_); refine zce rfl ?_) | ((with_reducible refine zda ?_); first | refine zbe rfl rfl (by omega) ?_ | refine zbf rfl rfl (by omega) ?_ | refine zbg rfl rfl (by omega) ?_ | refine zbh rfl rfl (by omega) ?_ | refine zau rfl rfl (by omega) ?_ | refine zbp rfl rfl ?_ | refine zbq rfl rfl ?_ | refine zba rfl rfl ?_) | ((with_reducible refine zdf ?_); first | refine zas rfl rfl (by omega) ?_ | refine zat rfl rfl (by omega) ?_))
    all_goals refine zch ?_
    all_goals repeat (first | refine zck ?_ | refine zcl ?_ | refine zcm ?_ | refine zcn ?_)
    refine run_loop (S := Nat) (fun k => [(0, .slice a1 l1.length c1), (1, .slice a2 l2.length c2), (5, .int .i64 (k : Int))])
      (fun k Γ => Γ = [] ∧ k ≤ l1.length ∧ l1.take k = l2.take k) (fun k => l1.length - k) 0 ⟨rfl, rfl, rfl, trivial⟩ ⟨rfl, Nat.zero_le _, by simp⟩ ?_
    rintro k Γ junk ⟨rfl, hk, ht⟩
    by_cases hlt : k < l1.length
    · have hx : l1[k]? = some l1[k] := List.getElem?_eq_getElem hlt
      have hy : l2[k]? = some l2[k] := List.getElem?_eq_getElem (by omega)
      generalize l1[k] = x at hx
      generalize l2[k] = y at hy
      obtain ⟨b1, o1, cc1, T1, fr1, rfl, g1, r1⟩ := h1.at hx
      obtain ⟨b2, o2, cc2, T2, fr2, rfl, g2, r2⟩ := h2.at hy
      by_cases hxy : x = y
      · repeat' (first | refine zck ?_ | refine zcp (by kernel_rfl) ?_ | refine zcq PP_mixed (by kernel_rfl) (by kernel_rfl) ?_ | refine zcm ?_ | refine zcl ?_ | refine zcn ?_ | refine zco ?_ | refine zcs rfl ?_ | (refine zap rfl ?_; first | refine zad rfl g1 (r1 _ (by omega)) ?_ | refine zad rfl g2 (r2 _ (by omega)) ?_ | ((with_reducible refine zcu ?_); refine zan rfl ?_) | ((with_reducible refine zcv ?_); refine zan rfl ?_) | ((with_reducible refine zcw ?_); first | refine zaa 0 rfl rfl rfl ?_ | refine zaa 1 rfl rfl rfl ?_ | refine zaa 2 rfl rfl rfl ?_ | refine zaa 3 rfl rfl rfl ?_ | refine zaa 4 rfl rfl rfl ?_ | refine zaa 5 rfl rfl rfl ?_ | refine zab 0 rfl rfl rfl ?_ | refine zab 1 rfl rfl rfl ?_ | refine zab 2 rfl rfl rfl ?_ | refine zab 3 rfl rfl rfl ?_ | refine zab 4 rfl rfl rfl ?_ | refine zab 5 rfl rfl rfl ?_) | ((with_reducible refine zcx ?_); refine zce rfl ?_) | ((with_reducible refine zda ?_); first | refine zbe rfl rfl (by omega) ?_ | refine zbf rfl rfl (by omega) ?_ | refine zbg rfl rfl (by omega) ?_ | refine zbh rfl rfl (by omega) ?_ | refine zau rfl rfl (by omega) ?_ | refine zbp rfl rfl ?_ | refine zbq rfl rfl ?_ | refine zba rfl rfl ?_) | ((with_reducible refine zdf ?_); first | refine zas rfl rfl (by omega) ?_ | refine zat rfl rfl (by omega) ?_)) | refine zch ?_ | refine zci rfl ?_ | refine zcj rfl ?_)
        refine cut_end ⟨rfl, k + 1, ⟨rfl, rfl, int_eq (by omega), trivial⟩, ⟨rfl, hlt, ?_⟩, by omega⟩
        rw [List.take_add_one, List.take_add_one, ht, hx, hy, hxy]
      · repeat' (first | refine zck ?_ | refine zcp (by kernel_rfl) ?_ | refine zcq PP_mixed (by kernel_rfl) (by kernel_rfl) ?_ | refine zcm ?_ | refine zcl ?_ | refine zcn ?_ | refine zco ?_ | refine zcs rfl ?_ | (refine zap rfl ?_; first | refine zad rfl g1 (r1 _ (by omega)) ?_ | refine zad rfl g2 (r2 _ (by omega)) ?_ | ((with_reducible refine zcu ?_); refine zan rfl ?_) | ((with_reducible refine zcv ?_); refine zan rfl ?_) | ((with_reducible refine zcw ?_); first | refine zaa 0 rfl rfl rfl ?_ | refine zaa 1 rfl rfl rfl ?_ | refine zaa 2 rfl rfl rfl ?_ | refine zaa 3 rfl rfl rfl ?_ | refine zaa 4 rfl rfl rfl ?_ | refine zaa 5 rfl rfl rfl ?_ | refine zab 0 rfl rfl rfl ?_ | refine zab 1 rfl rfl rfl ?_ | refine zab 2 rfl rfl rfl ?_ | refine zab 3 rfl rfl rfl ?_ | refine zab 4 rfl rfl rfl ?_ | refine zab 5 rfl rfl rfl ?_) | ((with_reducible refine zcx ?_); refine zce rfl ?_) | ((with_reducible refine zda ?_); first | refine zbe rfl rfl (by omega) ?_ | refine zbf rfl rfl (by omega) ?_ | refine zbg rfl rfl (by omega) ?_ | refine zbh rfl rfl (by omega) ?_ | refine zau rfl rfl (by omega) ?_ | refine zbp rfl rfl ?_ | refine zbq rfl rfl ?_ | refine zba rfl rfl ?_) | ((with_reducible refine zdf ?_); first | refine zas rfl rfl (by omega) ?_ | refine zat rfl rfl (by omega) ?_)) | refine zch ?_ | refine zci rfl ?_ | refine zcj rfl ?_)
        refine qret1 (fun _ _ h => h) rfl ⟨bool_eq (decide_eq_false ?_).symm, rfl⟩
        intro e; subst e; rw [hx] at hy; exact hxy (Option.some.inj hy)
    · repeat' (first | refine zck ?_ | refine zcp (by kernel_rfl) ?_ | refine zcq PP_mixed (by kernel_rfl) (by kernel_rfl) ?_ | refine zcm ?_ | refine zcl ?_ | refine zcn ?_ | refine zco ?_ | refine zcs rfl ?_ | (refine zap rfl ?_; first | ((with_reducible refine zcu ?_); refine zan rfl ?_) | ((with_reducible refine zcv ?_); refine zan rfl ?_) | ((with_reducible refine zcw ?_); first | refine zaa 0 rfl rfl rfl ?_ | refine zaa 1 rfl rfl rfl ?_ | refine zaa 2 rfl rfl rfl ?_ | refine zaa 3 rfl rfl rfl ?_ | refine zaa 4 rfl rfl rfl ?_ | refine zaa 5 rfl rfl rfl ?_ | refine zab 0 rfl rfl rfl ?_ | refine zab 1 rfl rfl rfl ?_ | refine zab 2 rfl rfl rfl ?_ | refine zab 3 rfl rfl rfl ?_ | refine zab 4 rfl rfl rfl ?_ | refine zab 5 rfl rfl rfl ?_) | ((with_reducible refine zcx ?_); refine zce rfl ?_) | ((with_reducible refine zda ?_); first | refine zbe rfl rfl (by omega) ?_ | refine zbf rfl rfl (by omega) ?_ | refine zbg rfl rfl (by omega) ?_ | refine zbh rfl rfl (by omega) ?_ | refine zau rfl rfl (by omega) ?_ | refine zbp rfl rfl ?_ | refine zbq rfl rfl ?_ | refine zba rfl rfl ?_) | ((with_reducible refine zdf ?_); first | refine zas rfl rfl (by omega) ?_ | refine zat rfl rfl (by omega) ?_)) | refine zch ?_ | refine zci rfl ?_ | refine zcj rfl ?_)
      refine cut_exit rfl rfl ?_
      repeat' (first | refine zck ?_ | refine zcp (by kernel_rfl) ?_ | refine zcq PP_mixed (by kernel_rfl) (by kernel_rfl) ?_ | refine zcm ?_ | refine zcl ?_ | refine zcn ?_ | refine zco ?_ | refine zcs rfl ?_ | (refine zap rfl ?_; first | ((with_reducible refine zcu ?_); refine zan rfl ?_) | ((with_reducible refine zcv ?_); refine zan rfl ?_) | ((with_reducible refine zcw ?_); first | refine zaa 0 rfl rfl rfl ?_ | refine zaa 1 rfl rfl rfl ?_ | refine zaa 2 rfl rfl rfl ?_ | refine zaa 3 rfl rfl rfl ?_ | refine zaa 4 rfl rfl rfl ?_ | refine zaa 5 rfl rfl rfl ?_ | refine zab 0 rfl rfl rfl ?_ | refine zab 1 rfl rfl rfl ?_ | refine zab 2 rfl rfl rfl ?_ | refine zab 3 rfl rfl rfl ?_ | refine zab 4 rfl rfl rfl ?_ | refine zab 5 rfl rfl rfl ?_) | ((with_reducible refine zcx ?_); refine zce rfl ?_) | ((with_reducible refine zda ?_); first | refine zbe rfl rfl (by omega) ?_ | refine zbf rfl rfl (by omega) ?_ | refine zbg rfl rfl (by omega) ?_ | refine zbh rfl rfl (by omega) ?_ | refine zau rfl rfl (by omega) ?_ | refine zbp rfl rfl ?_ | refine zbq rfl rfl ?_ | refine zba rfl rfl ?_) | ((with_reducible refine zdf ?_); first | refine zas rfl rfl (by omega) ?_ | refine zat rfl rfl (by omega) ?_)) | refine zch ?_ | refine zci rfl ?_ | refine zcj rfl ?_)
      refine ret_tmp1 rfl ⟨bool_eq (decide_eq_true ?_).symm, rfl⟩
      rw [List.take_of_length_le (by omega), List.take_of_length_le (by omega)] at ht
      exact ht
  · repeat' (first | refine zck ?_ | refine zcp (by kernel_rfl) ?_ | refine zcq PP_mixed (by kernel_rfl) (by kernel_rfl) ?_ | refine zcm ?_ | refine zcl ?_ | refine zcn ?_ | refine zco ?_ | refine zcs rfl ?_ | (refine zap rfl ?_; first | ((with_reducible refine zcu ?_); refine zan rfl ?_) | ((with_reducible refine zcv ?_); refine zan rfl ?_) | ((with_reducible refine zcw ?_); first | refine zaa 0 rfl rfl rfl ?_ | refine zaa 1 rfl rfl rfl ?_ | refine zaa 2 rfl rfl rfl ?_ | refine zaa 3 rfl rfl rfl ?_ | refine zaa 4 rfl rfl rfl ?_ | refine zaa 5 rfl rfl rfl ?_ | refine zab 0 rfl rfl rfl ?_ | refine zab 1 rfl rfl rfl ?_ | refine zab 2 rfl rfl rfl ?_ | refine zab 3 rfl rfl rfl ?_ | refine zab 4 rfl rfl rfl ?_ | refine zab 5 rfl rfl rfl ?_) | ((with_reducible refine zcx ?_); refine zce rfl ?_) | ((with_reducible refine zda ?_); first | refine zbe rfl rfl (by omega) ?_ | refine zbf rfl rfl (by omega) ?_ | refine zbg rfl rfl (by omega) ?_ | refine zbh rfl rfl (by omega) ?_ | refine zau rfl rfl (by omega) ?_ | refine zbp rfl rfl ?_ | refine zbq rfl rfl ?_ | refine zba rfl rfl ?_) | ((with_reducible refine zdf ?_); first | refine zas rfl rfl (by omega) ?_ | refine zat rfl rfl (by omega) ?_)) | refine zch ?_ | refine zci rfl ?_ | refine zcj rfl ?_)
    refine ret_tmp1 rfl ⟨bool_eq (decide_eq_false ?_).symm, rfl⟩
    intro e; exact hl (by rw [e])

theorem set_spec (w0 : World) (sh : Shared) (va : Value) (l : List Int) (h1 : RdSl w0 sh encI 1 va l) (hb1 : l.length ≤ 1000000) (k : Nat) (hk : k < l.length) (kI x : Int) (hI : kI = k) :
    Vc.Fn PP w0 sh 22 [va, .int .i64 kI, .int .i64 x] [] fun v Γ => Γ = [LstA 2 v (l.set k x)] := by
  subst hI
  refine fn_of_run en22 fn22 rfl rfl rfl ?_
  repeat (first | refine zck ?_ | refine zcl ?_ | refine zcm ?_ | refine zcn ?_)
  first | refine zcp (by kernel_rfl) ?_ | refine zcq PP_mixed (by kernel_rfl) (by kernel_rfl) ?_
  repeat' (refine zap rfl ?_; first | ((with_reducible refine zct ?_); first | refine zaj rfl ?_ | refine zak rfl ?_ | refine zal rfl ?_ | refine zam rfl rfl (fun _ => ?_) (fun _ => ?_)) | ((with_reducible refine zcu ?_); refine zan rfl ?_) | ((with_reducible refine zcv ?_); refine zan rfl ?_) | ((with_reducible refine zcx ?_); refine zce rfl ?_) | ((with_reducible refine zda ?_); first | refine zbg rfl rfl (by omega) ?_ | refine zbh rfl rfl (by omega) ?_ | refine zbm rfl rfl (by omega) ?_ | refine zbn rfl rfl (by omega) ?_ | refine zbq rfl rfl ?_ | refine zbt rfl rfl ?_) | ((with_reducible refine zdc ?_); first | refine zbu rfl ?_ | refine zbv rfl ?_ | refine zbw rfl rfl rfl ?_) | ((with_reducible refine zdd ?_); first | refine zae 0 rfl rfl rfl rfl rfl rfl rfl ?_ | refine zae 1 rfl rfl rfl rfl rfl rfl rfl ?_ | refine zae 2 rfl rfl rfl rfl rfl rfl rfl ?_ | refine zae 3 rfl rfl rfl rfl rfl rfl rfl ?_ | refine zae 4 rfl rfl rfl rfl rfl rfl rfl ?_ | refine zae 5 rfl rfl rfl rfl rfl rfl rfl ?_) | ((with_reducible refine zdf ?_); first | refine zas rfl rfl (by omega) ?_ | refine zat rfl rfl (by omega) ?_))
  all_goals refine zch ?_
  all_goals repeat (first | refine zck ?_ | refine zcl ?_ | refine zcm ?_ | refine zcn ?_)
  repeat (first | refine zck ?_ | refine zcl ?_ | refine zcm ?_ | refine zcn ?_)
  first | refine zcp (by kernel_rfl) ?_ | refine zcq PP_mixed (by kernel_rfl) (by kernel_rfl) ?_
  repeat' (refine zap rfl ?_; first | refine reg_buildSlice rfl rfl rfl rfl rfl rfl (fun nb => ?_) | (refine reg_own 0 rfl rfl (len := 0) (cap := 0) (sz := 1) ⟨rfl, Nat.le_refl _, Nat.le_refl _⟩ rfl ?_; refine reg_append_rd 0 rfl rfl h1 rfl rfl (by first | omega | (constructor <;> omega)) (fun _ _ => rfl) (fun a' cap' => ?_)) | ((with_reducible refine zct ?_); first | refine zaj rfl ?_ | refine zak rfl ?_ | refine zal rfl ?_ | refine zam rfl rfl (fun _ => ?_) (fun _ => ?_)) | ((with_reducible refine zcu ?_); refine zan rfl ?_) | ((with_reducible refine zcv ?_); refine zan rfl ?_) | ((with_reducible refine zcx ?_); refine zce rfl ?_) | ((with_reducible refine zda ?_); first | refine zbg rfl rfl (by omega) ?_ | refine zbh rfl rfl (by omega) ?_ | refine zbm rfl rfl (by omega) ?_ | refine zbn rfl rfl (by omega) ?_ | refine zbq rfl rfl ?_ | refine zbt rfl rfl ?_) | ((with_reducible refine zdc ?_); first | refine zbu rfl ?_ | refine zbv rfl ?_ | refine zbw rfl rfl rfl ?_) | ((with_reducible refine zdd ?_); first | refine zae 0 rfl rfl rfl rfl rfl rfl rfl ?_ | refine zae 1 rfl rfl rfl rfl rfl rfl rfl ?_ | refine zae 2 rfl rfl rfl rfl rfl rfl rfl ?_ | refine zae 3 rfl rfl rfl rfl rfl rfl rfl ?_ | refine zae 4 rfl rfl rfl rfl rfl rfl rfl ?_ | refine zae 5 rfl rfl rfl rfl rfl rfl rfl ?_) | ((with_reducible refine zdf ?_); first | refine zas rfl rfl (by omega) ?_ | refine zat rfl rfl (by omega) ?_))
  all_goals refine zch ?_
  all_goals repeat (first | refine zck ?_ | refine zcl ?_ | refine zcm ?_ | refine zcn ?_)
  refine run_slots [(1, .int .i64 (k : Int)), (2, .int .i64 x), (7, .slice a' (0 + l.length) cap')] ⟨rfl, rfl, rfl, trivial⟩ (fun junk => ?_)
  repeat (first | refine zck ?_ | refine zcl ?_ | refine zcm ?_ | refine zcn ?_)
  first | refine zcp (by kernel_rfl) ?_ | refine zcq PP_mixed (by kernel_rfl) (by kernel_rfl) ?_
  repeat' (refine zap rfl ?_; first | ((with_reducible refine zct ?_); first | refine zaj rfl ?_ | refine zak rfl ?_ | refine zal rfl ?_ | refine zam rfl rfl (fun _ => ?_) (fun _ => ?_)) | ((with_reducible refine zcu ?_); refine zan rfl ?_) | ((with_reducible refine zcv ?_); refine zan rfl ?_) | ((with_reducible refine zcx ?_); refine zce rfl ?_) | ((with_reducible refine zda ?_); first | refine zbg rfl rfl (by omega) ?_ | refine zbh rfl rfl (by omega) ?_ | refine zbm rfl rfl (by omega) ?_ | refine zbn rfl rfl (by omega) ?_ | refine zbq rfl rfl ?_ | refine zbt rfl rfl ?_) | ((with_reducible refine zdc ?_); first | refine zbu rfl ?_ | refine zbv rfl ?_ | refine zbw rfl rfl rfl ?_) | ((with_reducible refine zdd ?_); first | refine zae 0 rfl rfl rfl rfl rfl rfl rfl ?_ | refine zae 1 rfl rfl rfl rfl rfl rfl rfl ?_ | refine zae 2 rfl rfl rfl rfl rfl rfl rfl ?_ | refine zae 3 rfl rfl rfl rfl rfl rfl rfl ?_ | refine zae 4 rfl rfl rfl rfl rfl rfl rfl ?_ | refine zae 5 rfl rfl rfl rfl rfl rfl rfl ?_) | ((with_reducible refine zdf ?_); first | refine zas rfl rfl (by omega) ?_ | refine zat rfl rfl (by omega) ?_))
  all_goals refine zch ?_
  all_goals repeat (first | refine zck ?_ | refine zcl ?_ | refine zcm ?_ | refine zcn ?_)
  refine zci rfl ?_
  refine run_sl_cases 0 rfl (fun _ hz _ _ => absurd hz (by omega)) ?_
  intro lb e1 e2 e3
  subst e1
  have hwr : ∀ o, o = k → wr [Value.int .i64 x] o ([] ++ intsV l) = some (intsV (l.set k x)) := fun o ho => by
    subst ho; exact wr_ints l _ x hk
  repeat' (first | refine zck ?_ | refine zcp (by kernel_rfl) ?_ | refine zcq PP_mixed (by kernel_rfl) (by kernel_rfl) ?_ | refine zcm ?_ | refine zcl ?_ | refine zcn ?_ | refine zco ?_ | refine zcs rfl ?_ | (refine zap rfl ?_; first | refine zaf 0 rfl rfl rfl rfl rfl (hwr _ (by omega)) rfl ?_ | ((with_reducible refine zct ?_); first | refine zaj rfl ?_ | refine zak rfl ?_ | refine zal rfl ?_ | refine zam rfl rfl (fun _ => ?_) (fun _ => ?_)) | ((with_reducible refine zcu ?_); refine zan rfl ?_) | ((with_reducible refine zcv ?_); refine zan rfl ?_) | ((with_reducible refine zcx ?_); refine zce rfl ?_) | ((with_reducible refine zda ?_); first | refine zbg rfl rfl (by omega) ?_ | refine zbh rfl rfl (by omega) ?_ | refine zbm rfl rfl (by omega) ?_ | refine zbn rfl rfl (by omega) ?_ | refine zbq rfl rfl ?_ | refine zbt rfl rfl ?_) | ((with_reducible refine zdc ?_); first | refine zbu rfl ?_ | refine zbv rfl ?_ | refine zbw rfl rfl rfl ?_) | ((with_reducible refine zdd ?_); first | refine zae 0 rfl rfl rfl rfl rfl rfl rfl ?_ | refine zae 1 rfl rfl rfl rfl rfl rfl rfl ?_ | refine zae 2 rfl rfl rfl rfl rfl rfl rfl ?_ | refine zae 3 rfl rfl rfl rfl rfl rfl rfl ?_ | refine zae 4 rfl rfl rfl rfl rfl rfl rfl ?_ | refine zae 5 rfl rfl rfl rfl rfl rfl rfl ?_) | ((with_reducible refine zdf ?_); first | refine zas rfl rfl (by omega) ?_ | refine zat rfl rfl (by omega) ?_)) | refine zch ?_ | refine zci rfl ?_ | refine zcj rfl ?_)
  refine run_ret (leaves_nil (ends_conv (Γ' := [LstA 2 (.slice (some ⟨lb, 0, none⟩) (0 + l.length) cap') (l.set k x)]) (fun h hh => ?_) (ends_one rfl rfl ⟨rfl, rfl⟩)))
  exact Stars.one.2 ⟨_, cap', by rw [List.length_set, Nat.zero_add], by rw [List.length_set]; rw [Nat.zero_add] at hh; exact Stars.one.1 hh⟩
theorem set_lent (w0 : World) (va : Value) (l : List Int) (hb1 : l.length ≤ 1000000) (k : Nat) (hk : k < l.length) (kI x : Int) (hI : kI = k) :
    Vc.Fn PP w0 [] 22 [va, .int .i64 kI, .int .i64 x] [LstA 2 va l] fun v Γ => Γ = [LstA 2 v (l.set k x), LstA 2 va l] :=
  (Fn.lend en22 fun sh' _ hrd => set_spec w0 sh' va l hrd hb1 k hk kI x hI).mono fun v Γ' ⟨Γ'', h1, h2⟩ => by rw [h2, h1]; rfl
end Go.Proofs.YtilnknokgflkjaaDoor

