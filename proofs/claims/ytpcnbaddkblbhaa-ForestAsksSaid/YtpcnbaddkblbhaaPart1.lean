import Derived.Test.YtpcnbaddkblbhaaKit
/- Lemmas and walks for the claims of this seat (own work): Sp0. -/
/- The plain model of package space: what its functions compute. -/
namespace Sim
open Go Go.Vc

structure Wd where
  val : Int
  ver : Int
  ref : Int
  deriving DecidableEq

structure Sp where
  kn : List (Int × Wd)
  rd : List Int
  puts : List (Int × Int)
  need : Int
  ended : Bool

def lookW : List (Int × Wd) → Int → Option Wd
  | [], _ => none
  | (a, w) :: r, x => if a = x then some w else lookW r x
def insI : List Int → Int → List Int
  | [], x => [x]
  | a :: r, x => if a = x then a :: r else a :: insI r x
def lastV : List (Int × Int) → Int → Option Int
  | [], _ => none
  | (a, v) :: r, x => match lastV r x with | some u => some u | none => if a = x then some v else none
def lastI (l : List (Int × Int)) (x : Int) : Int :=
  match l.length with
  | 0 => -1
  | _ => go l.length
where go : Nat → Int
  | 0 => -1
  | k + 1 => if (l[k]?.map (·.1)) = some x then k else go k

def Sp.reads (s : Sp) (a : Int) : Bool × Sp :=
  if s.ended then (false, s) else
  match lookW s.kn a with
  | none => (false, { s with ended := true, need := a })
  | some _ => (true, { s with rd := insI s.rd a })
def Sp.value (s : Sp) (a : Int) : Int × Bool :=
  match lastV s.puts a with
  | some v => (v, true)
  | none => (match lookW s.kn a with | some w => w.val | none => 0, false)
def Sp.get (s : Sp) (a : Int) : Int × Sp := if (s.reads a).1 then (((s.reads a).2.value a).1, (s.reads a).2) else (0, (s.reads a).2)
def Sp.put (s : Sp) (a v : Int) : Sp := if (s.reads a).1 then { (s.reads a).2 with puts := s.puts ++ [(a, v)] } else (s.reads a).2
def Sp.back (s : Sp) (m : Int) : Sp := if s.ended = false ∧ 0 ≤ m ∧ m ≤ s.puts.length then { s with puts := s.puts.take m.toNat } else s

def wordV (w : Wd) : Value := .agg #[.int .i64 w.val, .int .u32 w.ver, .int .u32 w.ref]
def knM : List (Int × Wd) → List (Int × Value)
  | [] => []
  | (a, w) :: r => (a, wordV w) :: knM r
def rdM : List Int → List (Int × Value)
  | [] => []
  | a :: r => (a, .bool true) :: rdM r
def flat : List (Int × Int) → List Value
  | [] => []
  | (a, v) :: r => .int .i64 a :: .int .i64 v :: flat r

theorem look_knM : ∀ (l : List (Int × Wd)) (a : Int), Vc.look (knM l) a = (lookW l a).map wordV
  | [], _ => rfl
  | (b, w) :: r, a => by
    simp only [knM, Vc.look, lookW]
    by_cases h : b = a <;> simp [h, look_knM r a]
theorem ins_rdM : ∀ (l : List Int) (a : Int), ins (rdM l) a (.bool true) = rdM (insI l a)
  | [], _ => rfl
  | b :: r, a => by
    simp only [rdM, ins, insI]
    by_cases h : b = a <;> simp [h, rdM, ins_rdM r a]
theorem flat_length : ∀ (l : List (Int × Int)), (flat l).length = l.length * 2
  | [] => rfl
  | (_, _) :: r => by simp [flat, flat_length r]; omega
theorem flat_append : ∀ (l r : List (Int × Int)), flat (l ++ r) = flat l ++ flat r
  | [], _ => rfl
  | (_, _) :: l, r => by simp [flat, flat_append l r]
theorem flat_take : ∀ (l : List (Int × Int)) (k : Nat), (flat l).take (k * 2) = flat (l.take k)
  | [], k => by simp [flat]
  | (a, v) :: l, 0 => by simp [flat]
  | (a, v) :: l, k + 1 => by
    have : (k + 1) * 2 = k * 2 + 1 + 1 := by omega
    simp [flat, this, flat_take l k]
theorem flat_get : ∀ (l : List (Int × Int)) (k : Nat) (p : Int × Int), l[k]? = some p → nth (flat l) (k * 2) = some (.int .i64 p.1) ∧ nth (flat l) (k * 2 + 1) = some (.int .i64 p.2)
  | [], k, p, h => by simp at h
  | (a, v) :: l, 0, p, h => by simp at h; subst h; exact ⟨rfl, rfl⟩
  | (a, v) :: l, k + 1, p, h => by
    have e : (k + 1) * 2 = k * 2 + 1 + 1 := by omega
    simp only [List.getElem?_cons_succ] at h
    obtain ⟨h1, h2⟩ := flat_get l k p h
    exact ⟨by rw [e]; exact h1, by rw [e]; exact h2⟩

theorem lastI_spec (l : List (Int × Int)) (x : Int) (k : Nat) (hk : k ≤ l.length) (h : ∀ j, k ≤ j → j < l.length → ∀ p, l[j]? = some p → p.1 ≠ x) : lastI l x = lastI.go l x k := by
  have key : ∀ m, k + m ≤ l.length → lastI.go l x (k + m) = lastI.go l x k := by
    intro m
    induction m with
    | zero => intro _; rfl
    | succ m ih =>
      intro hm
      have hlt : k + m < l.length := by omega
      have := h (k + m) (by omega) hlt _ (List.getElem?_eq_getElem hlt)
      rw [← Nat.add_assoc]
      simp only [lastI.go]
      rw [if_neg (by rw [List.getElem?_eq_getElem hlt]; simpa using this)]
      exact ih (by omega)
  unfold lastI
  split
  · rename_i h0
    have : k = 0 := by omega
    subst this; rfl
  · obtain ⟨m, hm⟩ : ∃ m, l.length = k + m := ⟨l.length - k, by omega⟩
    rw [hm]; exact key m (by omega)

theorem go_lastV (l : List (Int × Int)) (x : Int) : ∀ k, k ≤ l.length →
    (lastV (l.take k) x = none ∧ lastI.go l x k = -1) ∨ (∃ j p, j < k ∧ l[j]? = some p ∧ p.1 = x ∧ lastV (l.take k) x = some p.2 ∧ lastI.go l x k = j) := by
  have snoc : ∀ (l : List (Int × Int)) (p : Int × Int), lastV (l ++ [p]) x = if p.1 = x then some p.2 else lastV l x := by
    intro l p
    induction l with
    | nil => simp [lastV]
    | cons q l ih =>
      obtain ⟨a, v⟩ := q
      simp only [List.cons_append, lastV, ih]
      by_cases h : p.1 = x <;> simp [h]
  intro k
  induction k with
  | zero => intro _; exact .inl ⟨by simp [lastV], rfl⟩
  | succ k ih =>
    intro hk
    have hlt : k < l.length := by omega
    have ht : l.take (k + 1) = l.take k ++ [l[k]] := List.take_succ_eq_append_getElem hlt
    rw [ht, snoc]
    simp only [lastI.go, List.getElem?_eq_getElem hlt, Option.map_some, Option.some.injEq]
    by_cases hx : (l[k]).1 = x
    · right
      exact ⟨k, l[k], by omega, List.getElem?_eq_getElem hlt, hx, by rw [if_pos hx], by rw [if_pos hx]⟩
    · rw [if_neg hx, if_neg hx]
      rcases ih (by omega) with ⟨h1, h2⟩ | ⟨j, p, h1, h2, h3, h4, h5⟩
      · exact .inl ⟨h1, h2⟩
      · exact .inr ⟨j, p, by omega, h2, h3, h4, h5⟩

/-- The index of the last write, and its value. -/
theorem lastI_lastV (l : List (Int × Int)) (x : Int) : (lastV l x = none ∧ lastI l x = -1) ∨ (∃ (j : Nat) (p : Int × Int), j < l.length ∧ l[j]? = some p ∧ lastV l x = some p.2 ∧ lastI l x = j) := by
  have h1 := lastI_spec l x l.length (Nat.le_refl _) (fun j h1 h2 => by omega)
  rcases go_lastV l x l.length (Nat.le_refl _) with ⟨h2, h3⟩ | ⟨j, p, h2, h3, _, h4, h5⟩
  · left; rw [List.take_length] at h2; exact ⟨h2, h1.trans h3⟩
  · right; rw [List.take_length] at h4; exact ⟨j, p, h2, h3, h4, h1.trans h5⟩
end Sim

