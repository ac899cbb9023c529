import Derived.Test.YtpcnbaddkblbhaaProg
import Derived.Test.YtpcnbaddkblbhaaKit
import Derived.Test.YtpcnbaddkblbhaaKit1
/- Lemmas and walks for the claims of this seat (own work): Sp0 Base Sp1 Sp2 Sp3 Pg0 Pg1 Pl0 Pl1 Po0 Po1 Fo0 Fl0. -/
/- The plain model of package space: what its functions compute. -/
namespace Sim
open Go Go.Vc

structure Wd where
  val : Int
  ver : Int
  ref : Int
  deriving DecidableEq

structure Sp where
  kn : List (Int × Wd)
  rd : List Int
  puts : List (Int × Int)
  need : Int
  ended : Bool

def lookW : List (Int × Wd) → Int → Option Wd
  | [], _ => none
  | (a, w) :: r, x => if a = x then some w else lookW r x
def insI : List Int → Int → List Int
  | [], x => [x]
  | a :: r, x => if a = x then a :: r else a :: insI r x
def lastV : List (Int × Int) → Int → Option Int
  | [], _ => none
  | (a, v) :: r, x => match lastV r x with | some u => some u | none => if a = x then some v else none
def lastI (l : List (Int × Int)) (x : Int) : Int :=
  match l.length with
  | 0 => -1
  | _ => go l.length
where go : Nat → Int
  | 0 => -1
  | k + 1 => if (l[k]?.map (·.1)) = some x then k else go k

def Sp.reads (s : Sp) (a : Int) : Bool × Sp :=
  if s.ended then (false, s) else
  match lookW s.kn a with
  | none => (false, { s with ended := true, need := a })
  | some _ => (true, { s with rd := insI s.rd a })
def Sp.value (s : Sp) (a : Int) : Int × Bool :=
  match lastV s.puts a with
  | some v => (v, true)
  | none => (match lookW s.kn a with | some w => w.val | none => 0, false)
def Sp.get (s : Sp) (a : Int) : Int × Sp := if (s.reads a).1 then (((s.reads a).2.value a).1, (s.reads a).2) else (0, (s.reads a).2)
def Sp.put (s : Sp) (a v : Int) : Sp := if (s.reads a).1 then { (s.reads a).2 with puts := s.puts ++ [(a, v)] } else (s.reads a).2
def Sp.back (s : Sp) (m : Int) : Sp := if s.ended = false ∧ 0 ≤ m ∧ m ≤ s.puts.length then { s with puts := s.puts.take m.toNat } else s

def wordV (w : Wd) : Value := .agg #[.int .i64 w.val, .int .u32 w.ver, .int .u32 w.ref]
def knM : List (Int × Wd) → List (Int × Value)
  | [] => []
  | (a, w) :: r => (a, wordV w) :: knM r
def rdM : List Int → List (Int × Value)
  | [] => []
  | a :: r => (a, .bool true) :: rdM r
def flat : List (Int × Int) → List Value
  | [] => []
  | (a, v) :: r => .int .i64 a :: .int .i64 v :: flat r

theorem look_knM : ∀ (l : List (Int × Wd)) (a : Int), Vc.look (knM l) a = (lookW l a).map wordV
  | [], _ => rfl
  | (b, w) :: r, a => by
    simp only [knM, Vc.look, lookW]
    by_cases h : b = a <;> simp [h, look_knM r a]
theorem ins_rdM : ∀ (l : List Int) (a : Int), ins (rdM l) a (.bool true) = rdM (insI l a)
  | [], _ => rfl
  | b :: r, a => by
    simp only [rdM, ins, insI]
    by_cases h : b = a <;> simp [h, rdM, ins_rdM r a]
theorem flat_length : ∀ (l : List (Int × Int)), (flat l).length = l.length * 2
  | [] => rfl
  | (_, _) :: r => by simp [flat, flat_length r]; omega
theorem flat_append : ∀ (l r : List (Int × Int)), flat (l ++ r) = flat l ++ flat r
  | [], _ => rfl
  | (_, _) :: l, r => by simp [flat, flat_append l r]
theorem flat_take : ∀ (l : List (Int × Int)) (k : Nat), (flat l).take (k * 2) = flat (l.take k)
  | [], k => by simp [flat]
  | (a, v) :: l, 0 => by simp [flat]
  | (a, v) :: l, k + 1 => by
    have : (k + 1) * 2 = k * 2 + 1 + 1 := by omega
    simp [flat, this, flat_take l k]
theorem flat_get : ∀ (l : List (Int × Int)) (k : Nat) (p : Int × Int), l[k]? = some p → nth (flat l) (k * 2) = some (.int .i64 p.1) ∧ nth (flat l) (k * 2 + 1) = some (.int .i64 p.2)
  | [], k, p, h => by simp at h
  | (a, v) :: l, 0, p, h => by simp at h; subst h; exact ⟨rfl, rfl⟩
  | (a, v) :: l, k + 1, p, h => by
    have e : (k + 1) * 2 = k * 2 + 1 + 1 := by omega
    simp only [List.getElem?_cons_succ] at h
    obtain ⟨h1, h2⟩ := flat_get l k p h
    exact ⟨by rw [e]; exact h1, by rw [e]; exact h2⟩

theorem lastI_spec (l : List (Int × Int)) (x : Int) (k : Nat) (hk : k ≤ l.length) (h : ∀ j, k ≤ j → j < l.length → ∀ p, l[j]? = some p → p.1 ≠ x) : lastI l x = lastI.go l x k := by
  have key : ∀ m, k + m ≤ l.length → lastI.go l x (k + m) = lastI.go l x k := by
    intro m
    induction m with
    | zero => intro _; rfl
    | succ m ih =>
      intro hm
      have hlt : k + m < l.length := by omega
      have := h (k + m) (by omega) hlt _ (List.getElem?_eq_getElem hlt)
      rw [← Nat.add_assoc]
      simp only [lastI.go]
      rw [if_neg (by rw [List.getElem?_eq_getElem hlt]; simpa using this)]
      exact ih (by omega)
  unfold lastI
  split
  · rename_i h0
    have : k = 0 := by omega
    subst this; rfl
  · obtain ⟨m, hm⟩ : ∃ m, l.length = k + m := ⟨l.length - k, by omega⟩
    rw [hm]; exact key m (by omega)

theorem go_lastV (l : List (Int × Int)) (x : Int) : ∀ k, k ≤ l.length →
    (lastV (l.take k) x = none ∧ lastI.go l x k = -1) ∨ (∃ j p, j < k ∧ l[j]? = some p ∧ p.1 = x ∧ lastV (l.take k) x = some p.2 ∧ lastI.go l x k = j) := by
  have snoc : ∀ (l : List (Int × Int)) (p : Int × Int), lastV (l ++ [p]) x = if p.1 = x then some p.2 else lastV l x := by
    intro l p
    induction l with
    | nil => simp [lastV]
    | cons q l ih =>
      obtain ⟨a, v⟩ := q
      simp only [List.cons_append, lastV, ih]
      by_cases h : p.1 = x <;> simp [h]
  intro k
  induction k with
  | zero => intro _; exact .inl ⟨by simp [lastV], rfl⟩
  | succ k ih =>
    intro hk
    have hlt : k < l.length := by omega
    have ht : l.take (k + 1) = l.take k ++ [l[k]] := List.take_succ_eq_append_getElem hlt
    rw [ht, snoc]
    simp only [lastI.go, List.getElem?_eq_getElem hlt, Option.map_some, Option.some.injEq]
    by_cases hx : (l[k]).1 = x
    · right
      exact ⟨k, l[k], by omega, List.getElem?_eq_getElem hlt, hx, by rw [if_pos hx], by rw [if_pos hx]⟩
    · rw [if_neg hx, if_neg hx]
      rcases ih (by omega) with ⟨h1, h2⟩ | ⟨j, p, h1, h2, h3, h4, h5⟩
      · exact .inl ⟨h1, h2⟩
      · exact .inr ⟨j, p, by omega, h2, h3, h4, h5⟩

/-- The index of the last write, and its value. -/
theorem lastI_lastV (l : List (Int × Int)) (x : Int) : (lastV l x = none ∧ lastI l x = -1) ∨ (∃ (j : Nat) (p : Int × Int), j < l.length ∧ l[j]? = some p ∧ lastV l x = some p.2 ∧ lastI l x = j) := by
  have h1 := lastI_spec l x l.length (Nat.le_refl _) (fun j h1 h2 => by omega)
  rcases go_lastV l x l.length (Nat.le_refl _) with ⟨h2, h3⟩ | ⟨j, p, h2, h3, _, h4, h5⟩
  · left; rw [List.take_length] at h2; exact ⟨h2, h1.trans h3⟩
  · right; rw [List.take_length] at h4; exact ⟨j, p, h2, h3, h4, h1.trans h5⟩
end Sim

/- The facts of the loaded program that the walks use: types and functions, each by the kernel. Made by gen.py. -/
namespace Go.Proofs.Ytpcnbaddkblbhaa
open Go.Vc
@[irreducible] noncomputable def PP : Program := Try.prog
theorem PP_def : PP = Try.prog := by unfold PP; rfl
theorem PP_mixed : PP.follows .mixedOrders = true := by kernel_rfl
instance : TShape PP 1 false 1 := ⟨fun w => by kernel_rfl, fun w => by kernel_rfl⟩
instance : TInfo PP 1 8 := ⟨fun w => ⟨Try.t1, by rw [PP_def]; exact Try.typeInfo1 w, rfl⟩⟩
instance : TZero PP 1 [.nilFunc] := ⟨fun w => ⟨.nilFunc, by kernel_rfl, by kernel_rfl⟩⟩
instance : TZeroV PP 1 (.nilFunc) := ⟨fun w => by kernel_rfl⟩
instance : TShape PP 2 false 1 := ⟨fun w => by kernel_rfl, fun w => by kernel_rfl⟩
instance : TInfo PP 2 8 := ⟨fun w => ⟨Try.t2, by rw [PP_def]; exact Try.typeInfo2 w, rfl⟩⟩
instance : TZero PP 2 [.int .i64 0] := ⟨fun w => ⟨.int .i64 0, by kernel_rfl, by kernel_rfl⟩⟩
instance : TZeroV PP 2 (.int .i64 0) := ⟨fun w => by kernel_rfl⟩
instance : TUnd PP 2 (.int (.i64)) := ⟨by kernel_rfl⟩
instance : TShape PP 3 false 1 := ⟨fun w => by kernel_rfl, fun w => by kernel_rfl⟩
instance : TInfo PP 3 8 := ⟨fun w => ⟨Try.t3, by rw [PP_def]; exact Try.typeInfo3 w, rfl⟩⟩
instance : TZero PP 3 [.int .i64 0] := ⟨fun w => ⟨.int .i64 0, by kernel_rfl, by kernel_rfl⟩⟩
instance : TZeroV PP 3 (.int .i64 0) := ⟨fun w => by kernel_rfl⟩
instance : TUnd PP 3 (.int (.i64)) := ⟨by kernel_rfl⟩
instance : TShape PP 4 false 1 := ⟨fun w => by kernel_rfl, fun w => by kernel_rfl⟩
instance : TInfo PP 4 1 := ⟨fun w => ⟨Try.t4, by rw [PP_def]; exact Try.typeInfo4 w, rfl⟩⟩
instance : TZero PP 4 [.bool false] := ⟨fun w => ⟨.bool false, by kernel_rfl, by kernel_rfl⟩⟩
instance : TZeroV PP 4 (.bool false) := ⟨fun w => by kernel_rfl⟩
instance : TUnd PP 4 (.bool) := ⟨by kernel_rfl⟩
instance : TShape PP 5 false 1 := ⟨fun w => by kernel_rfl, fun w => by kernel_rfl⟩
instance : TInfo PP 5 1 := ⟨fun w => ⟨Try.t5, by rw [PP_def]; exact Try.typeInfo5 w, rfl⟩⟩
instance : TZero PP 5 [.int .u8 0] := ⟨fun w => ⟨.int .u8 0, by kernel_rfl, by kernel_rfl⟩⟩
instance : TZeroV PP 5 (.int .u8 0) := ⟨fun w => by kernel_rfl⟩
instance : TUnd PP 5 (.int (.u8)) := ⟨by kernel_rfl⟩
instance : TShape PP 6 false 1 := ⟨fun w => by kernel_rfl, fun w => by kernel_rfl⟩
instance : TInfo PP 6 1 := ⟨fun w => ⟨Try.t6, by rw [PP_def]; exact Try.typeInfo6 w, rfl⟩⟩
instance : TZero PP 6 [.int .u8 0] := ⟨fun w => ⟨.int .u8 0, by kernel_rfl, by kernel_rfl⟩⟩
instance : TZeroV PP 6 (.int .u8 0) := ⟨fun w => by kernel_rfl⟩
instance : TUnd PP 6 (.int (.u8)) := ⟨by kernel_rfl⟩
instance : TShape PP 7 true 4 := ⟨fun w => by kernel_rfl, fun w => by kernel_rfl⟩
instance : TInfo PP 7 24 := ⟨fun w => ⟨Try.t7, by rw [PP_def]; exact Try.typeInfo7 w, rfl⟩⟩
instance : TZero PP 7 [.int .i64 0, .int .i64 0, .bool false, .int .u8 0] := ⟨fun w => ⟨.agg #[.int .i64 0, .int .i64 0, .bool false, .int .u8 0], by kernel_rfl, by kernel_rfl⟩⟩
instance : TZeroV PP 7 (.agg #[.int .i64 0, .int .i64 0, .bool false, .int .u8 0]) := ⟨fun w => by kernel_rfl⟩
instance : TStruct PP 7 [.int .i64 0, .int .i64 0, .bool false, .int .u8 0] [(0, 1), (1, 1), (2, 1), (3, 1)] := ⟨⟨_, by rw [PP_def]; exact Try.underlying7, fun w => by kernel_rfl⟩, fun w => ⟨.agg #[.int .i64 0, .int .i64 0, .bool false, .int .u8 0], by kernel_rfl, by kernel_rfl⟩⟩
instance : TField PP 7 0 0 := ⟨fun b o w => by kernel_rfl⟩
instance : TPart PP 7 0 false 0 1 := part_lemma (ft := 2) (by rw [PP_def]; exact Try.underlying7) rfl rfl rfl
instance : TField PP 7 1 1 := ⟨fun b o w => by kernel_rfl⟩
instance : TPart PP 7 1 false 1 1 := part_lemma (ft := 3) (by rw [PP_def]; exact Try.underlying7) rfl rfl rfl
instance : TField PP 7 2 2 := ⟨fun b o w => by kernel_rfl⟩
instance : TPart PP 7 2 false 2 1 := part_lemma (ft := 4) (by rw [PP_def]; exact Try.underlying7) rfl rfl rfl
instance : TField PP 7 3 3 := ⟨fun b o w => by kernel_rfl⟩
instance : TPart PP 7 3 false 3 1 := part_lemma (ft := 6) (by rw [PP_def]; exact Try.underlying7) rfl rfl rfl
instance : TShape PP 8 true 4 := ⟨fun w => by kernel_rfl, fun w => by kernel_rfl⟩
instance : TInfo PP 8 24 := ⟨fun w => ⟨Try.t8, by rw [PP_def]; exact Try.typeInfo8 w, rfl⟩⟩
instance : TZero PP 8 [.int .i64 0, .int .i64 0, .bool false, .int .u8 0] := ⟨fun w => ⟨.agg #[.int .i64 0, .int .i64 0, .bool false, .int .u8 0], by kernel_rfl, by kernel_rfl⟩⟩
instance : TZeroV PP 8 (.agg #[.int .i64 0, .int .i64 0, .bool false, .int .u8 0]) := ⟨fun w => by kernel_rfl⟩
instance : TStruct PP 8 [.int .i64 0, .int .i64 0, .bool false, .int .u8 0] [(0, 1), (1, 1), (2, 1), (3, 1)] := ⟨⟨_, by rw [PP_def]; exact Try.underlying8, fun w => by kernel_rfl⟩, fun w => ⟨.agg #[.int .i64 0, .int .i64 0, .bool false, .int .u8 0], by kernel_rfl, by kernel_rfl⟩⟩
instance : TField PP 8 0 0 := ⟨fun b o w => by kernel_rfl⟩
instance : TPart PP 8 0 false 0 1 := part_lemma (ft := 2) (by rw [PP_def]; exact Try.underlying8) rfl rfl rfl
instance : TField PP 8 1 1 := ⟨fun b o w => by kernel_rfl⟩
instance : TPart PP 8 1 false 1 1 := part_lemma (ft := 3) (by rw [PP_def]; exact Try.underlying8) rfl rfl rfl
instance : TField PP 8 2 2 := ⟨fun b o w => by kernel_rfl⟩
instance : TPart PP 8 2 false 2 1 := part_lemma (ft := 4) (by rw [PP_def]; exact Try.underlying8) rfl rfl rfl
instance : TField PP 8 3 3 := ⟨fun b o w => by kernel_rfl⟩
instance : TPart PP 8 3 false 3 1 := part_lemma (ft := 6) (by rw [PP_def]; exact Try.underlying8) rfl rfl rfl
instance : TShape PP 9 false 1 := ⟨fun w => by kernel_rfl, fun w => by kernel_rfl⟩
instance : TInfo PP 9 16 := ⟨fun w => ⟨Try.t9, by rw [PP_def]; exact Try.typeInfo9 w, rfl⟩⟩
instance : TZero PP 9 [.string ByteArray.empty] := ⟨fun w => ⟨.string ByteArray.empty, by kernel_rfl, by kernel_rfl⟩⟩
instance : TZeroV PP 9 (.string ByteArray.empty) := ⟨fun w => by kernel_rfl⟩
instance : TUnd PP 9 (.string) := ⟨by kernel_rfl⟩
instance : TShape PP 10 false 1 := ⟨fun w => by kernel_rfl, fun w => by kernel_rfl⟩
instance : TInfo PP 10 16 := ⟨fun w => ⟨Try.t10, by rw [PP_def]; exact Try.typeInfo10 w, rfl⟩⟩
instance : TZero PP 10 [.string ByteArray.empty] := ⟨fun w => ⟨.string ByteArray.empty, by kernel_rfl, by kernel_rfl⟩⟩
instance : TZeroV PP 10 (.string ByteArray.empty) := ⟨fun w => by kernel_rfl⟩
instance : TUnd PP 10 (.string) := ⟨by kernel_rfl⟩
instance : TShape PP 11 false 1 := ⟨fun w => by kernel_rfl, fun w => by kernel_rfl⟩
instance : TInfo PP 11 16 := ⟨fun w => ⟨Try.t11, by rw [PP_def]; exact Try.typeInfo11 w, rfl⟩⟩
instance : TZero PP 11 [.string ByteArray.empty] := ⟨fun w => ⟨.string ByteArray.empty, by kernel_rfl, by kernel_rfl⟩⟩
instance : TZeroV PP 11 (.string ByteArray.empty) := ⟨fun w => by kernel_rfl⟩
instance : TUnd PP 11 (.string) := ⟨by kernel_rfl⟩
instance : TShape PP 12 false 1 := ⟨fun w => by kernel_rfl, fun w => by kernel_rfl⟩
instance : TInfo PP 12 8 := ⟨fun w => ⟨Try.t12, by rw [PP_def]; exact Try.typeInfo12 w, rfl⟩⟩
instance : TZero PP 12 [.int .u64 0] := ⟨fun w => ⟨.int .u64 0, by kernel_rfl, by kernel_rfl⟩⟩
instance : TZeroV PP 12 (.int .u64 0) := ⟨fun w => by kernel_rfl⟩
instance : TUnd PP 12 (.int (.u64)) := ⟨by kernel_rfl⟩
instance : TShape PP 13 true 2 := ⟨fun w => by kernel_rfl, fun w => by kernel_rfl⟩
instance : TInfo PP 13 24 := ⟨fun w => ⟨Try.t13, by rw [PP_def]; exact Try.typeInfo13 w, rfl⟩⟩
instance : TZero PP 13 [.string ByteArray.empty, .int .u64 0] := ⟨fun w => ⟨.agg #[.string ByteArray.empty, .int .u64 0], by kernel_rfl, by kernel_rfl⟩⟩
instance : TZeroV PP 13 (.agg #[.string ByteArray.empty, .int .u64 0]) := ⟨fun w => by kernel_rfl⟩
instance : TStruct PP 13 [.string ByteArray.empty, .int .u64 0] [(0, 1), (1, 1)] := ⟨⟨_, by rw [PP_def]; exact Try.underlying13, fun w => by kernel_rfl⟩, fun w => ⟨.agg #[.string ByteArray.empty, .int .u64 0], by kernel_rfl, by kernel_rfl⟩⟩
instance : TField PP 13 0 0 := ⟨fun b o w => by kernel_rfl⟩
instance : TPart PP 13 0 false 0 1 := part_lemma (ft := 9) (by rw [PP_def]; exact Try.underlying13) rfl rfl rfl
instance : TField PP 13 1 1 := ⟨fun b o w => by kernel_rfl⟩
instance : TPart PP 13 1 false 1 1 := part_lemma (ft := 12) (by rw [PP_def]; exact Try.underlying13) rfl rfl rfl
instance : TShape PP 14 true 2 := ⟨fun w => by kernel_rfl, fun w => by kernel_rfl⟩
instance : TInfo PP 14 24 := ⟨fun w => ⟨Try.t14, by rw [PP_def]; exact Try.typeInfo14 w, rfl⟩⟩
instance : TZero PP 14 [.string ByteArray.empty, .int .u64 0] := ⟨fun w => ⟨.agg #[.string ByteArray.empty, .int .u64 0], by kernel_rfl, by kernel_rfl⟩⟩
instance : TZeroV PP 14 (.agg #[.string ByteArray.empty, .int .u64 0]) := ⟨fun w => by kernel_rfl⟩
instance : TStruct PP 14 [.string ByteArray.empty, .int .u64 0] [(0, 1), (1, 1)] := ⟨⟨_, by rw [PP_def]; exact Try.underlying14, fun w => by kernel_rfl⟩, fun w => ⟨.agg #[.string ByteArray.empty, .int .u64 0], by kernel_rfl, by kernel_rfl⟩⟩
instance : TField PP 14 0 0 := ⟨fun b o w => by kernel_rfl⟩
instance : TPart PP 14 0 false 0 1 := part_lemma (ft := 9) (by rw [PP_def]; exact Try.underlying14) rfl rfl rfl
instance : TField PP 14 1 1 := ⟨fun b o w => by kernel_rfl⟩
instance : TPart PP 14 1 false 1 1 := part_lemma (ft := 12) (by rw [PP_def]; exact Try.underlying14) rfl rfl rfl
instance : TShape PP 15 false 1 := ⟨fun w => by kernel_rfl, fun w => by kernel_rfl⟩
instance : TInfo PP 15 8 := ⟨fun w => ⟨Try.t15, by rw [PP_def]; exact Try.typeInfo15 w, rfl⟩⟩
instance : TZero PP 15 [.pointer none] := ⟨fun w => ⟨.pointer none, by kernel_rfl, by kernel_rfl⟩⟩
instance : TZeroV PP 15 (.pointer none) := ⟨fun w => by kernel_rfl⟩
instance : TUnd PP 15 (.pointer 160) := ⟨by kernel_rfl⟩
instance : TShape PP 16 false 1 := ⟨fun w => by kernel_rfl, fun w => by kernel_rfl⟩
instance : TInfo PP 16 8 := ⟨fun w => ⟨Try.t16, by rw [PP_def]; exact Try.typeInfo16 w, rfl⟩⟩
instance : TZero PP 16 [.pointer none] := ⟨fun w => ⟨.pointer none, by kernel_rfl, by kernel_rfl⟩⟩
instance : TZeroV PP 16 (.pointer none) := ⟨fun w => by kernel_rfl⟩
instance : TUnd PP 16 (.pointer 163) := ⟨by kernel_rfl⟩
instance : TShape PP 17 false 1 := ⟨fun w => by kernel_rfl, fun w => by kernel_rfl⟩
instance : TInfo PP 17 8 := ⟨fun w => ⟨Try.t17, by rw [PP_def]; exact Try.typeInfo17 w, rfl⟩⟩
instance : TZero PP 17 [.pointer none] := ⟨fun w => ⟨.pointer none, by kernel_rfl, by kernel_rfl⟩⟩
instance : TZeroV PP 17 (.pointer none) := ⟨fun w => by kernel_rfl⟩
instance : TUnd PP 17 (.pointer 171) := ⟨by kernel_rfl⟩
instance : TShape PP 18 true 1 := ⟨fun w => by kernel_rfl, fun w => by kernel_rfl⟩
instance : TInfo PP 18 8 := ⟨fun w => ⟨Try.t18, by rw [PP_def]; exact Try.typeInfo18 w, rfl⟩⟩
instance : TZero PP 18 [.pointer none] := ⟨fun w => ⟨.agg #[.pointer none], by kernel_rfl, by kernel_rfl⟩⟩
instance : TZeroV PP 18 (.agg #[.pointer none]) := ⟨fun w => by kernel_rfl⟩
instance : TStruct PP 18 [.pointer none] [(0, 1)] := ⟨⟨_, by rw [PP_def]; exact Try.underlying18, fun w => by kernel_rfl⟩, fun w => ⟨.agg #[.pointer none], by kernel_rfl, by kernel_rfl⟩⟩
instance : TField PP 18 0 0 := ⟨fun b o w => by kernel_rfl⟩
instance : TPart PP 18 0 false 0 1 := part_lemma (ft := 17) (by rw [PP_def]; exact Try.underlying18) rfl rfl rfl
instance : TShape PP 19 true 1 := ⟨fun w => by kernel_rfl, fun w => by kernel_rfl⟩
instance : TInfo PP 19 8 := ⟨fun w => ⟨Try.t19, by rw [PP_def]; exact Try.typeInfo19 w, rfl⟩⟩
instance : TZero PP 19 [.pointer none] := ⟨fun w => ⟨.agg #[.pointer none], by kernel_rfl, by kernel_rfl⟩⟩
instance : TZeroV PP 19 (.agg #[.pointer none]) := ⟨fun w => by kernel_rfl⟩
instance : TStruct PP 19 [.pointer none] [(0, 1)] := ⟨⟨_, by rw [PP_def]; exact Try.underlying19, fun w => by kernel_rfl⟩, fun w => ⟨.agg #[.pointer none], by kernel_rfl, by kernel_rfl⟩⟩
instance : TField PP 19 0 0 := ⟨fun b o w => by kernel_rfl⟩
instance : TPart PP 19 0 false 0 1 := part_lemma (ft := 17) (by rw [PP_def]; exact Try.underlying19) rfl rfl rfl
instance : TShape PP 20 false 1 := ⟨fun w => by kernel_rfl, fun w => by kernel_rfl⟩
instance : TInfo PP 20 16 := ⟨fun w => ⟨Try.t20, by rw [PP_def]; exact Try.typeInfo20 w, rfl⟩⟩
instance : TZero PP 20 [.nilIface] := ⟨fun w => ⟨.nilIface, by kernel_rfl, by kernel_rfl⟩⟩
instance : TZeroV PP 20 (.nilIface) := ⟨fun w => by kernel_rfl⟩
instance : TShape PP 21 false 1 := ⟨fun w => by kernel_rfl, fun w => by kernel_rfl⟩
instance : TInfo PP 21 4 := ⟨fun w => ⟨Try.t21, by rw [PP_def]; exact Try.typeInfo21 w, rfl⟩⟩
instance : TZero PP 21 [.int .i32 0] := ⟨fun w => ⟨.int .i32 0, by kernel_rfl, by kernel_rfl⟩⟩
instance : TZeroV PP 21 (.int .i32 0) := ⟨fun w => by kernel_rfl⟩
instance : TUnd PP 21 (.int (.i32)) := ⟨by kernel_rfl⟩
instance : TShape PP 22 false 1 := ⟨fun w => by kernel_rfl, fun w => by kernel_rfl⟩
instance : TInfo PP 22 24 := ⟨fun w => ⟨Try.t22, by rw [PP_def]; exact Try.typeInfo22 w, rfl⟩⟩
instance : TZero PP 22 [.slice none 0 0] := ⟨fun w => ⟨.slice none 0 0, by kernel_rfl, by kernel_rfl⟩⟩
instance : TZeroV PP 22 (.slice none 0 0) := ⟨fun w => by kernel_rfl⟩
instance : TUnd PP 22 (.slice 66) := ⟨by kernel_rfl⟩
instance : TShape PP 23 false 1 := ⟨fun w => by kernel_rfl, fun w => by kernel_rfl⟩
instance : TInfo PP 23 8 := ⟨fun w => ⟨Try.t23, by rw [PP_def]; exact Try.typeInfo23 w, rfl⟩⟩
instance : TZero PP 23 [.nilFunc] := ⟨fun w => ⟨.nilFunc, by kernel_rfl, by kernel_rfl⟩⟩
instance : TZeroV PP 23 (.nilFunc) := ⟨fun w => by kernel_rfl⟩
instance : TShape PP 24 false 1 := ⟨fun w => by kernel_rfl, fun w => by kernel_rfl⟩
instance : TInfo PP 24 8 := ⟨fun w => ⟨Try.t24, by rw [PP_def]; exact Try.typeInfo24 w, rfl⟩⟩
instance : TZero PP 24 [.nilFunc] := ⟨fun w => ⟨.nilFunc, by kernel_rfl, by kernel_rfl⟩⟩
instance : TZeroV PP 24 (.nilFunc) := ⟨fun w => by kernel_rfl⟩
instance : TShape PP 25 false 1 := ⟨fun w => by kernel_rfl, fun w => by kernel_rfl⟩
instance : TInfo PP 25 8 := ⟨fun w => ⟨Try.t25, by rw [PP_def]; exact Try.typeInfo25 w, rfl⟩⟩
instance : TZero PP 25 [.map none] := ⟨fun w => ⟨.map none, by kernel_rfl, by kernel_rfl⟩⟩
instance : TZeroV PP 25 (.map none) := ⟨fun w => by kernel_rfl⟩
instance : TUnd PP 25 (.map 27 48) := ⟨by kernel_rfl⟩
instance : TShape PP 26 false 1 := ⟨fun w => by kernel_rfl, fun w => by kernel_rfl⟩
instance : TInfo PP 26 8 := ⟨fun w => ⟨Try.t26, by rw [PP_def]; exact Try.typeInfo26 w, rfl⟩⟩
instance : TZero PP 26 [.map none] := ⟨fun w => ⟨.map none, by kernel_rfl, by kernel_rfl⟩⟩
instance : TZeroV PP 26 (.map none) := ⟨fun w => by kernel_rfl⟩
instance : TUnd PP 26 (.map 27 48) := ⟨by kernel_rfl⟩
instance : TShape PP 27 false 1 := ⟨fun w => by kernel_rfl, fun w => by kernel_rfl⟩
instance : TInfo PP 27 8 := ⟨fun w => ⟨Try.t27, by rw [PP_def]; exact Try.typeInfo27 w, rfl⟩⟩
instance : TZero PP 27 [.int .i64 0] := ⟨fun w => ⟨.int .i64 0, by kernel_rfl, by kernel_rfl⟩⟩
instance : TZeroV PP 27 (.int .i64 0) := ⟨fun w => by kernel_rfl⟩
instance : TUnd PP 27 (.int (.i64)) := ⟨by kernel_rfl⟩
instance : TShape PP 28 true 3 := ⟨fun w => by kernel_rfl, fun w => by kernel_rfl⟩
instance : TInfo PP 28 24 := ⟨fun w => ⟨Try.t28, by rw [PP_def]; exact Try.typeInfo28 w, rfl⟩⟩
instance : TZero PP 28 [.int .i64 0, .int .i64 0, .int .i64 0] := ⟨fun w => ⟨.agg #[.int .i64 0, .int .i64 0, .int .i64 0], by kernel_rfl, by kernel_rfl⟩⟩
instance : TZeroV PP 28 (.agg #[.int .i64 0, .int .i64 0, .int .i64 0]) := ⟨fun w => by kernel_rfl⟩
instance : TStruct PP 28 [.int .i64 0, .int .i64 0, .int .i64 0] [(0, 1), (1, 1), (2, 1)] := ⟨⟨_, by rw [PP_def]; exact Try.underlying28, fun w => by kernel_rfl⟩, fun w => ⟨.agg #[.int .i64 0, .int .i64 0, .int .i64 0], by kernel_rfl, by kernel_rfl⟩⟩
instance : TField PP 28 0 0 := ⟨fun b o w => by kernel_rfl⟩
instance : TPart PP 28 0 false 0 1 := part_lemma (ft := 27) (by rw [PP_def]; exact Try.underlying28) rfl rfl rfl
instance : TField PP 28 1 1 := ⟨fun b o w => by kernel_rfl⟩
instance : TPart PP 28 1 false 1 1 := part_lemma (ft := 27) (by rw [PP_def]; exact Try.underlying28) rfl rfl rfl
instance : TField PP 28 2 2 := ⟨fun b o w => by kernel_rfl⟩
instance : TPart PP 28 2 false 2 1 := part_lemma (ft := 3) (by rw [PP_def]; exact Try.underlying28) rfl rfl rfl
instance : TShape PP 29 true 3 := ⟨fun w => by kernel_rfl, fun w => by kernel_rfl⟩
instance : TInfo PP 29 24 := ⟨fun w => ⟨Try.t29, by rw [PP_def]; exact Try.typeInfo29 w, rfl⟩⟩
instance : TZero PP 29 [.int .i64 0, .int .i64 0, .int .i64 0] := ⟨fun w => ⟨.agg #[.int .i64 0, .int .i64 0, .int .i64 0], by kernel_rfl, by kernel_rfl⟩⟩
instance : TZeroV PP 29 (.agg #[.int .i64 0, .int .i64 0, .int .i64 0]) := ⟨fun w => by kernel_rfl⟩
instance : TStruct PP 29 [.int .i64 0, .int .i64 0, .int .i64 0] [(0, 1), (1, 1), (2, 1)] := ⟨⟨_, by rw [PP_def]; exact Try.underlying29, fun w => by kernel_rfl⟩, fun w => ⟨.agg #[.int .i64 0, .int .i64 0, .int .i64 0], by kernel_rfl, by kernel_rfl⟩⟩
instance : TField PP 29 0 0 := ⟨fun b o w => by kernel_rfl⟩
instance : TPart PP 29 0 false 0 1 := part_lemma (ft := 27) (by rw [PP_def]; exact Try.underlying29) rfl rfl rfl
instance : TField PP 29 1 1 := ⟨fun b o w => by kernel_rfl⟩
instance : TPart PP 29 1 false 1 1 := part_lemma (ft := 27) (by rw [PP_def]; exact Try.underlying29) rfl rfl rfl
instance : TField PP 29 2 2 := ⟨fun b o w => by kernel_rfl⟩
instance : TPart PP 29 2 false 2 1 := part_lemma (ft := 3) (by rw [PP_def]; exact Try.underlying29) rfl rfl rfl
instance : TShape PP 30 true 4 := ⟨fun w => by kernel_rfl, fun w => by kernel_rfl⟩
instance : TInfo PP 30 32 := ⟨fun w => ⟨Try.t30, by rw [PP_def]; exact Try.typeInfo30 w, rfl⟩⟩
instance : TZero PP 30 [.int .i64 0, .int .i64 0, .int .i64 0, .int .i64 0] := ⟨fun w => ⟨.agg #[.int .i64 0, .int .i64 0, .int .i64 0, .int .i64 0], by kernel_rfl, by kernel_rfl⟩⟩
instance : TZeroV PP 30 (.agg #[.int .i64 0, .int .i64 0, .int .i64 0, .int .i64 0]) := ⟨fun w => by kernel_rfl⟩
instance : TStruct PP 30 [.int .i64 0, .int .i64 0, .int .i64 0, .int .i64 0] [(0, 3), (3, 1)] := ⟨⟨_, by rw [PP_def]; exact Try.underlying30, fun w => by kernel_rfl⟩, fun w => ⟨.agg #[.int .i64 0, .int .i64 0, .int .i64 0, .int .i64 0], by kernel_rfl, by kernel_rfl⟩⟩
instance : TField PP 30 0 0 := ⟨fun b o w => by kernel_rfl⟩
instance : TPart PP 30 0 true 0 3 := part_lemma (ft := 29) (by rw [PP_def]; exact Try.underlying30) rfl rfl rfl
instance : TField PP 30 1 3 := ⟨fun b o w => by kernel_rfl⟩
instance : TPart PP 30 1 false 3 1 := part_lemma (ft := 27) (by rw [PP_def]; exact Try.underlying30) rfl rfl rfl
instance : TShape PP 31 true 4 := ⟨fun w => by kernel_rfl, fun w => by kernel_rfl⟩
instance : TInfo PP 31 32 := ⟨fun w => ⟨Try.t31, by rw [PP_def]; exact Try.typeInfo31 w, rfl⟩⟩
instance : TZero PP 31 [.int .i64 0, .int .i64 0, .int .i64 0, .int .i64 0] := ⟨fun w => ⟨.agg #[.int .i64 0, .int .i64 0, .int .i64 0, .int .i64 0], by kernel_rfl, by kernel_rfl⟩⟩
instance : TZeroV PP 31 (.agg #[.int .i64 0, .int .i64 0, .int .i64 0, .int .i64 0]) := ⟨fun w => by kernel_rfl⟩
instance : TStruct PP 31 [.int .i64 0, .int .i64 0, .int .i64 0, .int .i64 0] [(0, 3), (3, 1)] := ⟨⟨_, by rw [PP_def]; exact Try.underlying31, fun w => by kernel_rfl⟩, fun w => ⟨.agg #[.int .i64 0, .int .i64 0, .int .i64 0, .int .i64 0], by kernel_rfl, by kernel_rfl⟩⟩
instance : TField PP 31 0 0 := ⟨fun b o w => by kernel_rfl⟩
instance : TPart PP 31 0 true 0 3 := part_lemma (ft := 29) (by rw [PP_def]; exact Try.underlying31) rfl rfl rfl
instance : TField PP 31 1 3 := ⟨fun b o w => by kernel_rfl⟩
instance : TPart PP 31 1 false 3 1 := part_lemma (ft := 27) (by rw [PP_def]; exact Try.underlying31) rfl rfl rfl
instance : TShape PP 32 false 1 := ⟨fun w => by kernel_rfl, fun w => by kernel_rfl⟩
instance : TInfo PP 32 24 := ⟨fun w => ⟨Try.t32, by rw [PP_def]; exact Try.typeInfo32 w, rfl⟩⟩
instance : TZero PP 32 [.slice none 0 0] := ⟨fun w => ⟨.slice none 0 0, by kernel_rfl, by kernel_rfl⟩⟩
instance : TZeroV PP 32 (.slice none 0 0) := ⟨fun w => by kernel_rfl⟩
instance : TUnd PP 32 (.slice 3) := ⟨by kernel_rfl⟩
instance : TShape PP 33 true 3 := ⟨fun w => by kernel_rfl, fun w => by kernel_rfl⟩
instance : TInfo PP 33 72 := ⟨fun w => ⟨Try.t33, by rw [PP_def]; exact Try.typeInfo33 w, rfl⟩⟩
instance : TZero PP 33 [.slice none 0 0, .slice none 0 0, .slice none 0 0] := ⟨fun w => ⟨.agg #[.slice none 0 0, .slice none 0 0, .slice none 0 0], by kernel_rfl, by kernel_rfl⟩⟩
instance : TZeroV PP 33 (.agg #[.slice none 0 0, .slice none 0 0, .slice none 0 0]) := ⟨fun w => by kernel_rfl⟩
instance : TStruct PP 33 [.slice none 0 0, .slice none 0 0, .slice none 0 0] [(0, 1), (1, 1), (2, 1)] := ⟨⟨_, by rw [PP_def]; exact Try.underlying33, fun w => by kernel_rfl⟩, fun w => ⟨.agg #[.slice none 0 0, .slice none 0 0, .slice none 0 0], by kernel_rfl, by kernel_rfl⟩⟩
instance : TField PP 33 0 0 := ⟨fun b o w => by kernel_rfl⟩
instance : TPart PP 33 0 false 0 1 := part_lemma (ft := 32) (by rw [PP_def]; exact Try.underlying33) rfl rfl rfl
instance : TField PP 33 1 1 := ⟨fun b o w => by kernel_rfl⟩
instance : TPart PP 33 1 false 1 1 := part_lemma (ft := 32) (by rw [PP_def]; exact Try.underlying33) rfl rfl rfl
instance : TField PP 33 2 2 := ⟨fun b o w => by kernel_rfl⟩
instance : TPart PP 33 2 false 2 1 := part_lemma (ft := 32) (by rw [PP_def]; exact Try.underlying33) rfl rfl rfl
instance : TShape PP 34 true 3 := ⟨fun w => by kernel_rfl, fun w => by kernel_rfl⟩
instance : TInfo PP 34 72 := ⟨fun w => ⟨Try.t34, by rw [PP_def]; exact Try.typeInfo34 w, rfl⟩⟩
instance : TZero PP 34 [.slice none 0 0, .slice none 0 0, .slice none 0 0] := ⟨fun w => ⟨.agg #[.slice none 0 0, .slice none 0 0, .slice none 0 0], by kernel_rfl, by kernel_rfl⟩⟩
instance : TZeroV PP 34 (.agg #[.slice none 0 0, .slice none 0 0, .slice none 0 0]) := ⟨fun w => by kernel_rfl⟩
instance : TStruct PP 34 [.slice none 0 0, .slice none 0 0, .slice none 0 0] [(0, 1), (1, 1), (2, 1)] := ⟨⟨_, by rw [PP_def]; exact Try.underlying34, fun w => by kernel_rfl⟩, fun w => ⟨.agg #[.slice none 0 0, .slice none 0 0, .slice none 0 0], by kernel_rfl, by kernel_rfl⟩⟩
instance : TField PP 34 0 0 := ⟨fun b o w => by kernel_rfl⟩
instance : TPart PP 34 0 false 0 1 := part_lemma (ft := 32) (by rw [PP_def]; exact Try.underlying34) rfl rfl rfl
instance : TField PP 34 1 1 := ⟨fun b o w => by kernel_rfl⟩
instance : TPart PP 34 1 false 1 1 := part_lemma (ft := 32) (by rw [PP_def]; exact Try.underlying34) rfl rfl rfl
instance : TField PP 34 2 2 := ⟨fun b o w => by kernel_rfl⟩
instance : TPart PP 34 2 false 2 1 := part_lemma (ft := 32) (by rw [PP_def]; exact Try.underlying34) rfl rfl rfl
instance : TShape PP 35 true 8 := ⟨fun w => by kernel_rfl, fun w => by kernel_rfl⟩
instance : TInfo PP 35 112 := ⟨fun w => ⟨Try.t35, by rw [PP_def]; exact Try.typeInfo35 w, rfl⟩⟩
instance : TZero PP 35 [.map none, .int .i64 0, .int .i64 0, .int .i64 0, .int .i64 0, .slice none 0 0, .slice none 0 0, .slice none 0 0] := ⟨fun w => ⟨.agg #[.map none, .int .i64 0, .int .i64 0, .int .i64 0, .int .i64 0, .slice none 0 0, .slice none 0 0, .slice none 0 0], by kernel_rfl, by kernel_rfl⟩⟩
instance : TZeroV PP 35 (.agg #[.map none, .int .i64 0, .int .i64 0, .int .i64 0, .int .i64 0, .slice none 0 0, .slice none 0 0, .slice none 0 0]) := ⟨fun w => by kernel_rfl⟩
instance : TStruct PP 35 [.map none, .int .i64 0, .int .i64 0, .int .i64 0, .int .i64 0, .slice none 0 0, .slice none 0 0, .slice none 0 0] [(0, 1), (1, 4), (5, 3)] := ⟨⟨_, by rw [PP_def]; exact Try.underlying35, fun w => by kernel_rfl⟩, fun w => ⟨.agg #[.map none, .int .i64 0, .int .i64 0, .int .i64 0, .int .i64 0, .slice none 0 0, .slice none 0 0, .slice none 0 0], by kernel_rfl, by kernel_rfl⟩⟩
instance : TField PP 35 0 0 := ⟨fun b o w => by kernel_rfl⟩
instance : TPart PP 35 0 false 0 1 := part_lemma (ft := 26) (by rw [PP_def]; exact Try.underlying35) rfl rfl rfl
instance : TField PP 35 1 1 := ⟨fun b o w => by kernel_rfl⟩
instance : TPart PP 35 1 true 1 4 := part_lemma (ft := 31) (by rw [PP_def]; exact Try.underlying35) rfl rfl rfl
instance : TField PP 35 2 5 := ⟨fun b o w => by kernel_rfl⟩
instance : TPart PP 35 2 true 5 3 := part_lemma (ft := 34) (by rw [PP_def]; exact Try.underlying35) rfl rfl rfl
instance : TShape PP 36 true 8 := ⟨fun w => by kernel_rfl, fun w => by kernel_rfl⟩
instance : TInfo PP 36 112 := ⟨fun w => ⟨Try.t36, by rw [PP_def]; exact Try.typeInfo36 w, rfl⟩⟩
instance : TZero PP 36 [.map none, .int .i64 0, .int .i64 0, .int .i64 0, .int .i64 0, .slice none 0 0, .slice none 0 0, .slice none 0 0] := ⟨fun w => ⟨.agg #[.map none, .int .i64 0, .int .i64 0, .int .i64 0, .int .i64 0, .slice none 0 0, .slice none 0 0, .slice none 0 0], by kernel_rfl, by kernel_rfl⟩⟩
instance : TZeroV PP 36 (.agg #[.map none, .int .i64 0, .int .i64 0, .int .i64 0, .int .i64 0, .slice none 0 0, .slice none 0 0, .slice none 0 0]) := ⟨fun w => by kernel_rfl⟩
instance : TStruct PP 36 [.map none, .int .i64 0, .int .i64 0, .int .i64 0, .int .i64 0, .slice none 0 0, .slice none 0 0, .slice none 0 0] [(0, 1), (1, 4), (5, 3)] := ⟨⟨_, by rw [PP_def]; exact Try.underlying36, fun w => by kernel_rfl⟩, fun w => ⟨.agg #[.map none, .int .i64 0, .int .i64 0, .int .i64 0, .int .i64 0, .slice none 0 0, .slice none 0 0, .slice none 0 0], by kernel_rfl, by kernel_rfl⟩⟩
instance : TField PP 36 0 0 := ⟨fun b o w => by kernel_rfl⟩
instance : TPart PP 36 0 false 0 1 := part_lemma (ft := 26) (by rw [PP_def]; exact Try.underlying36) rfl rfl rfl
instance : TField PP 36 1 1 := ⟨fun b o w => by kernel_rfl⟩
instance : TPart PP 36 1 true 1 4 := part_lemma (ft := 31) (by rw [PP_def]; exact Try.underlying36) rfl rfl rfl
instance : TField PP 36 2 5 := ⟨fun b o w => by kernel_rfl⟩
instance : TPart PP 36 2 true 5 3 := part_lemma (ft := 34) (by rw [PP_def]; exact Try.underlying36) rfl rfl rfl
instance : TShape PP 38 false 1 := ⟨fun w => by kernel_rfl, fun w => by kernel_rfl⟩
instance : TInfo PP 38 8 := ⟨fun w => ⟨Try.t38, by rw [PP_def]; exact Try.typeInfo38 w, rfl⟩⟩
instance : TZero PP 38 [.nilFunc] := ⟨fun w => ⟨.nilFunc, by kernel_rfl, by kernel_rfl⟩⟩
instance : TZeroV PP 38 (.nilFunc) := ⟨fun w => by kernel_rfl⟩
instance : TShape PP 39 false 1 := ⟨fun w => by kernel_rfl, fun w => by kernel_rfl⟩
instance : TInfo PP 39 8 := ⟨fun w => ⟨Try.t39, by rw [PP_def]; exact Try.typeInfo39 w, rfl⟩⟩
instance : TZero PP 39 [.nilFunc] := ⟨fun w => ⟨.nilFunc, by kernel_rfl, by kernel_rfl⟩⟩
instance : TZeroV PP 39 (.nilFunc) := ⟨fun w => by kernel_rfl⟩
instance : TShape PP 40 false 1 := ⟨fun w => by kernel_rfl, fun w => by kernel_rfl⟩
instance : TInfo PP 40 24 := ⟨fun w => ⟨Try.t40, by rw [PP_def]; exact Try.typeInfo40 w, rfl⟩⟩
instance : TZero PP 40 [.slice none 0 0] := ⟨fun w => ⟨.slice none 0 0, by kernel_rfl, by kernel_rfl⟩⟩
instance : TZeroV PP 40 (.slice none 0 0) := ⟨fun w => by kernel_rfl⟩
instance : TUnd PP 40 (.slice 55) := ⟨by kernel_rfl⟩
instance : TShape PP 41 false 1 := ⟨fun w => by kernel_rfl, fun w => by kernel_rfl⟩
instance : TInfo PP 41 24 := ⟨fun w => ⟨Try.t41, by rw [PP_def]; exact Try.typeInfo41 w, rfl⟩⟩
instance : TZero PP 41 [.slice none 0 0] := ⟨fun w => ⟨.slice none 0 0, by kernel_rfl, by kernel_rfl⟩⟩
instance : TZeroV PP 41 (.slice none 0 0) := ⟨fun w => by kernel_rfl⟩
instance : TUnd PP 41 (.slice 2) := ⟨by kernel_rfl⟩
instance : TShape PP 42 false 1 := ⟨fun w => by kernel_rfl, fun w => by kernel_rfl⟩
instance : TInfo PP 42 24 := ⟨fun w => ⟨Try.t42, by rw [PP_def]; exact Try.typeInfo42 w, rfl⟩⟩
instance : TZero PP 42 [.slice none 0 0] := ⟨fun w => ⟨.slice none 0 0, by kernel_rfl, by kernel_rfl⟩⟩
instance : TZeroV PP 42 (.slice none 0 0) := ⟨fun w => by kernel_rfl⟩
instance : TUnd PP 42 (.slice 81) := ⟨by kernel_rfl⟩
instance : TShape PP 44 false 1 := ⟨fun w => by kernel_rfl, fun w => by kernel_rfl⟩
instance : TInfo PP 44 8 := ⟨fun w => ⟨Try.t44, by rw [PP_def]; exact Try.typeInfo44 w, rfl⟩⟩
instance : TZero PP 44 [.nilFunc] := ⟨fun w => ⟨.nilFunc, by kernel_rfl, by kernel_rfl⟩⟩
instance : TZeroV PP 44 (.nilFunc) := ⟨fun w => by kernel_rfl⟩
instance : TShape PP 45 false 1 := ⟨fun w => by kernel_rfl, fun w => by kernel_rfl⟩
instance : TInfo PP 45 8 := ⟨fun w => ⟨Try.t45, by rw [PP_def]; exact Try.typeInfo45 w, rfl⟩⟩
instance : TZero PP 45 [.pointer none] := ⟨fun w => ⟨.pointer none, by kernel_rfl, by kernel_rfl⟩⟩
instance : TZeroV PP 45 (.pointer none) := ⟨fun w => by kernel_rfl⟩
instance : TUnd PP 45 (.pointer 101) := ⟨by kernel_rfl⟩
instance : TShape PP 46 false 1 := ⟨fun w => by kernel_rfl, fun w => by kernel_rfl⟩
instance : TInfo PP 46 4 := ⟨fun w => ⟨Try.t46, by rw [PP_def]; exact Try.typeInfo46 w, rfl⟩⟩
instance : TZero PP 46 [.int .u32 0] := ⟨fun w => ⟨.int .u32 0, by kernel_rfl, by kernel_rfl⟩⟩
instance : TZeroV PP 46 (.int .u32 0) := ⟨fun w => by kernel_rfl⟩
instance : TUnd PP 46 (.int (.u32)) := ⟨by kernel_rfl⟩
instance : TShape PP 47 true 3 := ⟨fun w => by kernel_rfl, fun w => by kernel_rfl⟩
instance : TInfo PP 47 16 := ⟨fun w => ⟨Try.t47, by rw [PP_def]; exact Try.typeInfo47 w, rfl⟩⟩
instance : TZero PP 47 [.int .i64 0, .int .u32 0, .int .u32 0] := ⟨fun w => ⟨.agg #[.int .i64 0, .int .u32 0, .int .u32 0], by kernel_rfl, by kernel_rfl⟩⟩
instance : TZeroV PP 47 (.agg #[.int .i64 0, .int .u32 0, .int .u32 0]) := ⟨fun w => by kernel_rfl⟩
instance : TStruct PP 47 [.int .i64 0, .int .u32 0, .int .u32 0] [(0, 1), (1, 1), (2, 1)] := ⟨⟨_, by rw [PP_def]; exact Try.underlying47, fun w => by kernel_rfl⟩, fun w => ⟨.agg #[.int .i64 0, .int .u32 0, .int .u32 0], by kernel_rfl, by kernel_rfl⟩⟩
instance : TField PP 47 0 0 := ⟨fun b o w => by kernel_rfl⟩
instance : TPart PP 47 0 false 0 1 := part_lemma (ft := 2) (by rw [PP_def]; exact Try.underlying47) rfl rfl rfl
instance : TField PP 47 1 1 := ⟨fun b o w => by kernel_rfl⟩
instance : TPart PP 47 1 false 1 1 := part_lemma (ft := 46) (by rw [PP_def]; exact Try.underlying47) rfl rfl rfl
instance : TField PP 47 2 2 := ⟨fun b o w => by kernel_rfl⟩
instance : TPart PP 47 2 false 2 1 := part_lemma (ft := 46) (by rw [PP_def]; exact Try.underlying47) rfl rfl rfl
instance : TShape PP 48 true 3 := ⟨fun w => by kernel_rfl, fun w => by kernel_rfl⟩
instance : TInfo PP 48 16 := ⟨fun w => ⟨Try.t48, by rw [PP_def]; exact Try.typeInfo48 w, rfl⟩⟩
instance : TZero PP 48 [.int .i64 0, .int .u32 0, .int .u32 0] := ⟨fun w => ⟨.agg #[.int .i64 0, .int .u32 0, .int .u32 0], by kernel_rfl, by kernel_rfl⟩⟩
instance : TZeroV PP 48 (.agg #[.int .i64 0, .int .u32 0, .int .u32 0]) := ⟨fun w => by kernel_rfl⟩
instance : TStruct PP 48 [.int .i64 0, .int .u32 0, .int .u32 0] [(0, 1), (1, 1), (2, 1)] := ⟨⟨_, by rw [PP_def]; exact Try.underlying48, fun w => by kernel_rfl⟩, fun w => ⟨.agg #[.int .i64 0, .int .u32 0, .int .u32 0], by kernel_rfl, by kernel_rfl⟩⟩
instance : TField PP 48 0 0 := ⟨fun b o w => by kernel_rfl⟩
instance : TPart PP 48 0 false 0 1 := part_lemma (ft := 2) (by rw [PP_def]; exact Try.underlying48) rfl rfl rfl
instance : TField PP 48 1 1 := ⟨fun b o w => by kernel_rfl⟩
instance : TPart PP 48 1 false 1 1 := part_lemma (ft := 46) (by rw [PP_def]; exact Try.underlying48) rfl rfl rfl
instance : TField PP 48 2 2 := ⟨fun b o w => by kernel_rfl⟩
instance : TPart PP 48 2 false 2 1 := part_lemma (ft := 46) (by rw [PP_def]; exact Try.underlying48) rfl rfl rfl
instance : TShape PP 49 false 1 := ⟨fun w => by kernel_rfl, fun w => by kernel_rfl⟩
instance : TInfo PP 49 8 := ⟨fun w => ⟨Try.t49, by rw [PP_def]; exact Try.typeInfo49 w, rfl⟩⟩
instance : TZero PP 49 [.int .i64 0] := ⟨fun w => ⟨.int .i64 0, by kernel_rfl, by kernel_rfl⟩⟩
instance : TZeroV PP 49 (.int .i64 0) := ⟨fun w => by kernel_rfl⟩
instance : TUnd PP 49 (.int (.i64)) := ⟨by kernel_rfl⟩
instance : TShape PP 51 false 1 := ⟨fun w => by kernel_rfl, fun w => by kernel_rfl⟩
instance : TInfo PP 51 8 := ⟨fun w => ⟨Try.t51, by rw [PP_def]; exact Try.typeInfo51 w, rfl⟩⟩
instance : TZero PP 51 [.nilFunc] := ⟨fun w => ⟨.nilFunc, by kernel_rfl, by kernel_rfl⟩⟩
instance : TZeroV PP 51 (.nilFunc) := ⟨fun w => by kernel_rfl⟩
instance : TShape PP 52 false 1 := ⟨fun w => by kernel_rfl, fun w => by kernel_rfl⟩
instance : TInfo PP 52 8 := ⟨fun w => ⟨Try.t52, by rw [PP_def]; exact Try.typeInfo52 w, rfl⟩⟩
instance : TZero PP 52 [.nilFunc] := ⟨fun w => ⟨.nilFunc, by kernel_rfl, by kernel_rfl⟩⟩
instance : TZeroV PP 52 (.nilFunc) := ⟨fun w => by kernel_rfl⟩
instance : TShape PP 53 false 1 := ⟨fun w => by kernel_rfl, fun w => by kernel_rfl⟩
instance : TInfo PP 53 8 := ⟨fun w => ⟨Try.t53, by rw [PP_def]; exact Try.typeInfo53 w, rfl⟩⟩
instance : TZero PP 53 [.nilFunc] := ⟨fun w => ⟨.nilFunc, by kernel_rfl, by kernel_rfl⟩⟩
instance : TZeroV PP 53 (.nilFunc) := ⟨fun w => by kernel_rfl⟩
instance : TShape PP 54 false 1 := ⟨fun w => by kernel_rfl, fun w => by kernel_rfl⟩
instance : TInfo PP 54 24 := ⟨fun w => ⟨Try.t54, by rw [PP_def]; exact Try.typeInfo54 w, rfl⟩⟩
instance : TZero PP 54 [.slice none 0 0] := ⟨fun w => ⟨.slice none 0 0, by kernel_rfl, by kernel_rfl⟩⟩
instance : TZeroV PP 54 (.slice none 0 0) := ⟨fun w => by kernel_rfl⟩
instance : TUnd PP 54 (.slice 41) := ⟨by kernel_rfl⟩
instance : TShape PP 55 true 2 := ⟨fun w => by kernel_rfl, fun w => by kernel_rfl⟩
instance : TInfo PP 55 2 := ⟨fun w => ⟨Try.t55, by rw [PP_def]; exact Try.typeInfo55 w, rfl⟩⟩
instance : TZero PP 55 [.int .u8 0, .int .u8 0] := ⟨fun w => ⟨.agg #[.int .u8 0, .int .u8 0], by kernel_rfl, by kernel_rfl⟩⟩
instance : TZeroV PP 55 (.agg #[.int .u8 0, .int .u8 0]) := ⟨fun w => by kernel_rfl⟩
instance : TUnd PP 55 (.array 2 5) := ⟨by kernel_rfl⟩
instance : TShape PP 56 false 1 := ⟨fun w => by kernel_rfl, fun w => by kernel_rfl⟩
instance : TInfo PP 56 8 := ⟨fun w => ⟨Try.t56, by rw [PP_def]; exact Try.typeInfo56 w, rfl⟩⟩
instance : TZero PP 56 [.nilFunc] := ⟨fun w => ⟨.nilFunc, by kernel_rfl, by kernel_rfl⟩⟩
instance : TZeroV PP 56 (.nilFunc) := ⟨fun w => by kernel_rfl⟩
instance : TShape PP 58 false 1 := ⟨fun w => by kernel_rfl, fun w => by kernel_rfl⟩
instance : TInfo PP 58 8 := ⟨fun w => ⟨Try.t58, by rw [PP_def]; exact Try.typeInfo58 w, rfl⟩⟩
instance : TZero PP 58 [.nilFunc] := ⟨fun w => ⟨.nilFunc, by kernel_rfl, by kernel_rfl⟩⟩
instance : TZeroV PP 58 (.nilFunc) := ⟨fun w => by kernel_rfl⟩
instance : TShape PP 59 false 1 := ⟨fun w => by kernel_rfl, fun w => by kernel_rfl⟩
instance : TInfo PP 59 8 := ⟨fun w => ⟨Try.t59, by rw [PP_def]; exact Try.typeInfo59 w, rfl⟩⟩
instance : TZero PP 59 [.nilFunc] := ⟨fun w => ⟨.nilFunc, by kernel_rfl, by kernel_rfl⟩⟩
instance : TZeroV PP 59 (.nilFunc) := ⟨fun w => by kernel_rfl⟩
instance : TShape PP 60 false 1 := ⟨fun w => by kernel_rfl, fun w => by kernel_rfl⟩
instance : TInfo PP 60 8 := ⟨fun w => ⟨Try.t60, by rw [PP_def]; exact Try.typeInfo60 w, rfl⟩⟩
instance : TZero PP 60 [.nilFunc] := ⟨fun w => ⟨.nilFunc, by kernel_rfl, by kernel_rfl⟩⟩
instance : TZeroV PP 60 (.nilFunc) := ⟨fun w => by kernel_rfl⟩
instance : TShape PP 61 false 1 := ⟨fun w => by kernel_rfl, fun w => by kernel_rfl⟩
instance : TInfo PP 61 8 := ⟨fun w => ⟨Try.t61, by rw [PP_def]; exact Try.typeInfo61 w, rfl⟩⟩
instance : TZero PP 61 [.nilFunc] := ⟨fun w => ⟨.nilFunc, by kernel_rfl, by kernel_rfl⟩⟩
instance : TZeroV PP 61 (.nilFunc) := ⟨fun w => by kernel_rfl⟩
instance : TShape PP 62 false 1 := ⟨fun w => by kernel_rfl, fun w => by kernel_rfl⟩
instance : TInfo PP 62 8 := ⟨fun w => ⟨Try.t62, by rw [PP_def]; exact Try.typeInfo62 w, rfl⟩⟩
instance : TZero PP 62 [.map none] := ⟨fun w => ⟨.map none, by kernel_rfl, by kernel_rfl⟩⟩
instance : TZeroV PP 62 (.map none) := ⟨fun w => by kernel_rfl⟩
instance : TUnd PP 62 (.map 2 2) := ⟨by kernel_rfl⟩
instance : TShape PP 63 false 1 := ⟨fun w => by kernel_rfl, fun w => by kernel_rfl⟩
instance : TInfo PP 63 8 := ⟨fun w => ⟨Try.t63, by rw [PP_def]; exact Try.typeInfo63 w, rfl⟩⟩
instance : TZero PP 63 [.nilFunc] := ⟨fun w => ⟨.nilFunc, by kernel_rfl, by kernel_rfl⟩⟩
instance : TZeroV PP 63 (.nilFunc) := ⟨fun w => by kernel_rfl⟩
instance : TShape PP 64 false 1 := ⟨fun w => by kernel_rfl, fun w => by kernel_rfl⟩
instance : TInfo PP 64 8 := ⟨fun w => ⟨Try.t64, by rw [PP_def]; exact Try.typeInfo64 w, rfl⟩⟩
instance : TZero PP 64 [.nilFunc] := ⟨fun w => ⟨.nilFunc, by kernel_rfl, by kernel_rfl⟩⟩
instance : TZeroV PP 64 (.nilFunc) := ⟨fun w => by kernel_rfl⟩
instance : TShape PP 65 true 3 := ⟨fun w => by kernel_rfl, fun w => by kernel_rfl⟩
instance : TInfo PP 65 24 := ⟨fun w => ⟨Try.t65, by rw [PP_def]; exact Try.typeInfo65 w, rfl⟩⟩
instance : TZero PP 65 [.int .u8 0, .int .i64 0, .int .i64 0] := ⟨fun w => ⟨.agg #[.int .u8 0, .int .i64 0, .int .i64 0], by kernel_rfl, by kernel_rfl⟩⟩
instance : TZeroV PP 65 (.agg #[.int .u8 0, .int .i64 0, .int .i64 0]) := ⟨fun w => by kernel_rfl⟩
instance : TStruct PP 65 [.int .u8 0, .int .i64 0, .int .i64 0] [(0, 1), (1, 1), (2, 1)] := ⟨⟨_, by rw [PP_def]; exact Try.underlying65, fun w => by kernel_rfl⟩, fun w => ⟨.agg #[.int .u8 0, .int .i64 0, .int .i64 0], by kernel_rfl, by kernel_rfl⟩⟩
instance : TField PP 65 0 0 := ⟨fun b o w => by kernel_rfl⟩
instance : TPart PP 65 0 false 0 1 := part_lemma (ft := 5) (by rw [PP_def]; exact Try.underlying65) rfl rfl rfl
instance : TField PP 65 1 1 := ⟨fun b o w => by kernel_rfl⟩
instance : TPart PP 65 1 false 1 1 := part_lemma (ft := 2) (by rw [PP_def]; exact Try.underlying65) rfl rfl rfl
instance : TField PP 65 2 2 := ⟨fun b o w => by kernel_rfl⟩
instance : TPart PP 65 2 false 2 1 := part_lemma (ft := 2) (by rw [PP_def]; exact Try.underlying65) rfl rfl rfl
instance : TShape PP 66 true 3 := ⟨fun w => by kernel_rfl, fun w => by kernel_rfl⟩
instance : TInfo PP 66 24 := ⟨fun w => ⟨Try.t66, by rw [PP_def]; exact Try.typeInfo66 w, rfl⟩⟩
instance : TZero PP 66 [.int .u8 0, .int .i64 0, .int .i64 0] := ⟨fun w => ⟨.agg #[.int .u8 0, .int .i64 0, .int .i64 0], by kernel_rfl, by kernel_rfl⟩⟩
instance : TZeroV PP 66 (.agg #[.int .u8 0, .int .i64 0, .int .i64 0]) := ⟨fun w => by kernel_rfl⟩
instance : TStruct PP 66 [.int .u8 0, .int .i64 0, .int .i64 0] [(0, 1), (1, 1), (2, 1)] := ⟨⟨_, by rw [PP_def]; exact Try.underlying66, fun w => by kernel_rfl⟩, fun w => ⟨.agg #[.int .u8 0, .int .i64 0, .int .i64 0], by kernel_rfl, by kernel_rfl⟩⟩
instance : TField PP 66 0 0 := ⟨fun b o w => by kernel_rfl⟩
instance : TPart PP 66 0 false 0 1 := part_lemma (ft := 5) (by rw [PP_def]; exact Try.underlying66) rfl rfl rfl
instance : TField PP 66 1 1 := ⟨fun b o w => by kernel_rfl⟩
instance : TPart PP 66 1 false 1 1 := part_lemma (ft := 2) (by rw [PP_def]; exact Try.underlying66) rfl rfl rfl
instance : TField PP 66 2 2 := ⟨fun b o w => by kernel_rfl⟩
instance : TPart PP 66 2 false 2 1 := part_lemma (ft := 2) (by rw [PP_def]; exact Try.underlying66) rfl rfl rfl
instance : TShape PP 67 false 1 := ⟨fun w => by kernel_rfl, fun w => by kernel_rfl⟩
instance : TInfo PP 67 8 := ⟨fun w => ⟨Try.t67, by rw [PP_def]; exact Try.typeInfo67 w, rfl⟩⟩
instance : TZero PP 67 [.nilFunc] := ⟨fun w => ⟨.nilFunc, by kernel_rfl, by kernel_rfl⟩⟩
instance : TZeroV PP 67 (.nilFunc) := ⟨fun w => by kernel_rfl⟩
instance : TShape PP 68 false 1 := ⟨fun w => by kernel_rfl, fun w => by kernel_rfl⟩
instance : TInfo PP 68 8 := ⟨fun w => ⟨Try.t68, by rw [PP_def]; exact Try.typeInfo68 w, rfl⟩⟩
instance : TZero PP 68 [.nilFunc] := ⟨fun w => ⟨.nilFunc, by kernel_rfl, by kernel_rfl⟩⟩
instance : TZeroV PP 68 (.nilFunc) := ⟨fun w => by kernel_rfl⟩
instance : TShape PP 69 false 1 := ⟨fun w => by kernel_rfl, fun w => by kernel_rfl⟩
instance : TInfo PP 69 24 := ⟨fun w => ⟨Try.t69, by rw [PP_def]; exact Try.typeInfo69 w, rfl⟩⟩
instance : TZero PP 69 [.slice none 0 0] := ⟨fun w => ⟨.slice none 0 0, by kernel_rfl, by kernel_rfl⟩⟩
instance : TZeroV PP 69 (.slice none 0 0) := ⟨fun w => by kernel_rfl⟩
instance : TUnd PP 69 (.slice 27) := ⟨by kernel_rfl⟩
instance : TShape PP 70 false 1 := ⟨fun w => by kernel_rfl, fun w => by kernel_rfl⟩
instance : TInfo PP 70 8 := ⟨fun w => ⟨Try.t70, by rw [PP_def]; exact Try.typeInfo70 w, rfl⟩⟩
instance : TZero PP 70 [.nilFunc] := ⟨fun w => ⟨.nilFunc, by kernel_rfl, by kernel_rfl⟩⟩
instance : TZeroV PP 70 (.nilFunc) := ⟨fun w => by kernel_rfl⟩
instance : TShape PP 71 false 1 := ⟨fun w => by kernel_rfl, fun w => by kernel_rfl⟩
instance : TInfo PP 71 8 := ⟨fun w => ⟨Try.t71, by rw [PP_def]; exact Try.typeInfo71 w, rfl⟩⟩
instance : TZero PP 71 [.nilFunc] := ⟨fun w => ⟨.nilFunc, by kernel_rfl, by kernel_rfl⟩⟩
instance : TZeroV PP 71 (.nilFunc) := ⟨fun w => by kernel_rfl⟩
instance : TShape PP 72 false 1 := ⟨fun w => by kernel_rfl, fun w => by kernel_rfl⟩
instance : TInfo PP 72 8 := ⟨fun w => ⟨Try.t72, by rw [PP_def]; exact Try.typeInfo72 w, rfl⟩⟩
instance : TZero PP 72 [.nilFunc] := ⟨fun w => ⟨.nilFunc, by kernel_rfl, by kernel_rfl⟩⟩
instance : TZeroV PP 72 (.nilFunc) := ⟨fun w => by kernel_rfl⟩
instance : TShape PP 73 false 1 := ⟨fun w => by kernel_rfl, fun w => by kernel_rfl⟩
instance : TInfo PP 73 8 := ⟨fun w => ⟨Try.t73, by rw [PP_def]; exact Try.typeInfo73 w, rfl⟩⟩
instance : TZero PP 73 [.nilFunc] := ⟨fun w => ⟨.nilFunc, by kernel_rfl, by kernel_rfl⟩⟩
instance : TZeroV PP 73 (.nilFunc) := ⟨fun w => by kernel_rfl⟩
instance : TShape PP 74 false 1 := ⟨fun w => by kernel_rfl, fun w => by kernel_rfl⟩
instance : TInfo PP 74 8 := ⟨fun w => ⟨Try.t74, by rw [PP_def]; exact Try.typeInfo74 w, rfl⟩⟩
instance : TZero PP 74 [.nilFunc] := ⟨fun w => ⟨.nilFunc, by kernel_rfl, by kernel_rfl⟩⟩
instance : TZeroV PP 74 (.nilFunc) := ⟨fun w => by kernel_rfl⟩
instance : TShape PP 75 false 1 := ⟨fun w => by kernel_rfl, fun w => by kernel_rfl⟩
instance : TInfo PP 75 8 := ⟨fun w => ⟨Try.t75, by rw [PP_def]; exact Try.typeInfo75 w, rfl⟩⟩
instance : TZero PP 75 [.nilFunc] := ⟨fun w => ⟨.nilFunc, by kernel_rfl, by kernel_rfl⟩⟩
instance : TZeroV PP 75 (.nilFunc) := ⟨fun w => by kernel_rfl⟩
instance : TShape PP 76 false 1 := ⟨fun w => by kernel_rfl, fun w => by kernel_rfl⟩
instance : TInfo PP 76 8 := ⟨fun w => ⟨Try.t76, by rw [PP_def]; exact Try.typeInfo76 w, rfl⟩⟩
instance : TZero PP 76 [.nilFunc] := ⟨fun w => ⟨.nilFunc, by kernel_rfl, by kernel_rfl⟩⟩
instance : TZeroV PP 76 (.nilFunc) := ⟨fun w => by kernel_rfl⟩
instance : TShape PP 77 false 1 := ⟨fun w => by kernel_rfl, fun w => by kernel_rfl⟩
instance : TInfo PP 77 8 := ⟨fun w => ⟨Try.t77, by rw [PP_def]; exact Try.typeInfo77 w, rfl⟩⟩
instance : TZero PP 77 [.nilFunc] := ⟨fun w => ⟨.nilFunc, by kernel_rfl, by kernel_rfl⟩⟩
instance : TZeroV PP 77 (.nilFunc) := ⟨fun w => by kernel_rfl⟩
instance : TShape PP 79 false 1 := ⟨fun w => by kernel_rfl, fun w => by kernel_rfl⟩
instance : TInfo PP 79 8 := ⟨fun w => ⟨Try.t79, by rw [PP_def]; exact Try.typeInfo79 w, rfl⟩⟩
instance : TZero PP 79 [.nilFunc] := ⟨fun w => ⟨.nilFunc, by kernel_rfl, by kernel_rfl⟩⟩
instance : TZeroV PP 79 (.nilFunc) := ⟨fun w => by kernel_rfl⟩
instance : TShape PP 80 true 6 := ⟨fun w => by kernel_rfl, fun w => by kernel_rfl⟩
instance : TInfo PP 80 40 := ⟨fun w => ⟨Try.t80, by rw [PP_def]; exact Try.typeInfo80 w, rfl⟩⟩
instance : TZero PP 80 [.int .i64 0, .int .i64 0, .int .u32 0, .int .u32 0, .int .i64 0, .bool false] := ⟨fun w => ⟨.agg #[.int .i64 0, .int .i64 0, .int .u32 0, .int .u32 0, .int .i64 0, .bool false], by kernel_rfl, by kernel_rfl⟩⟩
instance : TZeroV PP 80 (.agg #[.int .i64 0, .int .i64 0, .int .u32 0, .int .u32 0, .int .i64 0, .bool false]) := ⟨fun w => by kernel_rfl⟩
instance : TStruct PP 80 [.int .i64 0, .int .i64 0, .int .u32 0, .int .u32 0, .int .i64 0, .bool false] [(0, 1), (1, 3), (4, 1), (5, 1)] := ⟨⟨_, by rw [PP_def]; exact Try.underlying80, fun w => by kernel_rfl⟩, fun w => ⟨.agg #[.int .i64 0, .int .i64 0, .int .u32 0, .int .u32 0, .int .i64 0, .bool false], by kernel_rfl, by kernel_rfl⟩⟩
instance : TField PP 80 0 0 := ⟨fun b o w => by kernel_rfl⟩
instance : TPart PP 80 0 false 0 1 := part_lemma (ft := 27) (by rw [PP_def]; exact Try.underlying80) rfl rfl rfl
instance : TField PP 80 1 1 := ⟨fun b o w => by kernel_rfl⟩
instance : TPart PP 80 1 true 1 3 := part_lemma (ft := 48) (by rw [PP_def]; exact Try.underlying80) rfl rfl rfl
instance : TField PP 80 2 4 := ⟨fun b o w => by kernel_rfl⟩
instance : TPart PP 80 2 false 4 1 := part_lemma (ft := 2) (by rw [PP_def]; exact Try.underlying80) rfl rfl rfl
instance : TField PP 80 3 5 := ⟨fun b o w => by kernel_rfl⟩
instance : TPart PP 80 3 false 5 1 := part_lemma (ft := 4) (by rw [PP_def]; exact Try.underlying80) rfl rfl rfl
instance : TShape PP 81 true 6 := ⟨fun w => by kernel_rfl, fun w => by kernel_rfl⟩
instance : TInfo PP 81 40 := ⟨fun w => ⟨Try.t81, by rw [PP_def]; exact Try.typeInfo81 w, rfl⟩⟩
instance : TZero PP 81 [.int .i64 0, .int .i64 0, .int .u32 0, .int .u32 0, .int .i64 0, .bool false] := ⟨fun w => ⟨.agg #[.int .i64 0, .int .i64 0, .int .u32 0, .int .u32 0, .int .i64 0, .bool false], by kernel_rfl, by kernel_rfl⟩⟩
instance : TZeroV PP 81 (.agg #[.int .i64 0, .int .i64 0, .int .u32 0, .int .u32 0, .int .i64 0, .bool false]) := ⟨fun w => by kernel_rfl⟩
instance : TStruct PP 81 [.int .i64 0, .int .i64 0, .int .u32 0, .int .u32 0, .int .i64 0, .bool false] [(0, 1), (1, 3), (4, 1), (5, 1)] := ⟨⟨_, by rw [PP_def]; exact Try.underlying81, fun w => by kernel_rfl⟩, fun w => ⟨.agg #[.int .i64 0, .int .i64 0, .int .u32 0, .int .u32 0, .int .i64 0, .bool false], by kernel_rfl, by kernel_rfl⟩⟩
instance : TField PP 81 0 0 := ⟨fun b o w => by kernel_rfl⟩
instance : TPart PP 81 0 false 0 1 := part_lemma (ft := 27) (by rw [PP_def]; exact Try.underlying81) rfl rfl rfl
instance : TField PP 81 1 1 := ⟨fun b o w => by kernel_rfl⟩
instance : TPart PP 81 1 true 1 3 := part_lemma (ft := 48) (by rw [PP_def]; exact Try.underlying81) rfl rfl rfl
instance : TField PP 81 2 4 := ⟨fun b o w => by kernel_rfl⟩
instance : TPart PP 81 2 false 4 1 := part_lemma (ft := 2) (by rw [PP_def]; exact Try.underlying81) rfl rfl rfl
instance : TField PP 81 3 5 := ⟨fun b o w => by kernel_rfl⟩
instance : TPart PP 81 3 false 5 1 := part_lemma (ft := 4) (by rw [PP_def]; exact Try.underlying81) rfl rfl rfl
instance : TShape PP 83 false 1 := ⟨fun w => by kernel_rfl, fun w => by kernel_rfl⟩
instance : TInfo PP 83 8 := ⟨fun w => ⟨Try.t83, by rw [PP_def]; exact Try.typeInfo83 w, rfl⟩⟩
instance : TZero PP 83 [.nilFunc] := ⟨fun w => ⟨.nilFunc, by kernel_rfl, by kernel_rfl⟩⟩
instance : TZeroV PP 83 (.nilFunc) := ⟨fun w => by kernel_rfl⟩
instance : TShape PP 84 false 1 := ⟨fun w => by kernel_rfl, fun w => by kernel_rfl⟩
instance : TInfo PP 84 8 := ⟨fun w => ⟨Try.t84, by rw [PP_def]; exact Try.typeInfo84 w, rfl⟩⟩
instance : TZero PP 84 [.nilFunc] := ⟨fun w => ⟨.nilFunc, by kernel_rfl, by kernel_rfl⟩⟩
instance : TZeroV PP 84 (.nilFunc) := ⟨fun w => by kernel_rfl⟩
instance : TShape PP 86 false 1 := ⟨fun w => by kernel_rfl, fun w => by kernel_rfl⟩
instance : TInfo PP 86 8 := ⟨fun w => ⟨Try.t86, by rw [PP_def]; exact Try.typeInfo86 w, rfl⟩⟩
instance : TZero PP 86 [.nilFunc] := ⟨fun w => ⟨.nilFunc, by kernel_rfl, by kernel_rfl⟩⟩
instance : TZeroV PP 86 (.nilFunc) := ⟨fun w => by kernel_rfl⟩
instance : TShape PP 87 false 1 := ⟨fun w => by kernel_rfl, fun w => by kernel_rfl⟩
instance : TInfo PP 87 8 := ⟨fun w => ⟨Try.t87, by rw [PP_def]; exact Try.typeInfo87 w, rfl⟩⟩
instance : TZero PP 87 [.nilFunc] := ⟨fun w => ⟨.nilFunc, by kernel_rfl, by kernel_rfl⟩⟩
instance : TZeroV PP 87 (.nilFunc) := ⟨fun w => by kernel_rfl⟩
instance : TShape PP 89 false 1 := ⟨fun w => by kernel_rfl, fun w => by kernel_rfl⟩
instance : TInfo PP 89 8 := ⟨fun w => ⟨Try.t89, by rw [PP_def]; exact Try.typeInfo89 w, rfl⟩⟩
instance : TZero PP 89 [.nilFunc] := ⟨fun w => ⟨.nilFunc, by kernel_rfl, by kernel_rfl⟩⟩
instance : TZeroV PP 89 (.nilFunc) := ⟨fun w => by kernel_rfl⟩
instance : TShape PP 90 false 1 := ⟨fun w => by kernel_rfl, fun w => by kernel_rfl⟩
instance : TInfo PP 90 8 := ⟨fun w => ⟨Try.t90, by rw [PP_def]; exact Try.typeInfo90 w, rfl⟩⟩
instance : TZero PP 90 [.nilFunc] := ⟨fun w => ⟨.nilFunc, by kernel_rfl, by kernel_rfl⟩⟩
instance : TZeroV PP 90 (.nilFunc) := ⟨fun w => by kernel_rfl⟩
instance : TShape PP 91 true 3 := ⟨fun w => by kernel_rfl, fun w => by kernel_rfl⟩
instance : TInfo PP 91 24 := ⟨fun w => ⟨Try.t91, by rw [PP_def]; exact Try.typeInfo91 w, rfl⟩⟩
instance : TZero PP 91 [.int .i64 0, .int .i64 0, .int .i64 0] := ⟨fun w => ⟨.agg #[.int .i64 0, .int .i64 0, .int .i64 0], by kernel_rfl, by kernel_rfl⟩⟩
instance : TZeroV PP 91 (.agg #[.int .i64 0, .int .i64 0, .int .i64 0]) := ⟨fun w => by kernel_rfl⟩
instance : TUnd PP 91 (.array 3 2) := ⟨by kernel_rfl⟩
instance : TShape PP 92 false 1 := ⟨fun w => by kernel_rfl, fun w => by kernel_rfl⟩
instance : TInfo PP 92 8 := ⟨fun w => ⟨Try.t92, by rw [PP_def]; exact Try.typeInfo92 w, rfl⟩⟩
instance : TZero PP 92 [.nilFunc] := ⟨fun w => ⟨.nilFunc, by kernel_rfl, by kernel_rfl⟩⟩
instance : TZeroV PP 92 (.nilFunc) := ⟨fun w => by kernel_rfl⟩
instance : TShape PP 93 true 2 := ⟨fun w => by kernel_rfl, fun w => by kernel_rfl⟩
instance : TInfo PP 93 16 := ⟨fun w => ⟨Try.t93, by rw [PP_def]; exact Try.typeInfo93 w, rfl⟩⟩
instance : TZero PP 93 [.int .i64 0, .int .i64 0] := ⟨fun w => ⟨.agg #[.int .i64 0, .int .i64 0], by kernel_rfl, by kernel_rfl⟩⟩
instance : TZeroV PP 93 (.agg #[.int .i64 0, .int .i64 0]) := ⟨fun w => by kernel_rfl⟩
instance : TUnd PP 93 (.array 2 2) := ⟨by kernel_rfl⟩
instance : TShape PP 95 false 1 := ⟨fun w => by kernel_rfl, fun w => by kernel_rfl⟩
instance : TInfo PP 95 8 := ⟨fun w => ⟨Try.t95, by rw [PP_def]; exact Try.typeInfo95 w, rfl⟩⟩
instance : TZero PP 95 [.nilFunc] := ⟨fun w => ⟨.nilFunc, by kernel_rfl, by kernel_rfl⟩⟩
instance : TZeroV PP 95 (.nilFunc) := ⟨fun w => by kernel_rfl⟩
instance : TShape PP 96 true 2 := ⟨fun w => by kernel_rfl, fun w => by kernel_rfl⟩
instance : TInfo PP 96 16 := ⟨fun w => ⟨Try.t96, by rw [PP_def]; exact Try.typeInfo96 w, rfl⟩⟩
instance : TZero PP 96 [.int .i64 0, .int .i64 0] := ⟨fun w => ⟨.agg #[.int .i64 0, .int .i64 0], by kernel_rfl, by kernel_rfl⟩⟩
instance : TZeroV PP 96 (.agg #[.int .i64 0, .int .i64 0]) := ⟨fun w => by kernel_rfl⟩
instance : TUnd PP 96 (.array 2 27) := ⟨by kernel_rfl⟩
instance : TShape PP 97 false 1 := ⟨fun w => by kernel_rfl, fun w => by kernel_rfl⟩
instance : TInfo PP 97 8 := ⟨fun w => ⟨Try.t97, by rw [PP_def]; exact Try.typeInfo97 w, rfl⟩⟩
instance : TZero PP 97 [.nilFunc] := ⟨fun w => ⟨.nilFunc, by kernel_rfl, by kernel_rfl⟩⟩
instance : TZeroV PP 97 (.nilFunc) := ⟨fun w => by kernel_rfl⟩
instance : TShape PP 98 false 1 := ⟨fun w => by kernel_rfl, fun w => by kernel_rfl⟩
instance : TInfo PP 98 8 := ⟨fun w => ⟨Try.t98, by rw [PP_def]; exact Try.typeInfo98 w, rfl⟩⟩
instance : TZero PP 98 [.map none] := ⟨fun w => ⟨.map none, by kernel_rfl, by kernel_rfl⟩⟩
instance : TZeroV PP 98 (.map none) := ⟨fun w => by kernel_rfl⟩
instance : TUnd PP 98 (.map 27 4) := ⟨by kernel_rfl⟩
instance : TShape PP 99 false 1 := ⟨fun w => by kernel_rfl, fun w => by kernel_rfl⟩
instance : TInfo PP 99 24 := ⟨fun w => ⟨Try.t99, by rw [PP_def]; exact Try.typeInfo99 w, rfl⟩⟩
instance : TZero PP 99 [.slice none 0 0] := ⟨fun w => ⟨.slice none 0 0, by kernel_rfl, by kernel_rfl⟩⟩
instance : TZeroV PP 99 (.slice none 0 0) := ⟨fun w => by kernel_rfl⟩
instance : TUnd PP 99 (.slice 104) := ⟨by kernel_rfl⟩
instance : TShape PP 100 true 5 := ⟨fun w => by kernel_rfl, fun w => by kernel_rfl⟩
instance : TInfo PP 100 56 := ⟨fun w => ⟨Try.t100, by rw [PP_def]; exact Try.typeInfo100 w, rfl⟩⟩
instance : TZero PP 100 [.map none, .map none, .slice none 0 0, .int .i64 0, .bool false] := ⟨fun w => ⟨.agg #[.map none, .map none, .slice none 0 0, .int .i64 0, .bool false], by kernel_rfl, by kernel_rfl⟩⟩
instance : TZeroV PP 100 (.agg #[.map none, .map none, .slice none 0 0, .int .i64 0, .bool false]) := ⟨fun w => by kernel_rfl⟩
instance : TStruct PP 100 [.map none, .map none, .slice none 0 0, .int .i64 0, .bool false] [(0, 1), (1, 1), (2, 1), (3, 1), (4, 1)] := ⟨⟨_, by rw [PP_def]; exact Try.underlying100, fun w => by kernel_rfl⟩, fun w => ⟨.agg #[.map none, .map none, .slice none 0 0, .int .i64 0, .bool false], by kernel_rfl, by kernel_rfl⟩⟩
instance : TField PP 100 0 0 := ⟨fun b o w => by kernel_rfl⟩
instance : TPart PP 100 0 false 0 1 := part_lemma (ft := 25) (by rw [PP_def]; exact Try.underlying100) rfl rfl rfl
instance : TField PP 100 1 1 := ⟨fun b o w => by kernel_rfl⟩
instance : TPart PP 100 1 false 1 1 := part_lemma (ft := 98) (by rw [PP_def]; exact Try.underlying100) rfl rfl rfl
instance : TField PP 100 2 2 := ⟨fun b o w => by kernel_rfl⟩
instance : TPart PP 100 2 false 2 1 := part_lemma (ft := 99) (by rw [PP_def]; exact Try.underlying100) rfl rfl rfl
instance : TField PP 100 3 3 := ⟨fun b o w => by kernel_rfl⟩
instance : TPart PP 100 3 false 3 1 := part_lemma (ft := 27) (by rw [PP_def]; exact Try.underlying100) rfl rfl rfl
instance : TField PP 100 4 4 := ⟨fun b o w => by kernel_rfl⟩
instance : TPart PP 100 4 false 4 1 := part_lemma (ft := 4) (by rw [PP_def]; exact Try.underlying100) rfl rfl rfl
instance : TShape PP 101 true 5 := ⟨fun w => by kernel_rfl, fun w => by kernel_rfl⟩
instance : TInfo PP 101 56 := ⟨fun w => ⟨Try.t101, by rw [PP_def]; exact Try.typeInfo101 w, rfl⟩⟩
instance : TZero PP 101 [.map none, .map none, .slice none 0 0, .int .i64 0, .bool false] := ⟨fun w => ⟨.agg #[.map none, .map none, .slice none 0 0, .int .i64 0, .bool false], by kernel_rfl, by kernel_rfl⟩⟩
instance : TZeroV PP 101 (.agg #[.map none, .map none, .slice none 0 0, .int .i64 0, .bool false]) := ⟨fun w => by kernel_rfl⟩
instance : TStruct PP 101 [.map none, .map none, .slice none 0 0, .int .i64 0, .bool false] [(0, 1), (1, 1), (2, 1), (3, 1), (4, 1)] := ⟨⟨_, by rw [PP_def]; exact Try.underlying101, fun w => by kernel_rfl⟩, fun w => ⟨.agg #[.map none, .map none, .slice none 0 0, .int .i64 0, .bool false], by kernel_rfl, by kernel_rfl⟩⟩
instance : TField PP 101 0 0 := ⟨fun b o w => by kernel_rfl⟩
instance : TPart PP 101 0 false 0 1 := part_lemma (ft := 25) (by rw [PP_def]; exact Try.underlying101) rfl rfl rfl
instance : TField PP 101 1 1 := ⟨fun b o w => by kernel_rfl⟩
instance : TPart PP 101 1 false 1 1 := part_lemma (ft := 98) (by rw [PP_def]; exact Try.underlying101) rfl rfl rfl
instance : TField PP 101 2 2 := ⟨fun b o w => by kernel_rfl⟩
instance : TPart PP 101 2 false 2 1 := part_lemma (ft := 99) (by rw [PP_def]; exact Try.underlying101) rfl rfl rfl
instance : TField PP 101 3 3 := ⟨fun b o w => by kernel_rfl⟩
instance : TPart PP 101 3 false 3 1 := part_lemma (ft := 27) (by rw [PP_def]; exact Try.underlying101) rfl rfl rfl
instance : TField PP 101 4 4 := ⟨fun b o w => by kernel_rfl⟩
instance : TPart PP 101 4 false 4 1 := part_lemma (ft := 4) (by rw [PP_def]; exact Try.underlying101) rfl rfl rfl
instance : TShape PP 102 false 1 := ⟨fun w => by kernel_rfl, fun w => by kernel_rfl⟩
instance : TInfo PP 102 8 := ⟨fun w => ⟨Try.t102, by rw [PP_def]; exact Try.typeInfo102 w, rfl⟩⟩
instance : TZero PP 102 [.nilFunc] := ⟨fun w => ⟨.nilFunc, by kernel_rfl, by kernel_rfl⟩⟩
instance : TZeroV PP 102 (.nilFunc) := ⟨fun w => by kernel_rfl⟩
instance : TShape PP 103 true 2 := ⟨fun w => by kernel_rfl, fun w => by kernel_rfl⟩
instance : TInfo PP 103 16 := ⟨fun w => ⟨Try.t103, by rw [PP_def]; exact Try.typeInfo103 w, rfl⟩⟩
instance : TZero PP 103 [.int .i64 0, .int .i64 0] := ⟨fun w => ⟨.agg #[.int .i64 0, .int .i64 0], by kernel_rfl, by kernel_rfl⟩⟩
instance : TZeroV PP 103 (.agg #[.int .i64 0, .int .i64 0]) := ⟨fun w => by kernel_rfl⟩
instance : TStruct PP 103 [.int .i64 0, .int .i64 0] [(0, 1), (1, 1)] := ⟨⟨_, by rw [PP_def]; exact Try.underlying103, fun w => by kernel_rfl⟩, fun w => ⟨.agg #[.int .i64 0, .int .i64 0], by kernel_rfl, by kernel_rfl⟩⟩
instance : TField PP 103 0 0 := ⟨fun b o w => by kernel_rfl⟩
instance : TPart PP 103 0 false 0 1 := part_lemma (ft := 27) (by rw [PP_def]; exact Try.underlying103) rfl rfl rfl
instance : TField PP 103 1 1 := ⟨fun b o w => by kernel_rfl⟩
instance : TPart PP 103 1 false 1 1 := part_lemma (ft := 2) (by rw [PP_def]; exact Try.underlying103) rfl rfl rfl
instance : TShape PP 104 true 2 := ⟨fun w => by kernel_rfl, fun w => by kernel_rfl⟩
instance : TInfo PP 104 16 := ⟨fun w => ⟨Try.t104, by rw [PP_def]; exact Try.typeInfo104 w, rfl⟩⟩
instance : TZero PP 104 [.int .i64 0, .int .i64 0] := ⟨fun w => ⟨.agg #[.int .i64 0, .int .i64 0], by kernel_rfl, by kernel_rfl⟩⟩
instance : TZeroV PP 104 (.agg #[.int .i64 0, .int .i64 0]) := ⟨fun w => by kernel_rfl⟩
instance : TStruct PP 104 [.int .i64 0, .int .i64 0] [(0, 1), (1, 1)] := ⟨⟨_, by rw [PP_def]; exact Try.underlying104, fun w => by kernel_rfl⟩, fun w => ⟨.agg #[.int .i64 0, .int .i64 0], by kernel_rfl, by kernel_rfl⟩⟩
instance : TField PP 104 0 0 := ⟨fun b o w => by kernel_rfl⟩
instance : TPart PP 104 0 false 0 1 := part_lemma (ft := 27) (by rw [PP_def]; exact Try.underlying104) rfl rfl rfl
instance : TField PP 104 1 1 := ⟨fun b o w => by kernel_rfl⟩
instance : TPart PP 104 1 false 1 1 := part_lemma (ft := 2) (by rw [PP_def]; exact Try.underlying104) rfl rfl rfl
instance : TShape PP 105 false 1 := ⟨fun w => by kernel_rfl, fun w => by kernel_rfl⟩
instance : TInfo PP 105 8 := ⟨fun w => ⟨Try.t105, by rw [PP_def]; exact Try.typeInfo105 w, rfl⟩⟩
instance : TZero PP 105 [.nilFunc] := ⟨fun w => ⟨.nilFunc, by kernel_rfl, by kernel_rfl⟩⟩
instance : TZeroV PP 105 (.nilFunc) := ⟨fun w => by kernel_rfl⟩
instance : TShape PP 106 false 1 := ⟨fun w => by kernel_rfl, fun w => by kernel_rfl⟩
instance : TInfo PP 106 8 := ⟨fun w => ⟨Try.t106, by rw [PP_def]; exact Try.typeInfo106 w, rfl⟩⟩
instance : TZero PP 106 [.nilFunc] := ⟨fun w => ⟨.nilFunc, by kernel_rfl, by kernel_rfl⟩⟩
instance : TZeroV PP 106 (.nilFunc) := ⟨fun w => by kernel_rfl⟩
instance : TShape PP 108 false 1 := ⟨fun w => by kernel_rfl, fun w => by kernel_rfl⟩
instance : TInfo PP 108 8 := ⟨fun w => ⟨Try.t108, by rw [PP_def]; exact Try.typeInfo108 w, rfl⟩⟩
instance : TZero PP 108 [.nilFunc] := ⟨fun w => ⟨.nilFunc, by kernel_rfl, by kernel_rfl⟩⟩
instance : TZeroV PP 108 (.nilFunc) := ⟨fun w => by kernel_rfl⟩
instance : TShape PP 109 false 1 := ⟨fun w => by kernel_rfl, fun w => by kernel_rfl⟩
instance : TInfo PP 109 8 := ⟨fun w => ⟨Try.t109, by rw [PP_def]; exact Try.typeInfo109 w, rfl⟩⟩
instance : TZero PP 109 [.nilFunc] := ⟨fun w => ⟨.nilFunc, by kernel_rfl, by kernel_rfl⟩⟩
instance : TZeroV PP 109 (.nilFunc) := ⟨fun w => by kernel_rfl⟩
instance : TShape PP 110 false 1 := ⟨fun w => by kernel_rfl, fun w => by kernel_rfl⟩
instance : TInfo PP 110 8 := ⟨fun w => ⟨Try.t110, by rw [PP_def]; exact Try.typeInfo110 w, rfl⟩⟩
instance : TZero PP 110 [.nilFunc] := ⟨fun w => ⟨.nilFunc, by kernel_rfl, by kernel_rfl⟩⟩
instance : TZeroV PP 110 (.nilFunc) := ⟨fun w => by kernel_rfl⟩
instance : TShape PP 111 false 1 := ⟨fun w => by kernel_rfl, fun w => by kernel_rfl⟩
instance : TInfo PP 111 8 := ⟨fun w => ⟨Try.t111, by rw [PP_def]; exact Try.typeInfo111 w, rfl⟩⟩
instance : TZero PP 111 [.nilFunc] := ⟨fun w => ⟨.nilFunc, by kernel_rfl, by kernel_rfl⟩⟩
instance : TZeroV PP 111 (.nilFunc) := ⟨fun w => by kernel_rfl⟩
instance : TShape PP 112 false 1 := ⟨fun w => by kernel_rfl, fun w => by kernel_rfl⟩
instance : TInfo PP 112 8 := ⟨fun w => ⟨Try.t112, by rw [PP_def]; exact Try.typeInfo112 w, rfl⟩⟩
instance : TZero PP 112 [.nilFunc] := ⟨fun w => ⟨.nilFunc, by kernel_rfl, by kernel_rfl⟩⟩
instance : TZeroV PP 112 (.nilFunc) := ⟨fun w => by kernel_rfl⟩
instance : TShape PP 113 false 1 := ⟨fun w => by kernel_rfl, fun w => by kernel_rfl⟩
instance : TInfo PP 113 8 := ⟨fun w => ⟨Try.t113, by rw [PP_def]; exact Try.typeInfo113 w, rfl⟩⟩
instance : TZero PP 113 [.nilFunc] := ⟨fun w => ⟨.nilFunc, by kernel_rfl, by kernel_rfl⟩⟩
instance : TZeroV PP 113 (.nilFunc) := ⟨fun w => by kernel_rfl⟩
instance : TShape PP 114 false 1 := ⟨fun w => by kernel_rfl, fun w => by kernel_rfl⟩
instance : TInfo PP 114 8 := ⟨fun w => ⟨Try.t114, by rw [PP_def]; exact Try.typeInfo114 w, rfl⟩⟩
instance : TZero PP 114 [.nilFunc] := ⟨fun w => ⟨.nilFunc, by kernel_rfl, by kernel_rfl⟩⟩
instance : TZeroV PP 114 (.nilFunc) := ⟨fun w => by kernel_rfl⟩
instance : TShape PP 115 false 1 := ⟨fun w => by kernel_rfl, fun w => by kernel_rfl⟩
instance : TInfo PP 115 8 := ⟨fun w => ⟨Try.t115, by rw [PP_def]; exact Try.typeInfo115 w, rfl⟩⟩
instance : TZero PP 115 [.nilFunc] := ⟨fun w => ⟨.nilFunc, by kernel_rfl, by kernel_rfl⟩⟩
instance : TZeroV PP 115 (.nilFunc) := ⟨fun w => by kernel_rfl⟩
instance : TShape PP 116 false 1 := ⟨fun w => by kernel_rfl, fun w => by kernel_rfl⟩
instance : TInfo PP 116 8 := ⟨fun w => ⟨Try.t116, by rw [PP_def]; exact Try.typeInfo116 w, rfl⟩⟩
instance : TZero PP 116 [.nilFunc] := ⟨fun w => ⟨.nilFunc, by kernel_rfl, by kernel_rfl⟩⟩
instance : TZeroV PP 116 (.nilFunc) := ⟨fun w => by kernel_rfl⟩
instance : TShape PP 117 false 1 := ⟨fun w => by kernel_rfl, fun w => by kernel_rfl⟩
instance : TInfo PP 117 8 := ⟨fun w => ⟨Try.t117, by rw [PP_def]; exact Try.typeInfo117 w, rfl⟩⟩
instance : TZero PP 117 [.nilFunc] := ⟨fun w => ⟨.nilFunc, by kernel_rfl, by kernel_rfl⟩⟩
instance : TZeroV PP 117 (.nilFunc) := ⟨fun w => by kernel_rfl⟩
instance : TShape PP 119 false 1 := ⟨fun w => by kernel_rfl, fun w => by kernel_rfl⟩
instance : TInfo PP 119 8 := ⟨fun w => ⟨Try.t119, by rw [PP_def]; exact Try.typeInfo119 w, rfl⟩⟩
instance : TZero PP 119 [.nilFunc] := ⟨fun w => ⟨.nilFunc, by kernel_rfl, by kernel_rfl⟩⟩
instance : TZeroV PP 119 (.nilFunc) := ⟨fun w => by kernel_rfl⟩
instance : TShape PP 120 false 1 := ⟨fun w => by kernel_rfl, fun w => by kernel_rfl⟩
instance : TInfo PP 120 8 := ⟨fun w => ⟨Try.t120, by rw [PP_def]; exact Try.typeInfo120 w, rfl⟩⟩
instance : TZero PP 120 [.nilFunc] := ⟨fun w => ⟨.nilFunc, by kernel_rfl, by kernel_rfl⟩⟩
instance : TZeroV PP 120 (.nilFunc) := ⟨fun w => by kernel_rfl⟩
instance : TShape PP 121 false 1 := ⟨fun w => by kernel_rfl, fun w => by kernel_rfl⟩
instance : TInfo PP 121 8 := ⟨fun w => ⟨Try.t121, by rw [PP_def]; exact Try.typeInfo121 w, rfl⟩⟩
instance : TZero PP 121 [.nilFunc] := ⟨fun w => ⟨.nilFunc, by kernel_rfl, by kernel_rfl⟩⟩
instance : TZeroV PP 121 (.nilFunc) := ⟨fun w => by kernel_rfl⟩
instance : TShape PP 122 false 1 := ⟨fun w => by kernel_rfl, fun w => by kernel_rfl⟩
instance : TInfo PP 122 8 := ⟨fun w => ⟨Try.t122, by rw [PP_def]; exact Try.typeInfo122 w, rfl⟩⟩
instance : TZero PP 122 [.int .u64 0] := ⟨fun w => ⟨.int .u64 0, by kernel_rfl, by kernel_rfl⟩⟩
instance : TZeroV PP 122 (.int .u64 0) := ⟨fun w => by kernel_rfl⟩
instance : TUnd PP 122 (.int (.u64)) := ⟨by kernel_rfl⟩
instance : TShape PP 123 false 1 := ⟨fun w => by kernel_rfl, fun w => by kernel_rfl⟩
instance : TInfo PP 123 8 := ⟨fun w => ⟨Try.t123, by rw [PP_def]; exact Try.typeInfo123 w, rfl⟩⟩
instance : TZero PP 123 [.nilFunc] := ⟨fun w => ⟨.nilFunc, by kernel_rfl, by kernel_rfl⟩⟩
instance : TZeroV PP 123 (.nilFunc) := ⟨fun w => by kernel_rfl⟩
instance : TShape PP 124 false 1 := ⟨fun w => by kernel_rfl, fun w => by kernel_rfl⟩
instance : TInfo PP 124 8 := ⟨fun w => ⟨Try.t124, by rw [PP_def]; exact Try.typeInfo124 w, rfl⟩⟩
instance : TZero PP 124 [.nilFunc] := ⟨fun w => ⟨.nilFunc, by kernel_rfl, by kernel_rfl⟩⟩
instance : TZeroV PP 124 (.nilFunc) := ⟨fun w => by kernel_rfl⟩
instance : TShape PP 125 false 1 := ⟨fun w => by kernel_rfl, fun w => by kernel_rfl⟩
instance : TInfo PP 125 8 := ⟨fun w => ⟨Try.t125, by rw [PP_def]; exact Try.typeInfo125 w, rfl⟩⟩
instance : TZero PP 125 [.nilFunc] := ⟨fun w => ⟨.nilFunc, by kernel_rfl, by kernel_rfl⟩⟩
instance : TZeroV PP 125 (.nilFunc) := ⟨fun w => by kernel_rfl⟩
instance : TShape PP 126 false 1 := ⟨fun w => by kernel_rfl, fun w => by kernel_rfl⟩
instance : TInfo PP 126 8 := ⟨fun w => ⟨Try.t126, by rw [PP_def]; exact Try.typeInfo126 w, rfl⟩⟩
instance : TZero PP 126 [.nilFunc] := ⟨fun w => ⟨.nilFunc, by kernel_rfl, by kernel_rfl⟩⟩
instance : TZeroV PP 126 (.nilFunc) := ⟨fun w => by kernel_rfl⟩
instance : TShape PP 127 false 1 := ⟨fun w => by kernel_rfl, fun w => by kernel_rfl⟩
instance : TInfo PP 127 8 := ⟨fun w => ⟨Try.t127, by rw [PP_def]; exact Try.typeInfo127 w, rfl⟩⟩
instance : TZero PP 127 [.nilFunc] := ⟨fun w => ⟨.nilFunc, by kernel_rfl, by kernel_rfl⟩⟩
instance : TZeroV PP 127 (.nilFunc) := ⟨fun w => by kernel_rfl⟩
instance : TShape PP 128 false 1 := ⟨fun w => by kernel_rfl, fun w => by kernel_rfl⟩
instance : TInfo PP 128 8 := ⟨fun w => ⟨Try.t128, by rw [PP_def]; exact Try.typeInfo128 w, rfl⟩⟩
instance : TZero PP 128 [.nilFunc] := ⟨fun w => ⟨.nilFunc, by kernel_rfl, by kernel_rfl⟩⟩
instance : TZeroV PP 128 (.nilFunc) := ⟨fun w => by kernel_rfl⟩
instance : TShape PP 130 false 1 := ⟨fun w => by kernel_rfl, fun w => by kernel_rfl⟩
instance : TInfo PP 130 8 := ⟨fun w => ⟨Try.t130, by rw [PP_def]; exact Try.typeInfo130 w, rfl⟩⟩
instance : TZero PP 130 [.nilFunc] := ⟨fun w => ⟨.nilFunc, by kernel_rfl, by kernel_rfl⟩⟩
instance : TZeroV PP 130 (.nilFunc) := ⟨fun w => by kernel_rfl⟩
instance : TShape PP 131 false 1 := ⟨fun w => by kernel_rfl, fun w => by kernel_rfl⟩
instance : TInfo PP 131 8 := ⟨fun w => ⟨Try.t131, by rw [PP_def]; exact Try.typeInfo131 w, rfl⟩⟩
instance : TZero PP 131 [.nilFunc] := ⟨fun w => ⟨.nilFunc, by kernel_rfl, by kernel_rfl⟩⟩
instance : TZeroV PP 131 (.nilFunc) := ⟨fun w => by kernel_rfl⟩
instance : TShape PP 132 false 1 := ⟨fun w => by kernel_rfl, fun w => by kernel_rfl⟩
instance : TInfo PP 132 8 := ⟨fun w => ⟨Try.t132, by rw [PP_def]; exact Try.typeInfo132 w, rfl⟩⟩
instance : TZero PP 132 [.int .i64 0] := ⟨fun w => ⟨.int .i64 0, by kernel_rfl, by kernel_rfl⟩⟩
instance : TZeroV PP 132 (.int .i64 0) := ⟨fun w => by kernel_rfl⟩
instance : TUnd PP 132 (.int (.i64)) := ⟨by kernel_rfl⟩
instance : TShape PP 134 false 1 := ⟨fun w => by kernel_rfl, fun w => by kernel_rfl⟩
instance : TInfo PP 134 8 := ⟨fun w => ⟨Try.t134, by rw [PP_def]; exact Try.typeInfo134 w, rfl⟩⟩
instance : TZero PP 134 [.nilFunc] := ⟨fun w => ⟨.nilFunc, by kernel_rfl, by kernel_rfl⟩⟩
instance : TZeroV PP 134 (.nilFunc) := ⟨fun w => by kernel_rfl⟩
instance : TShape PP 135 false 1 := ⟨fun w => by kernel_rfl, fun w => by kernel_rfl⟩
instance : TInfo PP 135 8 := ⟨fun w => ⟨Try.t135, by rw [PP_def]; exact Try.typeInfo135 w, rfl⟩⟩
instance : TZero PP 135 [.nilFunc] := ⟨fun w => ⟨.nilFunc, by kernel_rfl, by kernel_rfl⟩⟩
instance : TZeroV PP 135 (.nilFunc) := ⟨fun w => by kernel_rfl⟩
instance : TShape PP 136 false 1 := ⟨fun w => by kernel_rfl, fun w => by kernel_rfl⟩
instance : TInfo PP 136 8 := ⟨fun w => ⟨Try.t136, by rw [PP_def]; exact Try.typeInfo136 w, rfl⟩⟩
instance : TZero PP 136 [.nilFunc] := ⟨fun w => ⟨.nilFunc, by kernel_rfl, by kernel_rfl⟩⟩
instance : TZeroV PP 136 (.nilFunc) := ⟨fun w => by kernel_rfl⟩
instance : TShape PP 137 false 1 := ⟨fun w => by kernel_rfl, fun w => by kernel_rfl⟩
instance : TInfo PP 137 8 := ⟨fun w => ⟨Try.t137, by rw [PP_def]; exact Try.typeInfo137 w, rfl⟩⟩
instance : TZero PP 137 [.nilFunc] := ⟨fun w => ⟨.nilFunc, by kernel_rfl, by kernel_rfl⟩⟩
instance : TZeroV PP 137 (.nilFunc) := ⟨fun w => by kernel_rfl⟩
instance : TShape PP 138 false 1 := ⟨fun w => by kernel_rfl, fun w => by kernel_rfl⟩
instance : TInfo PP 138 8 := ⟨fun w => ⟨Try.t138, by rw [PP_def]; exact Try.typeInfo138 w, rfl⟩⟩
instance : TZero PP 138 [.nilFunc] := ⟨fun w => ⟨.nilFunc, by kernel_rfl, by kernel_rfl⟩⟩
instance : TZeroV PP 138 (.nilFunc) := ⟨fun w => by kernel_rfl⟩
instance : TShape PP 139 false 1 := ⟨fun w => by kernel_rfl, fun w => by kernel_rfl⟩
instance : TInfo PP 139 8 := ⟨fun w => ⟨Try.t139, by rw [PP_def]; exact Try.typeInfo139 w, rfl⟩⟩
instance : TZero PP 139 [.nilFunc] := ⟨fun w => ⟨.nilFunc, by kernel_rfl, by kernel_rfl⟩⟩
instance : TZeroV PP 139 (.nilFunc) := ⟨fun w => by kernel_rfl⟩
instance : TShape PP 140 false 1 := ⟨fun w => by kernel_rfl, fun w => by kernel_rfl⟩
instance : TInfo PP 140 8 := ⟨fun w => ⟨Try.t140, by rw [PP_def]; exact Try.typeInfo140 w, rfl⟩⟩
instance : TZero PP 140 [.nilFunc] := ⟨fun w => ⟨.nilFunc, by kernel_rfl, by kernel_rfl⟩⟩
instance : TZeroV PP 140 (.nilFunc) := ⟨fun w => by kernel_rfl⟩
instance : TShape PP 141 false 1 := ⟨fun w => by kernel_rfl, fun w => by kernel_rfl⟩
instance : TInfo PP 141 8 := ⟨fun w => ⟨Try.t141, by rw [PP_def]; exact Try.typeInfo141 w, rfl⟩⟩
instance : TZero PP 141 [.int .u64 0] := ⟨fun w => ⟨.int .u64 0, by kernel_rfl, by kernel_rfl⟩⟩
instance : TZeroV PP 141 (.int .u64 0) := ⟨fun w => by kernel_rfl⟩
instance : TUnd PP 141 (.int (.u64)) := ⟨by kernel_rfl⟩
instance : TShape PP 142 false 1 := ⟨fun w => by kernel_rfl, fun w => by kernel_rfl⟩
instance : TInfo PP 142 8 := ⟨fun w => ⟨Try.t142, by rw [PP_def]; exact Try.typeInfo142 w, rfl⟩⟩
instance : TZero PP 142 [.nilFunc] := ⟨fun w => ⟨.nilFunc, by kernel_rfl, by kernel_rfl⟩⟩
instance : TZeroV PP 142 (.nilFunc) := ⟨fun w => by kernel_rfl⟩
instance : TShape PP 143 false 1 := ⟨fun w => by kernel_rfl, fun w => by kernel_rfl⟩
instance : TInfo PP 143 8 := ⟨fun w => ⟨Try.t143, by rw [PP_def]; exact Try.typeInfo143 w, rfl⟩⟩
instance : TZero PP 143 [.nilFunc] := ⟨fun w => ⟨.nilFunc, by kernel_rfl, by kernel_rfl⟩⟩
instance : TZeroV PP 143 (.nilFunc) := ⟨fun w => by kernel_rfl⟩
instance : TShape PP 144 false 1 := ⟨fun w => by kernel_rfl, fun w => by kernel_rfl⟩
instance : TInfo PP 144 8 := ⟨fun w => ⟨Try.t144, by rw [PP_def]; exact Try.typeInfo144 w, rfl⟩⟩
instance : TZero PP 144 [.nilFunc] := ⟨fun w => ⟨.nilFunc, by kernel_rfl, by kernel_rfl⟩⟩
instance : TZeroV PP 144 (.nilFunc) := ⟨fun w => by kernel_rfl⟩
instance : TShape PP 145 false 1 := ⟨fun w => by kernel_rfl, fun w => by kernel_rfl⟩
instance : TInfo PP 145 8 := ⟨fun w => ⟨Try.t145, by rw [PP_def]; exact Try.typeInfo145 w, rfl⟩⟩
instance : TZero PP 145 [.int .u64 0] := ⟨fun w => ⟨.int .u64 0, by kernel_rfl, by kernel_rfl⟩⟩
instance : TZeroV PP 145 (.int .u64 0) := ⟨fun w => by kernel_rfl⟩
instance : TUnd PP 145 (.int (.u64)) := ⟨by kernel_rfl⟩
instance : TShape PP 146 false 1 := ⟨fun w => by kernel_rfl, fun w => by kernel_rfl⟩
instance : TInfo PP 146 8 := ⟨fun w => ⟨Try.t146, by rw [PP_def]; exact Try.typeInfo146 w, rfl⟩⟩
instance : TZero PP 146 [.nilFunc] := ⟨fun w => ⟨.nilFunc, by kernel_rfl, by kernel_rfl⟩⟩
instance : TZeroV PP 146 (.nilFunc) := ⟨fun w => by kernel_rfl⟩
instance : TShape PP 147 false 1 := ⟨fun w => by kernel_rfl, fun w => by kernel_rfl⟩
instance : TInfo PP 147 8 := ⟨fun w => ⟨Try.t147, by rw [PP_def]; exact Try.typeInfo147 w, rfl⟩⟩
instance : TZero PP 147 [.nilFunc] := ⟨fun w => ⟨.nilFunc, by kernel_rfl, by kernel_rfl⟩⟩
instance : TZeroV PP 147 (.nilFunc) := ⟨fun w => by kernel_rfl⟩
instance : TShape PP 148 false 1 := ⟨fun w => by kernel_rfl, fun w => by kernel_rfl⟩
instance : TInfo PP 148 8 := ⟨fun w => ⟨Try.t148, by rw [PP_def]; exact Try.typeInfo148 w, rfl⟩⟩
instance : TZero PP 148 [.nilFunc] := ⟨fun w => ⟨.nilFunc, by kernel_rfl, by kernel_rfl⟩⟩
instance : TZeroV PP 148 (.nilFunc) := ⟨fun w => by kernel_rfl⟩
instance : TShape PP 149 false 1 := ⟨fun w => by kernel_rfl, fun w => by kernel_rfl⟩
instance : TInfo PP 149 8 := ⟨fun w => ⟨Try.t149, by rw [PP_def]; exact Try.typeInfo149 w, rfl⟩⟩
instance : TZero PP 149 [.pointer none] := ⟨fun w => ⟨.pointer none, by kernel_rfl, by kernel_rfl⟩⟩
instance : TZeroV PP 149 (.pointer none) := ⟨fun w => by kernel_rfl⟩
instance : TUnd PP 149 (.pointer 3) := ⟨by kernel_rfl⟩
instance : TShape PP 150 false 1 := ⟨fun w => by kernel_rfl, fun w => by kernel_rfl⟩
instance : TInfo PP 150 8 := ⟨fun w => ⟨Try.t150, by rw [PP_def]; exact Try.typeInfo150 w, rfl⟩⟩
instance : TZero PP 150 [.nilFunc] := ⟨fun w => ⟨.nilFunc, by kernel_rfl, by kernel_rfl⟩⟩
instance : TZeroV PP 150 (.nilFunc) := ⟨fun w => by kernel_rfl⟩
instance : TShape PP 151 false 1 := ⟨fun w => by kernel_rfl, fun w => by kernel_rfl⟩
instance : TInfo PP 151 8 := ⟨fun w => ⟨Try.t151, by rw [PP_def]; exact Try.typeInfo151 w, rfl⟩⟩
instance : TZero PP 151 [.nilFunc] := ⟨fun w => ⟨.nilFunc, by kernel_rfl, by kernel_rfl⟩⟩
instance : TZeroV PP 151 (.nilFunc) := ⟨fun w => by kernel_rfl⟩
instance : TShape PP 152 false 1 := ⟨fun w => by kernel_rfl, fun w => by kernel_rfl⟩
instance : TInfo PP 152 8 := ⟨fun w => ⟨Try.t152, by rw [PP_def]; exact Try.typeInfo152 w, rfl⟩⟩
instance : TZero PP 152 [.pointer none] := ⟨fun w => ⟨.pointer none, by kernel_rfl, by kernel_rfl⟩⟩
instance : TZeroV PP 152 (.pointer none) := ⟨fun w => by kernel_rfl⟩
instance : TUnd PP 152 (.pointer 145) := ⟨by kernel_rfl⟩
instance : TShape PP 154 false 1 := ⟨fun w => by kernel_rfl, fun w => by kernel_rfl⟩
instance : TInfo PP 154 8 := ⟨fun w => ⟨Try.t154, by rw [PP_def]; exact Try.typeInfo154 w, rfl⟩⟩
instance : TZero PP 154 [.nilFunc] := ⟨fun w => ⟨.nilFunc, by kernel_rfl, by kernel_rfl⟩⟩
instance : TZeroV PP 154 (.nilFunc) := ⟨fun w => by kernel_rfl⟩
instance : TShape PP 155 false 1 := ⟨fun w => by kernel_rfl, fun w => by kernel_rfl⟩
instance : TInfo PP 155 8 := ⟨fun w => ⟨Try.t155, by rw [PP_def]; exact Try.typeInfo155 w, rfl⟩⟩
instance : TZero PP 155 [.nilFunc] := ⟨fun w => ⟨.nilFunc, by kernel_rfl, by kernel_rfl⟩⟩
instance : TZeroV PP 155 (.nilFunc) := ⟨fun w => by kernel_rfl⟩
instance : TShape PP 157 false 1 := ⟨fun w => by kernel_rfl, fun w => by kernel_rfl⟩
instance : TInfo PP 157 8 := ⟨fun w => ⟨Try.t157, by rw [PP_def]; exact Try.typeInfo157 w, rfl⟩⟩
instance : TZero PP 157 [.nilFunc] := ⟨fun w => ⟨.nilFunc, by kernel_rfl, by kernel_rfl⟩⟩
instance : TZeroV PP 157 (.nilFunc) := ⟨fun w => by kernel_rfl⟩
instance : TShape PP 158 false 1 := ⟨fun w => by kernel_rfl, fun w => by kernel_rfl⟩
instance : TInfo PP 158 8 := ⟨fun w => ⟨Try.t158, by rw [PP_def]; exact Try.typeInfo158 w, rfl⟩⟩
instance : TZero PP 158 [.nilFunc] := ⟨fun w => ⟨.nilFunc, by kernel_rfl, by kernel_rfl⟩⟩
instance : TZeroV PP 158 (.nilFunc) := ⟨fun w => by kernel_rfl⟩
instance : TShape PP 159 true 4 := ⟨fun w => by kernel_rfl, fun w => by kernel_rfl⟩
instance : TInfo PP 159 40 := ⟨fun w => ⟨Try.t159, by rw [PP_def]; exact Try.typeInfo159 w, rfl⟩⟩
instance : TZero PP 159 [.pointer none, .pointer none, .pointer none, .string ByteArray.empty] := ⟨fun w => ⟨.agg #[.pointer none, .pointer none, .pointer none, .string ByteArray.empty], by kernel_rfl, by kernel_rfl⟩⟩
instance : TZeroV PP 159 (.agg #[.pointer none, .pointer none, .pointer none, .string ByteArray.empty]) := ⟨fun w => by kernel_rfl⟩
instance : TStruct PP 159 [.pointer none, .pointer none, .pointer none, .string ByteArray.empty] [(0, 1), (1, 1), (2, 1), (3, 1)] := ⟨⟨_, by rw [PP_def]; exact Try.underlying159, fun w => by kernel_rfl⟩, fun w => ⟨.agg #[.pointer none, .pointer none, .pointer none, .string ByteArray.empty], by kernel_rfl, by kernel_rfl⟩⟩
instance : TField PP 159 0 0 := ⟨fun b o w => by kernel_rfl⟩
instance : TPart PP 159 0 false 0 1 := part_lemma (ft := 17) (by rw [PP_def]; exact Try.underlying159) rfl rfl rfl
instance : TField PP 159 1 1 := ⟨fun b o w => by kernel_rfl⟩
instance : TPart PP 159 1 false 1 1 := part_lemma (ft := 17) (by rw [PP_def]; exact Try.underlying159) rfl rfl rfl
instance : TField PP 159 2 2 := ⟨fun b o w => by kernel_rfl⟩
instance : TPart PP 159 2 false 2 1 := part_lemma (ft := 17) (by rw [PP_def]; exact Try.underlying159) rfl rfl rfl
instance : TField PP 159 3 3 := ⟨fun b o w => by kernel_rfl⟩
instance : TPart PP 159 3 false 3 1 := part_lemma (ft := 9) (by rw [PP_def]; exact Try.underlying159) rfl rfl rfl
instance : TShape PP 160 true 4 := ⟨fun w => by kernel_rfl, fun w => by kernel_rfl⟩
instance : TInfo PP 160 40 := ⟨fun w => ⟨Try.t160, by rw [PP_def]; exact Try.typeInfo160 w, rfl⟩⟩
instance : TZero PP 160 [.pointer none, .pointer none, .pointer none, .string ByteArray.empty] := ⟨fun w => ⟨.agg #[.pointer none, .pointer none, .pointer none, .string ByteArray.empty], by kernel_rfl, by kernel_rfl⟩⟩
instance : TZeroV PP 160 (.agg #[.pointer none, .pointer none, .pointer none, .string ByteArray.empty]) := ⟨fun w => by kernel_rfl⟩
instance : TStruct PP 160 [.pointer none, .pointer none, .pointer none, .string ByteArray.empty] [(0, 1), (1, 1), (2, 1), (3, 1)] := ⟨⟨_, by rw [PP_def]; exact Try.underlying160, fun w => by kernel_rfl⟩, fun w => ⟨.agg #[.pointer none, .pointer none, .pointer none, .string ByteArray.empty], by kernel_rfl, by kernel_rfl⟩⟩
instance : TField PP 160 0 0 := ⟨fun b o w => by kernel_rfl⟩
instance : TPart PP 160 0 false 0 1 := part_lemma (ft := 17) (by rw [PP_def]; exact Try.underlying160) rfl rfl rfl
instance : TField PP 160 1 1 := ⟨fun b o w => by kernel_rfl⟩
instance : TPart PP 160 1 false 1 1 := part_lemma (ft := 17) (by rw [PP_def]; exact Try.underlying160) rfl rfl rfl
instance : TField PP 160 2 2 := ⟨fun b o w => by kernel_rfl⟩
instance : TPart PP 160 2 false 2 1 := part_lemma (ft := 17) (by rw [PP_def]; exact Try.underlying160) rfl rfl rfl
instance : TField PP 160 3 3 := ⟨fun b o w => by kernel_rfl⟩
instance : TPart PP 160 3 false 3 1 := part_lemma (ft := 9) (by rw [PP_def]; exact Try.underlying160) rfl rfl rfl
instance : TShape PP 161 true 0 := ⟨fun w => by kernel_rfl, fun w => by kernel_rfl⟩
instance : TInfo PP 161 0 := ⟨fun w => ⟨Try.t161, by rw [PP_def]; exact Try.typeInfo161 w, rfl⟩⟩
instance : TZero PP 161 [] := ⟨fun w => ⟨.agg #[], by kernel_rfl, by kernel_rfl⟩⟩
instance : TZeroV PP 161 (.agg #[]) := ⟨fun w => by kernel_rfl⟩
instance : TUnd PP 161 (.array 0 16) := ⟨by kernel_rfl⟩
instance : TShape PP 162 true 0 := ⟨fun w => by kernel_rfl, fun w => by kernel_rfl⟩
instance : TInfo PP 162 0 := ⟨fun w => ⟨Try.t162, by rw [PP_def]; exact Try.typeInfo162 w, rfl⟩⟩
instance : TZero PP 162 [] := ⟨fun w => ⟨.agg #[], by kernel_rfl, by kernel_rfl⟩⟩
instance : TZeroV PP 162 (.agg #[]) := ⟨fun w => by kernel_rfl⟩
instance : TShape PP 163 true 0 := ⟨fun w => by kernel_rfl, fun w => by kernel_rfl⟩
instance : TInfo PP 163 0 := ⟨fun w => ⟨Try.t163, by rw [PP_def]; exact Try.typeInfo163 w, rfl⟩⟩
instance : TZero PP 163 [] := ⟨fun w => ⟨.agg #[], by kernel_rfl, by kernel_rfl⟩⟩
instance : TZeroV PP 163 (.agg #[]) := ⟨fun w => by kernel_rfl⟩
instance : TShape PP 164 false 1 := ⟨fun w => by kernel_rfl, fun w => by kernel_rfl⟩
instance : TInfo PP 164 1 := ⟨fun w => ⟨Try.t164, by rw [PP_def]; exact Try.typeInfo164 w, rfl⟩⟩
instance : TZero PP 164 [.int .u8 0] := ⟨fun w => ⟨.int .u8 0, by kernel_rfl, by kernel_rfl⟩⟩
instance : TZeroV PP 164 (.int .u8 0) := ⟨fun w => by kernel_rfl⟩
instance : TUnd PP 164 (.int (.u8)) := ⟨by kernel_rfl⟩
instance : TShape PP 165 false 1 := ⟨fun w => by kernel_rfl, fun w => by kernel_rfl⟩
instance : TInfo PP 165 1 := ⟨fun w => ⟨Try.t165, by rw [PP_def]; exact Try.typeInfo165 w, rfl⟩⟩
instance : TZero PP 165 [.int .u8 0] := ⟨fun w => ⟨.int .u8 0, by kernel_rfl, by kernel_rfl⟩⟩
instance : TZeroV PP 165 (.int .u8 0) := ⟨fun w => by kernel_rfl⟩
instance : TUnd PP 165 (.int (.u8)) := ⟨by kernel_rfl⟩
instance : TShape PP 166 false 1 := ⟨fun w => by kernel_rfl, fun w => by kernel_rfl⟩
instance : TInfo PP 166 8 := ⟨fun w => ⟨Try.t166, by rw [PP_def]; exact Try.typeInfo166 w, rfl⟩⟩
instance : TZero PP 166 [.nilFunc] := ⟨fun w => ⟨.nilFunc, by kernel_rfl, by kernel_rfl⟩⟩
instance : TZeroV PP 166 (.nilFunc) := ⟨fun w => by kernel_rfl⟩
instance : TShape PP 167 false 1 := ⟨fun w => by kernel_rfl, fun w => by kernel_rfl⟩
instance : TInfo PP 167 8 := ⟨fun w => ⟨Try.t167, by rw [PP_def]; exact Try.typeInfo167 w, rfl⟩⟩
instance : TZero PP 167 [.pointer none] := ⟨fun w => ⟨.pointer none, by kernel_rfl, by kernel_rfl⟩⟩
instance : TZeroV PP 167 (.pointer none) := ⟨fun w => by kernel_rfl⟩
instance : TUnd PP 167 (.pointer 5) := ⟨by kernel_rfl⟩
instance : TShape PP 168 false 1 := ⟨fun w => by kernel_rfl, fun w => by kernel_rfl⟩
instance : TInfo PP 168 4 := ⟨fun w => ⟨Try.t168, by rw [PP_def]; exact Try.typeInfo168 w, rfl⟩⟩
instance : TZero PP 168 [.int .i32 0] := ⟨fun w => ⟨.int .i32 0, by kernel_rfl, by kernel_rfl⟩⟩
instance : TZeroV PP 168 (.int .i32 0) := ⟨fun w => by kernel_rfl⟩
instance : TUnd PP 168 (.int (.i32)) := ⟨by kernel_rfl⟩
instance : TShape PP 169 false 1 := ⟨fun w => by kernel_rfl, fun w => by kernel_rfl⟩
instance : TInfo PP 169 4 := ⟨fun w => ⟨Try.t169, by rw [PP_def]; exact Try.typeInfo169 w, rfl⟩⟩
instance : TZero PP 169 [.int .i32 0] := ⟨fun w => ⟨.int .i32 0, by kernel_rfl, by kernel_rfl⟩⟩
instance : TZeroV PP 169 (.int .i32 0) := ⟨fun w => by kernel_rfl⟩
instance : TUnd PP 169 (.int (.i32)) := ⟨by kernel_rfl⟩
instance : TShape PP 170 true 11 := ⟨fun w => by kernel_rfl, fun w => by kernel_rfl⟩
instance : TInfo PP 170 48 := ⟨fun w => ⟨Try.t170, by rw [PP_def]; exact Try.typeInfo170 w, rfl⟩⟩
instance : TZero PP 170 [.int .u64 0, .int .u64 0, .int .u32 0, .int .u8 0, .int .u8 0, .int .u8 0, .int .u8 0, .nilFunc, .pointer none, .int .i32 0, .int .i32 0] := ⟨fun w => ⟨.agg #[.int .u64 0, .int .u64 0, .int .u32 0, .int .u8 0, .int .u8 0, .int .u8 0, .int .u8 0, .nilFunc, .pointer none, .int .i32 0, .int .i32 0], by kernel_rfl, by kernel_rfl⟩⟩
instance : TZeroV PP 170 (.agg #[.int .u64 0, .int .u64 0, .int .u32 0, .int .u8 0, .int .u8 0, .int .u8 0, .int .u8 0, .nilFunc, .pointer none, .int .i32 0, .int .i32 0]) := ⟨fun w => by kernel_rfl⟩
instance : TStruct PP 170 [.int .u64 0, .int .u64 0, .int .u32 0, .int .u8 0, .int .u8 0, .int .u8 0, .int .u8 0, .nilFunc, .pointer none, .int .i32 0, .int .i32 0] [(0, 1), (1, 1), (2, 1), (3, 1), (4, 1), (5, 1), (6, 1), (7, 1), (8, 1), (9, 1), (10, 1)] := ⟨⟨_, by rw [PP_def]; exact Try.underlying170, fun w => by kernel_rfl⟩, fun w => ⟨.agg #[.int .u64 0, .int .u64 0, .int .u32 0, .int .u8 0, .int .u8 0, .int .u8 0, .int .u8 0, .nilFunc, .pointer none, .int .i32 0, .int .i32 0], by kernel_rfl, by kernel_rfl⟩⟩
instance : TField PP 170 0 0 := ⟨fun b o w => by kernel_rfl⟩
instance : TPart PP 170 0 false 0 1 := part_lemma (ft := 12) (by rw [PP_def]; exact Try.underlying170) rfl rfl rfl
instance : TField PP 170 1 1 := ⟨fun b o w => by kernel_rfl⟩
instance : TPart PP 170 1 false 1 1 := part_lemma (ft := 12) (by rw [PP_def]; exact Try.underlying170) rfl rfl rfl
instance : TField PP 170 2 2 := ⟨fun b o w => by kernel_rfl⟩
instance : TPart PP 170 2 false 2 1 := part_lemma (ft := 46) (by rw [PP_def]; exact Try.underlying170) rfl rfl rfl
instance : TField PP 170 3 3 := ⟨fun b o w => by kernel_rfl⟩
instance : TPart PP 170 3 false 3 1 := part_lemma (ft := 164) (by rw [PP_def]; exact Try.underlying170) rfl rfl rfl
instance : TField PP 170 4 4 := ⟨fun b o w => by kernel_rfl⟩
instance : TPart PP 170 4 false 4 1 := part_lemma (ft := 5) (by rw [PP_def]; exact Try.underlying170) rfl rfl rfl
instance : TField PP 170 5 5 := ⟨fun b o w => by kernel_rfl⟩
instance : TPart PP 170 5 false 5 1 := part_lemma (ft := 5) (by rw [PP_def]; exact Try.underlying170) rfl rfl rfl
instance : TField PP 170 6 6 := ⟨fun b o w => by kernel_rfl⟩
instance : TPart PP 170 6 false 6 1 := part_lemma (ft := 165) (by rw [PP_def]; exact Try.underlying170) rfl rfl rfl
instance : TField PP 170 7 7 := ⟨fun b o w => by kernel_rfl⟩
instance : TPart PP 170 7 false 7 1 := part_lemma (ft := 166) (by rw [PP_def]; exact Try.underlying170) rfl rfl rfl
instance : TField PP 170 8 8 := ⟨fun b o w => by kernel_rfl⟩
instance : TPart PP 170 8 false 8 1 := part_lemma (ft := 167) (by rw [PP_def]; exact Try.underlying170) rfl rfl rfl
instance : TField PP 170 9 9 := ⟨fun b o w => by kernel_rfl⟩
instance : TPart PP 170 9 false 9 1 := part_lemma (ft := 168) (by rw [PP_def]; exact Try.underlying170) rfl rfl rfl
instance : TField PP 170 10 10 := ⟨fun b o w => by kernel_rfl⟩
instance : TPart PP 170 10 false 10 1 := part_lemma (ft := 169) (by rw [PP_def]; exact Try.underlying170) rfl rfl rfl
instance : TShape PP 171 true 11 := ⟨fun w => by kernel_rfl, fun w => by kernel_rfl⟩
instance : TInfo PP 171 48 := ⟨fun w => ⟨Try.t171, by rw [PP_def]; exact Try.typeInfo171 w, rfl⟩⟩
instance : TZero PP 171 [.int .u64 0, .int .u64 0, .int .u32 0, .int .u8 0, .int .u8 0, .int .u8 0, .int .u8 0, .nilFunc, .pointer none, .int .i32 0, .int .i32 0] := ⟨fun w => ⟨.agg #[.int .u64 0, .int .u64 0, .int .u32 0, .int .u8 0, .int .u8 0, .int .u8 0, .int .u8 0, .nilFunc, .pointer none, .int .i32 0, .int .i32 0], by kernel_rfl, by kernel_rfl⟩⟩
instance : TZeroV PP 171 (.agg #[.int .u64 0, .int .u64 0, .int .u32 0, .int .u8 0, .int .u8 0, .int .u8 0, .int .u8 0, .nilFunc, .pointer none, .int .i32 0, .int .i32 0]) := ⟨fun w => by kernel_rfl⟩
instance : TStruct PP 171 [.int .u64 0, .int .u64 0, .int .u32 0, .int .u8 0, .int .u8 0, .int .u8 0, .int .u8 0, .nilFunc, .pointer none, .int .i32 0, .int .i32 0] [(0, 1), (1, 1), (2, 1), (3, 1), (4, 1), (5, 1), (6, 1), (7, 1), (8, 1), (9, 1), (10, 1)] := ⟨⟨_, by rw [PP_def]; exact Try.underlying171, fun w => by kernel_rfl⟩, fun w => ⟨.agg #[.int .u64 0, .int .u64 0, .int .u32 0, .int .u8 0, .int .u8 0, .int .u8 0, .int .u8 0, .nilFunc, .pointer none, .int .i32 0, .int .i32 0], by kernel_rfl, by kernel_rfl⟩⟩
instance : TField PP 171 0 0 := ⟨fun b o w => by kernel_rfl⟩
instance : TPart PP 171 0 false 0 1 := part_lemma (ft := 12) (by rw [PP_def]; exact Try.underlying171) rfl rfl rfl
instance : TField PP 171 1 1 := ⟨fun b o w => by kernel_rfl⟩
instance : TPart PP 171 1 false 1 1 := part_lemma (ft := 12) (by rw [PP_def]; exact Try.underlying171) rfl rfl rfl
instance : TField PP 171 2 2 := ⟨fun b o w => by kernel_rfl⟩
instance : TPart PP 171 2 false 2 1 := part_lemma (ft := 46) (by rw [PP_def]; exact Try.underlying171) rfl rfl rfl
instance : TField PP 171 3 3 := ⟨fun b o w => by kernel_rfl⟩
instance : TPart PP 171 3 false 3 1 := part_lemma (ft := 164) (by rw [PP_def]; exact Try.underlying171) rfl rfl rfl
instance : TField PP 171 4 4 := ⟨fun b o w => by kernel_rfl⟩
instance : TPart PP 171 4 false 4 1 := part_lemma (ft := 5) (by rw [PP_def]; exact Try.underlying171) rfl rfl rfl
instance : TField PP 171 5 5 := ⟨fun b o w => by kernel_rfl⟩
instance : TPart PP 171 5 false 5 1 := part_lemma (ft := 5) (by rw [PP_def]; exact Try.underlying171) rfl rfl rfl
instance : TField PP 171 6 6 := ⟨fun b o w => by kernel_rfl⟩
instance : TPart PP 171 6 false 6 1 := part_lemma (ft := 165) (by rw [PP_def]; exact Try.underlying171) rfl rfl rfl
instance : TField PP 171 7 7 := ⟨fun b o w => by kernel_rfl⟩
instance : TPart PP 171 7 false 7 1 := part_lemma (ft := 166) (by rw [PP_def]; exact Try.underlying171) rfl rfl rfl
instance : TField PP 171 8 8 := ⟨fun b o w => by kernel_rfl⟩
instance : TPart PP 171 8 false 8 1 := part_lemma (ft := 167) (by rw [PP_def]; exact Try.underlying171) rfl rfl rfl
instance : TField PP 171 9 9 := ⟨fun b o w => by kernel_rfl⟩
instance : TPart PP 171 9 false 9 1 := part_lemma (ft := 168) (by rw [PP_def]; exact Try.underlying171) rfl rfl rfl
instance : TField PP 171 10 10 := ⟨fun b o w => by kernel_rfl⟩
instance : TPart PP 171 10 false 10 1 := part_lemma (ft := 169) (by rw [PP_def]; exact Try.underlying171) rfl rfl rfl
instance : TShape PP 172 false 1 := ⟨fun w => by kernel_rfl, fun w => by kernel_rfl⟩
instance : TInfo PP 172 8 := ⟨fun w => ⟨Try.t172, by rw [PP_def]; exact Try.typeInfo172 w, rfl⟩⟩
instance : TZero PP 172 [.nilFunc] := ⟨fun w => ⟨.nilFunc, by kernel_rfl, by kernel_rfl⟩⟩
instance : TZeroV PP 172 (.nilFunc) := ⟨fun w => by kernel_rfl⟩
instance : TShape PP 173 false 1 := ⟨fun w => by kernel_rfl, fun w => by kernel_rfl⟩
instance : TInfo PP 173 8 := ⟨fun w => ⟨Try.t173, by rw [PP_def]; exact Try.typeInfo173 w, rfl⟩⟩
instance : TZero PP 173 [.pointer none] := ⟨fun w => ⟨.pointer none, by kernel_rfl, by kernel_rfl⟩⟩
instance : TZeroV PP 173 (.pointer none) := ⟨fun w => by kernel_rfl⟩
instance : TShape PP 174 false 1 := ⟨fun w => by kernel_rfl, fun w => by kernel_rfl⟩
instance : TInfo PP 174 8 := ⟨fun w => ⟨Try.t174, by rw [PP_def]; exact Try.typeInfo174 w, rfl⟩⟩
instance : TZero PP 174 [.map none] := ⟨fun w => ⟨.map none, by kernel_rfl, by kernel_rfl⟩⟩
instance : TZeroV PP 174 (.map none) := ⟨fun w => by kernel_rfl⟩
instance : TUnd PP 174 (.map 27 2) := ⟨by kernel_rfl⟩
theorem en2 : Enters PP 2 := fun args w => by rw [PP_def]; exact Try.call2 args w
theorem fn2 : PP.funcs[2]? = some Try.f2 := by rw [PP_def]; exact Try.func2
theorem en3 : Enters PP 3 := fun args w => by rw [PP_def]; exact Try.call3 args w
theorem fn3 : PP.funcs[3]? = some Try.f3 := by rw [PP_def]; exact Try.func3
theorem en4 : Enters PP 4 := fun args w => by rw [PP_def]; exact Try.call4 args w
theorem fn4 : PP.funcs[4]? = some Try.f4 := by rw [PP_def]; exact Try.func4
theorem en5 : Enters PP 5 := fun args w => by rw [PP_def]; exact Try.call5 args w
theorem fn5 : PP.funcs[5]? = some Try.f5 := by rw [PP_def]; exact Try.func5
theorem en6 : Enters PP 6 := fun args w => by rw [PP_def]; exact Try.call6 args w
theorem fn6 : PP.funcs[6]? = some Try.f6 := by rw [PP_def]; exact Try.func6
theorem en7 : Enters PP 7 := fun args w => by rw [PP_def]; exact Try.call7 args w
theorem fn7 : PP.funcs[7]? = some Try.f7 := by rw [PP_def]; exact Try.func7
theorem en8 : Enters PP 8 := fun args w => by rw [PP_def]; exact Try.call8 args w
theorem fn8 : PP.funcs[8]? = some Try.f8 := by rw [PP_def]; exact Try.func8
theorem en9 : Enters PP 9 := fun args w => by rw [PP_def]; exact Try.call9 args w
theorem fn9 : PP.funcs[9]? = some Try.f9 := by rw [PP_def]; exact Try.func9
theorem en10 : Enters PP 10 := fun args w => by rw [PP_def]; exact Try.call10 args w
theorem fn10 : PP.funcs[10]? = some Try.f10 := by rw [PP_def]; exact Try.func10
theorem en11 : Enters PP 11 := fun args w => by rw [PP_def]; exact Try.call11 args w
theorem fn11 : PP.funcs[11]? = some Try.f11 := by rw [PP_def]; exact Try.func11
theorem en12 : Enters PP 12 := fun args w => by rw [PP_def]; exact Try.call12 args w
theorem fn12 : PP.funcs[12]? = some Try.f12 := by rw [PP_def]; exact Try.func12
theorem en13 : Enters PP 13 := fun args w => by rw [PP_def]; exact Try.call13 args w
theorem fn13 : PP.funcs[13]? = some Try.f13 := by rw [PP_def]; exact Try.func13
theorem en14 : Enters PP 14 := fun args w => by rw [PP_def]; exact Try.call14 args w
theorem fn14 : PP.funcs[14]? = some Try.f14 := by rw [PP_def]; exact Try.func14
theorem en15 : Enters PP 15 := fun args w => by rw [PP_def]; exact Try.call15 args w
theorem fn15 : PP.funcs[15]? = some Try.f15 := by rw [PP_def]; exact Try.func15
theorem en16 : Enters PP 16 := fun args w => by rw [PP_def]; exact Try.call16 args w
theorem fn16 : PP.funcs[16]? = some Try.f16 := by rw [PP_def]; exact Try.func16
theorem en17 : Enters PP 17 := fun args w => by rw [PP_def]; exact Try.call17 args w
theorem fn17 : PP.funcs[17]? = some Try.f17 := by rw [PP_def]; exact Try.func17
theorem en18 : Enters PP 18 := fun args w => by rw [PP_def]; exact Try.call18 args w
theorem fn18 : PP.funcs[18]? = some Try.f18 := by rw [PP_def]; exact Try.func18
theorem en19 : Enters PP 19 := fun args w => by rw [PP_def]; exact Try.call19 args w
theorem fn19 : PP.funcs[19]? = some Try.f19 := by rw [PP_def]; exact Try.func19
theorem en20 : Enters PP 20 := fun args w => by rw [PP_def]; exact Try.call20 args w
theorem fn20 : PP.funcs[20]? = some Try.f20 := by rw [PP_def]; exact Try.func20
theorem en21 : Enters PP 21 := fun args w => by rw [PP_def]; exact Try.call21 args w
theorem fn21 : PP.funcs[21]? = some Try.f21 := by rw [PP_def]; exact Try.func21
theorem en22 : Enters PP 22 := fun args w => by rw [PP_def]; exact Try.call22 args w
theorem fn22 : PP.funcs[22]? = some Try.f22 := by rw [PP_def]; exact Try.func22
theorem en23 : Enters PP 23 := fun args w => by rw [PP_def]; exact Try.call23 args w
theorem fn23 : PP.funcs[23]? = some Try.f23 := by rw [PP_def]; exact Try.func23
theorem en24 : Enters PP 24 := fun args w => by rw [PP_def]; exact Try.call24 args w
theorem fn24 : PP.funcs[24]? = some Try.f24 := by rw [PP_def]; exact Try.func24
theorem en25 : Enters PP 25 := fun args w => by rw [PP_def]; exact Try.call25 args w
theorem fn25 : PP.funcs[25]? = some Try.f25 := by rw [PP_def]; exact Try.func25
theorem en26 : Enters PP 26 := fun args w => by rw [PP_def]; exact Try.call26 args w
theorem fn26 : PP.funcs[26]? = some Try.f26 := by rw [PP_def]; exact Try.func26
theorem en27 : Enters PP 27 := fun args w => by rw [PP_def]; exact Try.call27 args w
theorem fn27 : PP.funcs[27]? = some Try.f27 := by rw [PP_def]; exact Try.func27
theorem en28 : Enters PP 28 := fun args w => by rw [PP_def]; exact Try.call28 args w
theorem fn28 : PP.funcs[28]? = some Try.f28 := by rw [PP_def]; exact Try.func28
theorem en29 : Enters PP 29 := fun args w => by rw [PP_def]; exact Try.call29 args w
theorem fn29 : PP.funcs[29]? = some Try.f29 := by rw [PP_def]; exact Try.func29
theorem en30 : Enters PP 30 := fun args w => by rw [PP_def]; exact Try.call30 args w
theorem fn30 : PP.funcs[30]? = some Try.f30 := by rw [PP_def]; exact Try.func30
theorem en31 : Enters PP 31 := fun args w => by rw [PP_def]; exact Try.call31 args w
theorem fn31 : PP.funcs[31]? = some Try.f31 := by rw [PP_def]; exact Try.func31
theorem en32 : Enters PP 32 := fun args w => by rw [PP_def]; exact Try.call32 args w
theorem fn32 : PP.funcs[32]? = some Try.f32 := by rw [PP_def]; exact Try.func32
theorem en33 : Enters PP 33 := fun args w => by rw [PP_def]; exact Try.call33 args w
theorem fn33 : PP.funcs[33]? = some Try.f33 := by rw [PP_def]; exact Try.func33
theorem en34 : Enters PP 34 := fun args w => by rw [PP_def]; exact Try.call34 args w
theorem fn34 : PP.funcs[34]? = some Try.f34 := by rw [PP_def]; exact Try.func34
theorem en35 : Enters PP 35 := fun args w => by rw [PP_def]; exact Try.call35 args w
theorem fn35 : PP.funcs[35]? = some Try.f35 := by rw [PP_def]; exact Try.func35
theorem en36 : Enters PP 36 := fun args w => by rw [PP_def]; exact Try.call36 args w
theorem fn36 : PP.funcs[36]? = some Try.f36 := by rw [PP_def]; exact Try.func36
theorem en37 : Enters PP 37 := fun args w => by rw [PP_def]; exact Try.call37 args w
theorem fn37 : PP.funcs[37]? = some Try.f37 := by rw [PP_def]; exact Try.func37
theorem en38 : Enters PP 38 := fun args w => by rw [PP_def]; exact Try.call38 args w
theorem fn38 : PP.funcs[38]? = some Try.f38 := by rw [PP_def]; exact Try.func38
theorem en39 : Enters PP 39 := fun args w => by rw [PP_def]; exact Try.call39 args w
theorem fn39 : PP.funcs[39]? = some Try.f39 := by rw [PP_def]; exact Try.func39
theorem en40 : Enters PP 40 := fun args w => by rw [PP_def]; exact Try.call40 args w
theorem fn40 : PP.funcs[40]? = some Try.f40 := by rw [PP_def]; exact Try.func40
theorem en41 : Enters PP 41 := fun args w => by rw [PP_def]; exact Try.call41 args w
theorem fn41 : PP.funcs[41]? = some Try.f41 := by rw [PP_def]; exact Try.func41
theorem en42 : Enters PP 42 := fun args w => by rw [PP_def]; exact Try.call42 args w
theorem fn42 : PP.funcs[42]? = some Try.f42 := by rw [PP_def]; exact Try.func42
theorem en43 : Enters PP 43 := fun args w => by rw [PP_def]; exact Try.call43 args w
theorem fn43 : PP.funcs[43]? = some Try.f43 := by rw [PP_def]; exact Try.func43
theorem en44 : Enters PP 44 := fun args w => by rw [PP_def]; exact Try.call44 args w
theorem fn44 : PP.funcs[44]? = some Try.f44 := by rw [PP_def]; exact Try.func44
theorem en45 : Enters PP 45 := fun args w => by rw [PP_def]; exact Try.call45 args w
theorem fn45 : PP.funcs[45]? = some Try.f45 := by rw [PP_def]; exact Try.func45
theorem en46 : Enters PP 46 := fun args w => by rw [PP_def]; exact Try.call46 args w
theorem fn46 : PP.funcs[46]? = some Try.f46 := by rw [PP_def]; exact Try.func46
theorem en47 : Enters PP 47 := fun args w => by rw [PP_def]; exact Try.call47 args w
theorem fn47 : PP.funcs[47]? = some Try.f47 := by rw [PP_def]; exact Try.func47
theorem en48 : Enters PP 48 := fun args w => by rw [PP_def]; exact Try.call48 args w
theorem fn48 : PP.funcs[48]? = some Try.f48 := by rw [PP_def]; exact Try.func48
theorem en49 : Enters PP 49 := fun args w => by rw [PP_def]; exact Try.call49 args w
theorem fn49 : PP.funcs[49]? = some Try.f49 := by rw [PP_def]; exact Try.func49
theorem en50 : Enters PP 50 := fun args w => by rw [PP_def]; exact Try.call50 args w
theorem fn50 : PP.funcs[50]? = some Try.f50 := by rw [PP_def]; exact Try.func50
theorem en51 : Enters PP 51 := fun args w => by rw [PP_def]; exact Try.call51 args w
theorem fn51 : PP.funcs[51]? = some Try.f51 := by rw [PP_def]; exact Try.func51
theorem en52 : Enters PP 52 := fun args w => by rw [PP_def]; exact Try.call52 args w
theorem fn52 : PP.funcs[52]? = some Try.f52 := by rw [PP_def]; exact Try.func52
theorem en53 : Enters PP 53 := fun args w => by rw [PP_def]; exact Try.call53 args w
theorem fn53 : PP.funcs[53]? = some Try.f53 := by rw [PP_def]; exact Try.func53
theorem en54 : Enters PP 54 := fun args w => by rw [PP_def]; exact Try.call54 args w
theorem fn54 : PP.funcs[54]? = some Try.f54 := by rw [PP_def]; exact Try.func54
theorem en55 : Enters PP 55 := fun args w => by rw [PP_def]; exact Try.call55 args w
theorem fn55 : PP.funcs[55]? = some Try.f55 := by rw [PP_def]; exact Try.func55
theorem en56 : Enters PP 56 := fun args w => by rw [PP_def]; exact Try.call56 args w
theorem fn56 : PP.funcs[56]? = some Try.f56 := by rw [PP_def]; exact Try.func56
theorem en57 : Enters PP 57 := fun args w => by rw [PP_def]; exact Try.call57 args w
theorem fn57 : PP.funcs[57]? = some Try.f57 := by rw [PP_def]; exact Try.func57
theorem en58 : Enters PP 58 := fun args w => by rw [PP_def]; exact Try.call58 args w
theorem fn58 : PP.funcs[58]? = some Try.f58 := by rw [PP_def]; exact Try.func58
theorem en59 : Enters PP 59 := fun args w => by rw [PP_def]; exact Try.call59 args w
theorem fn59 : PP.funcs[59]? = some Try.f59 := by rw [PP_def]; exact Try.func59
theorem en60 : Enters PP 60 := fun args w => by rw [PP_def]; exact Try.call60 args w
theorem fn60 : PP.funcs[60]? = some Try.f60 := by rw [PP_def]; exact Try.func60
theorem en61 : Enters PP 61 := fun args w => by rw [PP_def]; exact Try.call61 args w
theorem fn61 : PP.funcs[61]? = some Try.f61 := by rw [PP_def]; exact Try.func61
theorem en62 : Enters PP 62 := fun args w => by rw [PP_def]; exact Try.call62 args w
theorem fn62 : PP.funcs[62]? = some Try.f62 := by rw [PP_def]; exact Try.func62
theorem en63 : Enters PP 63 := fun args w => by rw [PP_def]; exact Try.call63 args w
theorem fn63 : PP.funcs[63]? = some Try.f63 := by rw [PP_def]; exact Try.func63
theorem en64 : Enters PP 64 := fun args w => by rw [PP_def]; exact Try.call64 args w
theorem fn64 : PP.funcs[64]? = some Try.f64 := by rw [PP_def]; exact Try.func64
theorem en65 : Enters PP 65 := fun args w => by rw [PP_def]; exact Try.call65 args w
theorem fn65 : PP.funcs[65]? = some Try.f65 := by rw [PP_def]; exact Try.func65
theorem en66 : Enters PP 66 := fun args w => by rw [PP_def]; exact Try.call66 args w
theorem fn66 : PP.funcs[66]? = some Try.f66 := by rw [PP_def]; exact Try.func66
theorem en67 : Enters PP 67 := fun args w => by rw [PP_def]; exact Try.call67 args w
theorem fn67 : PP.funcs[67]? = some Try.f67 := by rw [PP_def]; exact Try.func67
theorem en68 : Enters PP 68 := fun args w => by rw [PP_def]; exact Try.call68 args w
theorem fn68 : PP.funcs[68]? = some Try.f68 := by rw [PP_def]; exact Try.func68
theorem en69 : Enters PP 69 := fun args w => by rw [PP_def]; exact Try.call69 args w
theorem fn69 : PP.funcs[69]? = some Try.f69 := by rw [PP_def]; exact Try.func69
theorem en70 : Enters PP 70 := fun args w => by rw [PP_def]; exact Try.call70 args w
theorem fn70 : PP.funcs[70]? = some Try.f70 := by rw [PP_def]; exact Try.func70
theorem en71 : Enters PP 71 := fun args w => by rw [PP_def]; exact Try.call71 args w
theorem fn71 : PP.funcs[71]? = some Try.f71 := by rw [PP_def]; exact Try.func71
theorem en72 : Enters PP 72 := fun args w => by rw [PP_def]; exact Try.call72 args w
theorem fn72 : PP.funcs[72]? = some Try.f72 := by rw [PP_def]; exact Try.func72
theorem en73 : Enters PP 73 := fun args w => by rw [PP_def]; exact Try.call73 args w
theorem fn73 : PP.funcs[73]? = some Try.f73 := by rw [PP_def]; exact Try.func73
theorem en74 : Enters PP 74 := fun args w => by rw [PP_def]; exact Try.call74 args w
theorem fn74 : PP.funcs[74]? = some Try.f74 := by rw [PP_def]; exact Try.func74
theorem en75 : Enters PP 75 := fun args w => by rw [PP_def]; exact Try.call75 args w
theorem fn75 : PP.funcs[75]? = some Try.f75 := by rw [PP_def]; exact Try.func75
theorem en76 : Enters PP 76 := fun args w => by rw [PP_def]; exact Try.call76 args w
theorem fn76 : PP.funcs[76]? = some Try.f76 := by rw [PP_def]; exact Try.func76
theorem en77 : Enters PP 77 := fun args w => by rw [PP_def]; exact Try.call77 args w
theorem fn77 : PP.funcs[77]? = some Try.f77 := by rw [PP_def]; exact Try.func77
theorem en78 : Enters PP 78 := fun args w => by rw [PP_def]; exact Try.call78 args w
theorem fn78 : PP.funcs[78]? = some Try.f78 := by rw [PP_def]; exact Try.func78
theorem en79 : Enters PP 79 := fun args w => by rw [PP_def]; exact Try.call79 args w
theorem fn79 : PP.funcs[79]? = some Try.f79 := by rw [PP_def]; exact Try.func79
theorem en80 : Enters PP 80 := fun args w => by rw [PP_def]; exact Try.call80 args w
theorem fn80 : PP.funcs[80]? = some Try.f80 := by rw [PP_def]; exact Try.func80
theorem en81 : Enters PP 81 := fun args w => by rw [PP_def]; exact Try.call81 args w
theorem fn81 : PP.funcs[81]? = some Try.f81 := by rw [PP_def]; exact Try.func81
theorem en82 : Enters PP 82 := fun args w => by rw [PP_def]; exact Try.call82 args w
theorem fn82 : PP.funcs[82]? = some Try.f82 := by rw [PP_def]; exact Try.func82
theorem en83 : Enters PP 83 := fun args w => by rw [PP_def]; exact Try.call83 args w
theorem fn83 : PP.funcs[83]? = some Try.f83 := by rw [PP_def]; exact Try.func83
theorem en84 : Enters PP 84 := fun args w => by rw [PP_def]; exact Try.call84 args w
theorem fn84 : PP.funcs[84]? = some Try.f84 := by rw [PP_def]; exact Try.func84
theorem en85 : Enters PP 85 := fun args w => by rw [PP_def]; exact Try.call85 args w
theorem fn85 : PP.funcs[85]? = some Try.f85 := by rw [PP_def]; exact Try.func85
theorem en86 : Enters PP 86 := fun args w => by rw [PP_def]; exact Try.call86 args w
theorem fn86 : PP.funcs[86]? = some Try.f86 := by rw [PP_def]; exact Try.func86
theorem en87 : Enters PP 87 := fun args w => by rw [PP_def]; exact Try.call87 args w
theorem fn87 : PP.funcs[87]? = some Try.f87 := by rw [PP_def]; exact Try.func87
theorem en88 : Enters PP 88 := fun args w => by rw [PP_def]; exact Try.call88 args w
theorem fn88 : PP.funcs[88]? = some Try.f88 := by rw [PP_def]; exact Try.func88
theorem en89 : Enters PP 89 := fun args w => by rw [PP_def]; exact Try.call89 args w
theorem fn89 : PP.funcs[89]? = some Try.f89 := by rw [PP_def]; exact Try.func89
theorem en90 : Enters PP 90 := fun args w => by rw [PP_def]; exact Try.call90 args w
theorem fn90 : PP.funcs[90]? = some Try.f90 := by rw [PP_def]; exact Try.func90
theorem en91 : Enters PP 91 := fun args w => by rw [PP_def]; exact Try.call91 args w
theorem fn91 : PP.funcs[91]? = some Try.f91 := by rw [PP_def]; exact Try.func91
theorem en92 : Enters PP 92 := fun args w => by rw [PP_def]; exact Try.call92 args w
theorem fn92 : PP.funcs[92]? = some Try.f92 := by rw [PP_def]; exact Try.func92
theorem en93 : Enters PP 93 := fun args w => by rw [PP_def]; exact Try.call93 args w
theorem fn93 : PP.funcs[93]? = some Try.f93 := by rw [PP_def]; exact Try.func93
theorem en94 : Enters PP 94 := fun args w => by rw [PP_def]; exact Try.call94 args w
theorem fn94 : PP.funcs[94]? = some Try.f94 := by rw [PP_def]; exact Try.func94
theorem en95 : Enters PP 95 := fun args w => by rw [PP_def]; exact Try.call95 args w
theorem fn95 : PP.funcs[95]? = some Try.f95 := by rw [PP_def]; exact Try.func95
theorem en96 : Enters PP 96 := fun args w => by rw [PP_def]; exact Try.call96 args w
theorem fn96 : PP.funcs[96]? = some Try.f96 := by rw [PP_def]; exact Try.func96
theorem en97 : Enters PP 97 := fun args w => by rw [PP_def]; exact Try.call97 args w
theorem fn97 : PP.funcs[97]? = some Try.f97 := by rw [PP_def]; exact Try.func97
theorem en98 : Enters PP 98 := fun args w => by rw [PP_def]; exact Try.call98 args w
theorem fn98 : PP.funcs[98]? = some Try.f98 := by rw [PP_def]; exact Try.func98
theorem en99 : Enters PP 99 := fun args w => by rw [PP_def]; exact Try.call99 args w
theorem fn99 : PP.funcs[99]? = some Try.f99 := by rw [PP_def]; exact Try.func99
theorem en100 : Enters PP 100 := fun args w => by rw [PP_def]; exact Try.call100 args w
theorem fn100 : PP.funcs[100]? = some Try.f100 := by rw [PP_def]; exact Try.func100
theorem en101 : Enters PP 101 := fun args w => by rw [PP_def]; exact Try.call101 args w
theorem fn101 : PP.funcs[101]? = some Try.f101 := by rw [PP_def]; exact Try.func101
theorem en102 : Enters PP 102 := fun args w => by rw [PP_def]; exact Try.call102 args w
theorem fn102 : PP.funcs[102]? = some Try.f102 := by rw [PP_def]; exact Try.func102
theorem en103 : Enters PP 103 := fun args w => by rw [PP_def]; exact Try.call103 args w
theorem fn103 : PP.funcs[103]? = some Try.f103 := by rw [PP_def]; exact Try.func103
end Go.Proofs.Ytpcnbaddkblbhaa

/- The walks of package space: each function against the plain model. -/
namespace Go.Proofs.Ytpcnbaddkblbhaa
open Go.Vc Sim

def SpaceParts (p : Nat) (s : Sp) (i : Nat × Nat × Option Addr × Nat) : List Asn :=
  [pt p (.cells #[.map (some i.1), .map (some i.2.1), .slice i.2.2.1 s.puts.length i.2.2.2, .int .i64 s.need, .bool s.ended] 101 (0, 0)),
   pt i.1 (mapI (knM s.kn)), pt i.2.1 (mapI (rdM s.rd)), SlA 104 2 i.2.2.1 s.puts.length i.2.2.2 (flat s.puts)]
def SpaceA (p : Nat) (s : Sp) : Asn := fun h => ∃ i, Stars (SpaceParts p s i) h
abbrev spP (p : Nat) : Value := .pointer (some ⟨p, 0, none⟩)

theorem ended_spec (w0 : World) (p : Nat) (s : Sp) : FnE PP w0 [] 32 [spP p] [SpaceA p s] (.bool s.ended) [SpaceA p s] := by
  refine fn_of_run en32 fn32 rfl rfl rfl ?_
  refine run_open [0] (SpaceParts p s) rfl (fun _ h => h) ?_
  rintro ⟨bk, br, a, cap⟩
  repeat' (first | refine zck ?_ | refine zcp (by kernel_rfl) ?_ | (refine zap rfl ?_; first | ((with_reducible refine zct ?_); refine zaj rfl ?_) | ((with_reducible refine zcu ?_); refine zan rfl ?_) | ((with_reducible refine zcv ?_); refine zan rfl ?_) | ((with_reducible refine zcw ?_); refine zab 0 rfl rfl rfl ?_) | ((with_reducible refine zcy ?_); refine zao rfl ?_) | ((with_reducible refine zda ?_); refine zaz rfl rfl ?_) | ((with_reducible refine zdc ?_); refine zbv rfl ?_) | ((with_reducible refine zde ?_); refine zan rfl ?_)) | refine zch ?_)
  refine run_close1 (A := SpaceA p s) [0, 0, 0, 0] rfl (fun _ h => ⟨(_, _, _, _), h⟩) ?_
  refine ret_tmp1 rfl ⟨rfl, rfl⟩

theorem mark_spec (w0 : World) (p : Nat) (s : Sp) : FnE PP w0 [] 45 [spP p] [SpaceA p s] (.int .i64 s.puts.length) [SpaceA p s] := by
  refine fn_of_run en45 fn45 rfl rfl rfl ?_
  refine run_open [0] (SpaceParts p s) rfl (fun _ h => h) ?_
  rintro ⟨bk, br, a, cap⟩
  repeat' (first | refine zck ?_ | refine zcp (by kernel_rfl) ?_ | refine zcm ?_ | (refine zap rfl ?_; first | ((with_reducible refine zcu ?_); refine zan rfl ?_) | ((with_reducible refine zcv ?_); refine zan rfl ?_) | ((with_reducible refine zcw ?_); refine zab 0 rfl rfl rfl ?_) | ((with_reducible refine zcx ?_); refine zce rfl ?_) | ((with_reducible refine zcy ?_); refine zao rfl ?_) | ((with_reducible refine zda ?_); refine zaz rfl rfl ?_) | ((with_reducible refine zde ?_); refine zan rfl ?_)) | refine zch ?_ | refine zcj rfl ?_)
  refine run_close1 (A := SpaceA p s) [0, 0, 0, 0] rfl (fun _ h => ⟨(_, _, _, _), h⟩) ?_
  refine ret_tmp1 rfl ⟨rfl, rfl⟩

theorem reads_spec (w0 : World) (p : Nat) (s : Sp) (a : Int) : FnE PP w0 [] 65 [spP p, .int .i64 a] [SpaceA p s] (.bool (s.reads a).1) [SpaceA p (s.reads a).2] := by
  refine fn_of_run en65 fn65 rfl rfl rfl ?_
  repeat' (first | refine zck ?_ | refine zcp (by kernel_rfl) ?_ | (refine zap rfl ?_; first | ((with_reducible refine zcu ?_); refine zan rfl ?_) | ((with_reducible refine zcv ?_); refine zan rfl ?_) | ((with_reducible refine zcx ?_); refine zah [0] (ended_spec w0 _ _) rfl rfl rfl sub_nil rfl ?_)) | refine zch ?_)
  refine run_condV rfl (fun hE => ?_) (fun hE => ?_)
  · repeat' (first | refine zck ?_ | refine zcp (by kernel_rfl) ?_ | (refine zap rfl ?_; first | ((with_reducible refine zcv ?_); refine zan rfl ?_)) | refine zch ?_)
    refine ret_tmp1 rfl ?_
    have e : s.reads a = (false, s) := by simp [Sp.reads, hE]
    rw [e]; exact ⟨rfl, rfl⟩
  · refine run_open [0] (SpaceParts p s) rfl (fun _ h => h) ?_
    rintro ⟨bk, br, sa, cap⟩
    cases hk : lookW s.kn a with
    | none =>
      have hl : Vc.look (knM s.kn) a = none := by rw [look_knM, hk]; rfl
      repeat' (first | refine zck ?_ | refine zcp (by kernel_rfl) ?_ | refine zcm ?_ | (refine zap rfl ?_; first | refine reg_lookupOk 1 rfl rfl rfl hl ?_ | ((with_reducible refine zcu ?_); refine zan rfl ?_) | ((with_reducible refine zcv ?_); refine zan rfl ?_) | ((with_reducible refine zcw ?_); refine zab 0 rfl rfl rfl ?_) | ((with_reducible refine zcy ?_); refine zao rfl ?_) | ((with_reducible refine zcz ?_); refine zan rfl ?_) | ((with_reducible refine zdb ?_); refine zbx rfl ?_) | ((with_reducible refine zdd ?_); first | refine zae 0 rfl rfl rfl rfl rfl rfl rfl ?_ | refine zae 4 rfl rfl rfl rfl rfl rfl rfl ?_) | ((with_reducible refine zde ?_); refine zan rfl ?_) | ((with_reducible refine zdh ?_); refine zar (fun nb => ?_))) | refine zch ?_ | refine zci rfl ?_)
      have e : s.reads a = (false, { s with ended := true, need := a }) := by simp [Sp.reads, hE, hk]
      rw [e]
      refine run_close1 (A := SpaceA p { s with ended := true, need := a }) [0, 0, 0, 0] rfl (fun _ h => ⟨(_, _, _, _), h⟩) ?_
      refine ret_tmp1 rfl ⟨rfl, rfl⟩
    | some wd =>
      have hl : Vc.look (knM s.kn) a = some (wordV wd) := by rw [look_knM, hk]; rfl
      repeat' (first | refine zck ?_ | refine zcp (by kernel_rfl) ?_ | refine zcm ?_ | (refine zap rfl ?_; first | refine reg_lookupOk 1 rfl rfl rfl hl ?_ | refine reg_mapUpdate 2 rfl rfl rfl rfl rfl ?_ | ((with_reducible refine zcu ?_); refine zan rfl ?_) | ((with_reducible refine zcv ?_); refine zan rfl ?_) | ((with_reducible refine zcw ?_); refine zab 0 rfl rfl rfl ?_) | ((with_reducible refine zcy ?_); refine zao rfl ?_) | ((with_reducible refine zcz ?_); refine zan rfl ?_) | ((with_reducible refine zdb ?_); refine zbx rfl ?_) | ((with_reducible refine zdd ?_); refine zae 4 rfl rfl rfl rfl rfl rfl rfl ?_) | ((with_reducible refine zde ?_); refine zan rfl ?_) | ((with_reducible refine zdh ?_); refine zar (fun nb => ?_))) | refine zch ?_ | refine zcj rfl ?_)
      have e : s.reads a = (true, { s with rd := insI s.rd a }) := by simp [Sp.reads, hE, hk]
      rw [e]
      refine run_close1 (A := SpaceA p { s with rd := insI s.rd a }) [0, 0, 0, 0] rfl (fun _ h => ⟨(bk, br, sa, cap), by unfold SpaceParts; rw [← ins_rdM]; exact h⟩) ?_
      refine ret_tmp1 rfl ⟨rfl, rfl⟩

end Go.Proofs.Ytpcnbaddkblbhaa

namespace Go.Proofs.Ytpcnbaddkblbhaa
open Go.Vc Sim

theorem last_spec (w0 : World) (p : Nat) (s : Sp) (x : Int) (hlen : s.puts.length ≤ 1099511627776) : FnE PP w0 [] 73 [spP p, .int .i64 x] [SpaceA p s] (.int .i64 (lastI s.puts x)) [SpaceA p s] := by
  refine fn_of_run en73 fn73 rfl rfl rfl ?_
  refine run_open [0] (SpaceParts p s) rfl (fun _ h => h) ?_
  rintro ⟨bk, br, sa, cap⟩
  repeat' (first | refine zck ?_ | refine zcp (by kernel_rfl) ?_ | refine zcl ?_ | (refine zap rfl ?_; first | ((with_reducible refine zcu ?_); refine zan rfl ?_) | ((with_reducible refine zcv ?_); refine zan rfl ?_) | ((with_reducible refine zcw ?_); refine zab 0 rfl rfl rfl ?_) | ((with_reducible refine zcx ?_); refine zce rfl ?_) | ((with_reducible refine zcy ?_); refine zao rfl ?_) | ((with_reducible refine zda ?_); refine zav rfl rfl (by omega) ?_) | ((with_reducible refine zde ?_); refine zan rfl ?_)) | refine zch ?_)
  refine run_loop (S := Nat) (fun k => [(0, spP p), (1, .int .i64 x), (5, .int .i64 ((k : Int) - 1))])
    (fun k Γ => Γ = SpaceParts p s (bk, br, sa, cap) ∧ k ≤ s.puts.length ∧ ∀ j, k ≤ j → j < s.puts.length → ∀ p, s.puts[j]? = some p → p.1 ≠ x)
    (fun k => k) s.puts.length ⟨rfl, rfl, rfl, trivial⟩ ⟨rfl, Nat.le_refl _, fun j h1 h2 => absurd h2 (by omega)⟩ ?_
  rintro k Γ junk ⟨rfl, hk, hno⟩
  repeat' (first | refine zck ?_ | refine zcp (by kernel_rfl) ?_ | (refine zap rfl ?_; first | ((with_reducible refine zcu ?_); refine zan rfl ?_) | ((with_reducible refine zda ?_); refine zbt rfl rfl ?_)) | refine zch ?_)
  refine run_cond rfl (fun hc => ?_) (fun hc => ?_)
  · have hc : (0 : Int) ≤ (k : Int) - 1 := by simpa using hc
    refine run_sl_cases 3 rfl ?_ ?_
    · intro h1 h2 h3 h4; omega
    · intro nb h1 h2 h3
      subst h1
      obtain ⟨k, rfl⟩ : ∃ m, k = m + 1 := ⟨k - 1, by omega⟩
      have hlt : k < s.puts.length := by omega
      obtain ⟨q, hq⟩ : ∃ q, s.puts[k]? = some q := ⟨_, List.getElem?_eq_getElem hlt⟩
      have hr : ∀ o, o = k * 2 → rd false 1 (flat s.puts) o = some (.int .i64 q.1) := by
        intro o ho; subst ho; exact (flat_get _ _ _ hq).1
      repeat' (first | refine zck ?_ | refine zcp (by kernel_rfl) ?_ | refine zcm ?_ | refine zcl ?_ | (refine zap rfl ?_; first | refine zag 3 rfl rfl (hr _ (by omega)) (by intro h; cases h) ?_ | ((with_reducible refine zcu ?_); refine zan rfl ?_) | ((with_reducible refine zcw ?_); refine zab 0 rfl rfl rfl ?_) | ((with_reducible refine zcy ?_); refine zao rfl ?_) | ((with_reducible refine zda ?_); refine zbo rfl rfl ?_) | ((with_reducible refine zde ?_); refine zan rfl ?_) | ((with_reducible refine zdf ?_); refine zas rfl rfl (by omega) ?_)) | refine zch ?_)
      refine run_condV rfl (fun hE => ?_) (fun hE => ?_)
      · have hE : q.1 = x := by simpa using hE
        repeat' (first | refine zck ?_ | refine zcp (by kernel_rfl) ?_ | (refine zap rfl ?_; first | ((with_reducible refine zcu ?_); refine zan rfl ?_) | ((with_reducible refine zcv ?_); refine zan rfl ?_)) | refine zch ?_)
        refine run_close1 (A := SpaceA p s) [0, 0, 0, 0] rfl (fun _ h => ⟨(_, _, _, _), h⟩) ?_
        refine qret1 (fun _ _ h => h) rfl ⟨int_eq ?_, rfl⟩
        rw [lastI_spec s.puts x (k + 1) hk hno]
        simp only [lastI.go, hq, Option.map_some, hE, if_true]
        omega
      · have hE : q.1 ≠ x := by simpa using hE
        repeat' (first | refine zcp (by kernel_rfl) ?_ | refine zcm ?_ | refine zcn ?_ | (refine zap rfl ?_; first | ((with_reducible refine zcu ?_); refine zan rfl ?_) | ((with_reducible refine zcv ?_); refine zan rfl ?_) | ((with_reducible refine zda ?_); refine zav rfl rfl (by omega) ?_)) | refine zch ?_)
        refine cut_end ⟨rfl, k, ⟨rfl, rfl, int_eq (by omega), trivial⟩, ⟨rfl, by omega, ?_⟩, by omega⟩
        intro j h1 h2 p hp
        by_cases hj : j = k
        · subst hj; rw [hq] at hp; cases hp; exact hE
        · exact hno j (by omega) h2 p hp
  · have hc : ¬ (0 : Int) ≤ (k : Int) - 1 := by simpa using hc
    have hk0 : k = 0 := by omega
    subst hk0
    repeat' (first | refine zck ?_ | (refine zap rfl ?_; first | ((with_reducible refine zcu ?_); refine zan rfl ?_)) | refine zch ?_)
    refine cut_exit rfl rfl ?_
    repeat' (first | refine zck ?_ | refine zcp (by kernel_rfl) ?_ | (refine zap rfl ?_; first | ((with_reducible refine zcv ?_); refine zan rfl ?_)) | refine zch ?_)
    refine run_close1 (A := SpaceA p s) [0, 0, 0, 0] rfl (fun _ h => ⟨(_, _, _, _), h⟩) ?_
    refine ret_tmp1 rfl ⟨int_eq ?_, rfl⟩
    rw [lastI_spec s.puts x 0 hk hno]; rfl
end Go.Proofs.Ytpcnbaddkblbhaa

namespace Go.Proofs.Ytpcnbaddkblbhaa
open Go.Vc Sim

theorem value_spec (w0 : World) (p : Nat) (s : Sp) (x : Int) (hlen : s.puts.length ≤ 1099511627776) : FnE PP w0 [] 63 [spP p, .int .i64 x] [SpaceA p s] (.tuple #[.int .i64 (s.value x).1, .bool (s.value x).2]) [SpaceA p s] := by
  refine fn_of_run en63 fn63 rfl rfl rfl ?_
  rcases lastI_lastV s.puts x with ⟨h1, h2⟩ | ⟨j, q, h1, hq, h2, h3⟩
  · repeat' (first | refine zck ?_ | refine zcp (by kernel_rfl) ?_ | (refine zap rfl ?_; first | ((with_reducible refine zcu ?_); refine zan rfl ?_) | ((with_reducible refine zcv ?_); refine zan rfl ?_) | ((with_reducible refine zcx ?_); refine zah [0] (last_spec w0 p s x hlen) rfl rfl rfl sub_nil rfl ?_) | ((with_reducible refine zda ?_); refine zbt rfl rfl ?_)) | refine zch ?_)
    refine zcj (by rw [h2]; rfl) ?_
    refine run_open [0] (SpaceParts p s) rfl (fun _ h => h) ?_
    rintro ⟨bk, br, sa, cap⟩
    cases hk : lookW s.kn x with
    | none =>
      have hl : Vc.look (knM s.kn) x = none := by rw [look_knM, hk]; rfl
      repeat' (first | refine zck ?_ | refine zcp (by kernel_rfl) ?_ | refine zcm ?_ | (refine zap rfl ?_; first | refine reg_lookup1 1 rfl rfl rfl hl ?_ | refine reg_fieldV rfl rfl ?_ | ((with_reducible refine zcu ?_); refine zan rfl ?_) | ((with_reducible refine zcv ?_); refine zan rfl ?_) | ((with_reducible refine zcw ?_); refine zab 0 rfl rfl rfl ?_) | ((with_reducible refine zcy ?_); refine zao rfl ?_) | ((with_reducible refine zde ?_); refine zan rfl ?_)) | refine zch ?_)
      have e : s.value x = (0, false) := by simp [Sp.value, h1, hk]
      rw [e]
      refine run_close1 (A := SpaceA p s) [0, 0, 0, 0] rfl (fun _ h => ⟨(_, _, _, _), h⟩) ?_
      refine ret_tmp2 rfl ⟨rfl, rfl⟩
    | some wd =>
      have hl : Vc.look (knM s.kn) x = some (wordV wd) := by rw [look_knM, hk]; rfl
      repeat' (first | refine zck ?_ | refine zcp (by kernel_rfl) ?_ | refine zcm ?_ | (refine zap rfl ?_; first | refine reg_lookup1 1 rfl rfl rfl hl ?_ | refine reg_fieldV rfl rfl ?_ | ((with_reducible refine zcu ?_); refine zan rfl ?_) | ((with_reducible refine zcv ?_); refine zan rfl ?_) | ((with_reducible refine zcw ?_); refine zab 0 rfl rfl rfl ?_) | ((with_reducible refine zcy ?_); refine zao rfl ?_) | ((with_reducible refine zde ?_); refine zan rfl ?_)) | refine zch ?_)
      have e : s.value x = (wd.val, false) := by simp [Sp.value, h1, hk]
      rw [e]
      refine run_close1 (A := SpaceA p s) [0, 0, 0, 0] rfl (fun _ h => ⟨(_, _, _, _), h⟩) ?_
      refine ret_tmp2 rfl ⟨rfl, rfl⟩
  · have hr : ∀ o, o = j * 2 + 1 → rd false 1 (flat s.puts) o = some (.int .i64 q.2) := by
      intro o ho; subst ho; exact (flat_get _ _ _ hq).2
    repeat' (first | refine zck ?_ | refine zcp (by kernel_rfl) ?_ | (refine zap rfl ?_; first | ((with_reducible refine zcu ?_); refine zan rfl ?_) | ((with_reducible refine zcv ?_); refine zan rfl ?_) | ((with_reducible refine zcx ?_); refine zah [0] (last_spec w0 p s x hlen) rfl rfl rfl sub_nil rfl ?_) | ((with_reducible refine zda ?_); refine zbt rfl rfl ?_)) | refine zch ?_)
    refine zci (by rw [h3]; exact bool_eq (by simp)) ?_
    refine run_open [0] (SpaceParts p s) rfl (fun _ h => h) ?_
    rintro ⟨bk, br, sa, cap⟩
    refine run_sl_cases 3 rfl (fun _ h => absurd h (by omega)) ?_
    intro nb e1 e2 e3
    subst e1
    repeat' (first | refine zck ?_ | refine zcp (by kernel_rfl) ?_ | (refine zap rfl ?_; first | refine zag 3 rfl rfl (hr _ (by omega)) (by intro h; cases h) ?_ | ((with_reducible refine zcu ?_); refine zan rfl ?_) | ((with_reducible refine zcv ?_); refine zan rfl ?_) | ((with_reducible refine zcw ?_); refine zab 0 rfl rfl rfl ?_) | ((with_reducible refine zcy ?_); refine zao rfl ?_) | ((with_reducible refine zde ?_); refine zan rfl ?_) | ((with_reducible refine zdf ?_); refine zas rfl rfl (by omega) ?_)) | refine zch ?_)
    have e : s.value x = (q.2, true) := by simp [Sp.value, h2]
    rw [e]
    refine run_close1 (A := SpaceA p s) [0, 0, 0, 0] rfl (fun _ h => ⟨(_, _, _, _), h⟩) ?_
    refine ret_tmp2 rfl ⟨rfl, rfl⟩

theorem reads_puts (s : Sp) (x : Int) : (s.reads x).2.puts = s.puts := by unfold Sp.reads; split; rfl; split <;> rfl

theorem get_spec (w0 : World) (p : Nat) (s : Sp) (x : Int) (hlen : s.puts.length ≤ 1099511627776) : FnE PP w0 [] 41 [spP p, .int .i64 x] [SpaceA p s] (.int .i64 (s.get x).1) [SpaceA p (s.get x).2] := by
  refine fn_of_run en41 fn41 rfl rfl rfl ?_
  repeat' (first | refine zck ?_ | refine zcp (by kernel_rfl) ?_ | (refine zap rfl ?_; first | ((with_reducible refine zcu ?_); refine zan rfl ?_) | ((with_reducible refine zcv ?_); refine zan rfl ?_) | ((with_reducible refine zcx ?_); refine zah [0] (reads_spec w0 p s x) rfl rfl rfl sub_nil rfl ?_) | ((with_reducible refine zdb ?_); refine zbx rfl ?_)) | refine zch ?_)
  refine run_condV rfl (fun hE => ?_) (fun hE => ?_)
  · have hE : (s.reads x).1 = false := by simpa using hE
    repeat' (first | refine zck ?_ | refine zcp (by kernel_rfl) ?_ | (refine zap rfl ?_; first | ((with_reducible refine zcv ?_); refine zan rfl ?_)) | refine zch ?_)
    have e : s.get x = (0, (s.reads x).2) := by simp [Sp.get, hE]
    rw [e]
    refine ret_tmp1 rfl ⟨rfl, rfl⟩
  · have hE : (s.reads x).1 = true := by simpa using hE
    repeat' (first | refine zck ?_ | refine zcp (by kernel_rfl) ?_ | refine zcm ?_ | (refine zap rfl ?_; first | ((with_reducible refine zcu ?_); refine zan rfl ?_) | ((with_reducible refine zcv ?_); refine zan rfl ?_) | ((with_reducible refine zcx ?_); refine zah [0] (value_spec w0 p (s.reads x).2 x (by rw [reads_puts]; exact hlen)) rfl rfl rfl sub_nil rfl ?_) | ((with_reducible refine zcz ?_); refine zan rfl ?_)) | refine zch ?_)
    have e : s.get x = (((s.reads x).2.value x).1, (s.reads x).2) := by simp [Sp.get, hE]
    rw [e]
    refine ret_tmp1 rfl ⟨rfl, rfl⟩

theorem put_spec (w0 : World) (p : Nat) (s : Sp) (x v : Int) (hlen : s.puts.length ≤ 1099511627776) : FnE PP w0 [] 49 [spP p, .int .i64 x, .int .i64 v] [SpaceA p s] (.tuple #[]) [SpaceA p (s.put x v)] := by
  refine fn_of_run en49 fn49 rfl rfl rfl ?_
  repeat' (first | refine zck ?_ | refine zcp (by kernel_rfl) ?_ | (refine zap rfl ?_; first | ((with_reducible refine zcu ?_); refine zan rfl ?_) | ((with_reducible refine zcx ?_); refine zah [0] (reads_spec w0 p s x) rfl rfl rfl sub_nil rfl ?_)) | refine zch ?_)
  refine run_condV rfl (fun hE => ?_) (fun hE => ?_)
  · generalize hs1 : (s.reads x).2 = s1
    have hp1 : s1.puts = s.puts := by rw [← hs1, reads_puts]
    have e : s.put x v = { s1 with puts := s1.puts ++ [(x, v)] } := by simp [Sp.put, hE, hs1, hp1]
    rw [e]
    refine run_open [0] (SpaceParts p s1) rfl (fun _ h => h) ?_
    rintro ⟨bk, br, sa, cap⟩
    repeat' (first | refine zcp (by kernel_rfl) ?_ | (refine zap rfl ?_; first | refine zcb rfl ?_ | refine reg_buildSlice rfl rfl rfl rfl rfl rfl (fun nb => ?_) | refine reg_append 3 4 rfl rfl rfl rfl rfl rfl rfl rfl (by rw [hp1]; omega) (fun _ _ => rfl) (fun a' cap' => ?_) | ((with_reducible refine zcu ?_); refine zan rfl ?_) | ((with_reducible refine zcw ?_); refine zab 0 rfl rfl rfl ?_) | ((with_reducible refine zcy ?_); refine zao rfl ?_) | ((with_reducible refine zdd ?_); refine zae 0 rfl rfl rfl rfl rfl rfl rfl ?_) | ((with_reducible refine zde ?_); refine zan rfl ?_)) | refine zch ?_)
    refine run_close1 (A := SpaceA p { s1 with puts := s1.puts ++ [(x, v)] }) [0, 0, 0, 0] rfl (fun _ h => ⟨(bk, br, a', cap'), by unfold SpaceParts; rw [flat_append, List.length_append]; exact h⟩) ?_
    exact end_tmp0 rfl ⟨rfl, rfl⟩
  · have e : s.put x v = (s.reads x).2 := by simp [Sp.put, hE]
    rw [e]
    repeat' (first | refine zcm ?_ | (refine zap rfl ?_; first | ((with_reducible refine zcu ?_); refine zan rfl ?_)) | refine zch ?_)
    exact end_tmp0 rfl ⟨rfl, rfl⟩

theorem back_spec (w0 : World) (p : Nat) (s : Sp) (m : Int) : FnE PP w0 [] 47 [spP p, .int .i64 m] [SpaceA p s] (.tuple #[]) [SpaceA p (s.back m)] := by
  refine fn_of_run en47 fn47 rfl rfl rfl ?_
  obtain ⟨kn, rd, puts, need, ended⟩ := s
  generalize hs : (⟨kn, rd, puts, need, ended⟩ : Sp) = s
  cases ended with
  | true =>
    have e : s.back m = s := by rw [← hs]; simp [Sp.back]
    rw [e, ← hs]
    repeat' (first | refine zck ?_ | refine zcp (by kernel_rfl) ?_ | refine zcm ?_ | (refine zap rfl ?_; first | ((with_reducible refine zct ?_); refine zak rfl ?_) | ((with_reducible refine zcu ?_); refine zan rfl ?_) | ((with_reducible refine zcx ?_); refine zah [0] (ended_spec w0 p _) rfl rfl rfl sub_nil rfl ?_) | ((with_reducible refine zdb ?_); refine zbx rfl ?_) | ((with_reducible refine zdc ?_); refine zbv rfl ?_)) | refine zch ?_ | refine zcj rfl ?_)
    exact end_tmp0 rfl ⟨rfl, rfl⟩
  | false =>
    by_cases h0 : 0 ≤ m
    · have d0 : decide (0 ≤ m) = true := decide_eq_true h0
      by_cases h1 : m ≤ puts.length
      · have d1 : decide (m ≤ (puts.length : Int)) = true := decide_eq_true h1
        have e : s.back m = ⟨kn, rd, puts.take m.toNat, need, false⟩ := by rw [← hs]; simp [Sp.back, h0, h1]
        rw [e, ← hs]
        repeat' (first | refine zck ?_ | refine zcp (by kernel_rfl) ?_ | (refine zap rfl ?_; first | (refine zbt rfl rfl ?_; rw [d0]) | ((with_reducible refine zct ?_); refine zaj rfl ?_) | ((with_reducible refine zcu ?_); refine zan rfl ?_) | ((with_reducible refine zcx ?_); refine zah [0] (ended_spec w0 p _) rfl rfl rfl sub_nil rfl ?_) | ((with_reducible refine zcy ?_); refine zao rfl ?_) | ((with_reducible refine zdb ?_); refine zbx rfl ?_) | ((with_reducible refine zdc ?_); refine zbu rfl ?_) | ((with_reducible refine zde ?_); refine zan rfl ?_)) | refine zch ?_)
        refine reg_open [0] (SpaceParts p ⟨kn, rd, puts, need, false⟩) rfl rfl (fun _ h => h) ?_
        rintro ⟨bk, br, sa, cap⟩
        refine reg_know rfl (sl_know 3 rfl) (fun hcap => ?_)
        have hcap2 : puts.length ≤ cap := hcap.2
        repeat' (first | refine zcp (by kernel_rfl) ?_ | (refine zap rfl ?_; first | (refine zbr rfl rfl ?_; rw [d1]) | refine reg_slice3 rfl rfl rfl (h' := m) (m' := m) ⟨h0, Int.le_refl _, Int.le_trans h1 (Int.ofNat_le.2 hcap2)⟩ ?_ | ((with_reducible refine zct ?_); refine zaj rfl ?_) | ((with_reducible refine zcu ?_); refine zan rfl ?_) | ((with_reducible refine zcw ?_); refine zab 0 rfl rfl rfl ?_) | ((with_reducible refine zcx ?_); refine zce rfl ?_) | ((with_reducible refine zcy ?_); refine zao rfl ?_) | ((with_reducible refine zdc ?_); refine zbu rfl ?_) | ((with_reducible refine zdd ?_); refine zae 0 rfl rfl rfl rfl rfl rfl rfl ?_) | ((with_reducible refine zde ?_); refine zan rfl ?_)) | refine zch ?_ | refine zci rfl ?_)
        refine run_exch 3 (SlA 104 2 sa m.toNat m.toNat ((flat puts).take (m.toNat * 2))) rfl (fun g hg => SlA_cut hg (by show m.toNat ≤ puts.length; omega)) rfl ?_
        have hl : (puts.take m.toNat).length = m.toNat := by rw [List.length_take]; omega
        refine run_close1 (A := SpaceA p ⟨kn, rd, puts.take m.toNat, need, false⟩) [0, 0, 0, 0] rfl (fun _ h => ⟨(bk, br, sa, m.toNat), by unfold SpaceParts; rw [hl, ← flat_take]; exact h⟩) ?_
        exact end_tmp0 rfl ⟨rfl, rfl⟩
      · have d1 : decide (m ≤ (puts.length : Int)) = false := decide_eq_false h1
        have e : s.back m = s := by rw [← hs]; simp [Sp.back, h1]
        rw [e, ← hs]
        repeat' (first | refine zck ?_ | refine zcp (by kernel_rfl) ?_ | (refine zap rfl ?_; first | (refine zbt rfl rfl ?_; rw [d0]) | ((with_reducible refine zct ?_); refine zaj rfl ?_) | ((with_reducible refine zcu ?_); refine zan rfl ?_) | ((with_reducible refine zcx ?_); refine zah [0] (ended_spec w0 p _) rfl rfl rfl sub_nil rfl ?_) | ((with_reducible refine zcy ?_); refine zao rfl ?_) | ((with_reducible refine zdb ?_); refine zbx rfl ?_) | ((with_reducible refine zdc ?_); refine zbu rfl ?_) | ((with_reducible refine zde ?_); refine zan rfl ?_)) | refine zch ?_)
        refine reg_open [0] (SpaceParts p ⟨kn, rd, puts, need, false⟩) rfl rfl (fun _ h => h) ?_
        rintro ⟨bk, br, sa, cap⟩
        repeat' (first | refine zcm ?_ | (refine zap rfl ?_; first | (refine zbr rfl rfl ?_; rw [d1]) | ((with_reducible refine zct ?_); refine zaj rfl ?_) | ((with_reducible refine zcw ?_); refine zab 0 rfl rfl rfl ?_) | ((with_reducible refine zcx ?_); refine zce rfl ?_) | ((with_reducible refine zdc ?_); refine zbu rfl ?_)) | refine zch ?_ | refine zcj rfl ?_)
        refine run_close1 (A := SpaceA p ⟨kn, rd, puts, need, false⟩) [0, 0, 0, 0] rfl (fun _ h => ⟨(bk, br, sa, cap), h⟩) ?_
        exact end_tmp0 rfl ⟨rfl, rfl⟩
    · have d0 : decide (0 ≤ m) = false := decide_eq_false h0
      have e : s.back m = s := by rw [← hs]; simp [Sp.back, h0]
      rw [e, ← hs]
      repeat' (first | refine zck ?_ | refine zcp (by kernel_rfl) ?_ | refine zcm ?_ | (refine zap rfl ?_; first | (refine zbt rfl rfl ?_; rw [d0]) | ((with_reducible refine zct ?_); first | refine zaj rfl ?_ | refine zak rfl ?_) | ((with_reducible refine zcu ?_); refine zan rfl ?_) | ((with_reducible refine zcx ?_); refine zah [0] (ended_spec w0 p _) rfl rfl rfl sub_nil rfl ?_) | ((with_reducible refine zdb ?_); refine zbx rfl ?_) | ((with_reducible refine zdc ?_); first | refine zbu rfl ?_ | refine zbv rfl ?_)) | refine zch ?_ | refine zcj rfl ?_)
      exact end_tmp0 rfl ⟨rfl, rfl⟩
end Go.Proofs.Ytpcnbaddkblbhaa

/- Programs over a space, as data: what they compute, and general laws of them. -/
namespace Sim
open Go Go.Vc

inductive Pg (α : Type) : Type where
  | ret : α → Pg α
  | get : Int → (Int → Pg α) → Pg α
  | put : Int → Int → Pg α → Pg α
  | mark : (Nat → Pg α) → Pg α
  | back : Nat → Pg α → Pg α
namespace Pg
variable {α β γ : Type}
def bind : Pg α → (α → Pg β) → Pg β
  | ret a, f => f a
  | get x k, f => get x fun v => (k v).bind f
  | put x v k, f => put x v (k.bind f)
  | mark k, f => mark fun m => (k m).bind f
  | back m k, f => back m (k.bind f)
instance : Monad Pg where
  pure := ret
  bind := bind
def gt (x : Int) : Pg Int := get x ret
def pt (x v : Int) : Pg Unit := put x v (ret ())
def mk : Pg Nat := mark ret
def bk (m : Nat) : Pg Unit := back m (ret ())

def run : Pg α → Sp → α × Sp
  | ret a, s => (a, s)
  | get x k, s => run (k (s.get x).1) (s.get x).2
  | put x v k, s => run k (s.put x v)
  | mark k, s => run (k s.puts.length) s
  | back m k, s => run k (s.back m)
/-- There is room for all that it writes. -/
def Fits : Pg α → Sp → Prop
  | ret _, s => s.puts.length ≤ 1099511627776
  | get x k, s => s.puts.length ≤ 1099511627776 ∧ Fits (k (s.get x).1) (s.get x).2
  | put x v k, s => s.puts.length ≤ 1099511627776 ∧ Fits k (s.put x v)
  | mark k, s => s.puts.length ≤ 1099511627776 ∧ Fits (k s.puts.length) s
  | back m k, s => s.puts.length ≤ 1099511627776 ∧ Fits k (s.back m)
theorem Fits.here : ∀ {g : Pg α} {s : Sp}, Fits g s → s.puts.length ≤ 1099511627776
  | ret _, _, h => h
  | get _ _, _, h => h.1
  | put _ _ _, _, h => h.1
  | mark _, _, h => h.1
  | back _ _, _, h => h.1
theorem run_bind (f : α → Pg β) : ∀ (g : Pg α) (s : Sp), run (g >>= f) s = run (f (run g s).1) (run g s).2
  | ret _, _ => rfl
  | get x k, s => run_bind f (k (s.get x).1) (s.get x).2
  | put x v k, s => run_bind f k (s.put x v)
  | mark k, s => run_bind f (k s.puts.length) s
  | back m k, s => run_bind f k (s.back m)
theorem fits_bind (f : α → Pg β) : ∀ (g : Pg α) (s : Sp), Fits (g >>= f) s → Fits g s ∧ Fits (f (run g s).1) (run g s).2
  | ret _, _, h => ⟨Fits.here h, h⟩
  | get x k, s, h => let ⟨h1, h2⟩ := fits_bind f (k (s.get x).1) (s.get x).2 h.2; ⟨⟨h.1, h1⟩, h2⟩
  | put x v k, s, h => let ⟨h1, h2⟩ := fits_bind f k (s.put x v) h.2; ⟨⟨h.1, h1⟩, h2⟩
  | mark k, s, h => let ⟨h1, h2⟩ := fits_bind f (k s.puts.length) s h.2; ⟨⟨h.1, h1⟩, h2⟩
  | back m k, s, h => let ⟨h1, h2⟩ := fits_bind f k (s.back m) h.2; ⟨⟨h.1, h1⟩, h2⟩
theorem bind_assoc (f : α → Pg β) (g : β → Pg γ) : ∀ (x : Pg α), (x >>= f) >>= g = x >>= fun a => f a >>= g
  | ret _ => rfl
  | get x k => congrArg (get x) (funext fun v => bind_assoc f g (k v))
  | put x v k => congrArg (put x v) (bind_assoc f g k)
  | mark k => congrArg mark (funext fun m => bind_assoc f g (k m))
  | back m k => congrArg (back m) (bind_assoc f g k)
theorem pure_bind (a : α) (f : α → Pg β) : (pure a >>= f) = f a := rfl
theorem ret_bind (a : α) (f : α → Pg β) : (Pg.ret a >>= f) = f a := rfl
theorem ite_bind (c : Prop) [Decidable c] (x y : Pg α) (f : α → Pg β) : ((if c then x else y) >>= f) = if c then x >>= f else y >>= f := by split <;> rfl
theorem bind_pure : ∀ (x : Pg α), (x >>= fun a => pure a) = x
  | ret _ => rfl
  | get x k => congrArg (get x) (funext fun v => bind_pure (k v))
  | put x v k => congrArg (put x v) (bind_pure k)
  | mark k => congrArg mark (funext fun m => bind_pure (k m))
  | back m k => congrArg (back m) (bind_pure k)

/-- At most so many writes. -/
def Bd : Nat → Pg α → Prop
  | _, ret _ => True
  | j, get _ k => ∀ v, Bd j (k v)
  | 0, put _ _ _ => False
  | j + 1, put _ _ k => Bd j k
  | j, mark k => ∀ m, Bd j (k m)
  | j, back _ k => Bd j k
theorem Bd.mono : ∀ {g : Pg α} {i j : Nat}, i ≤ j → Bd i g → Bd j g
  | ret _, i, j, _, _ => by simp [Bd]
  | get _ k, i, j, h, hb => by simp only [Bd] at hb ⊢; exact fun v => Bd.mono h (hb v)
  | put _ _ k, 0, j, h, hb => by simp [Bd] at hb
  | put _ _ k, i + 1, 0, h, hb => absurd h (by omega)
  | put _ _ k, i + 1, j + 1, h, hb => by simp only [Bd] at hb ⊢; exact Bd.mono (by omega) hb
  | mark k, i, j, h, hb => by simp only [Bd] at hb ⊢; exact fun v => Bd.mono h (hb v)
  | back _ k, i, j, h, hb => by simp only [Bd] at hb ⊢; exact Bd.mono h hb
theorem bd_bind {f : α → Pg β} {j : Nat} (hf : ∀ a, Bd j (f a)) : ∀ {g : Pg α} {i : Nat}, Bd i g → Bd (i + j) (g >>= f)
  | ret a, i, _ => Bd.mono (by omega) (hf a)
  | get x k, i, h => by
    simp only [Bd] at h
    show Bd (i + j) (get x fun v => (k v >>= f))
    simp only [Bd]
    exact fun v => bd_bind hf (h v)
  | put x v k, 0, h => by simp [Bd] at h
  | put x v k, i + 1, h => by
    simp only [Bd] at h
    show Bd (i + 1 + j) (put x v (k >>= f))
    rw [show i + 1 + j = (i + j) + 1 by omega]
    simp only [Bd]
    exact bd_bind hf h
  | mark k, i, h => by
    simp only [Bd] at h
    show Bd (i + j) (mark fun v => (k v >>= f))
    simp only [Bd]
    exact fun v => bd_bind hf (h v)
  | back m k, i, h => by
    simp only [Bd] at h
    show Bd (i + j) (back m (k >>= f))
    simp only [Bd]
    exact bd_bind hf h
theorem bd_seq {f : α → Pg β} {g : Pg α} {i j n : Nat} (hg : Bd i g) (hf : ∀ a, Bd j (f a)) (h : i + j ≤ n) : Bd n (g >>= f) := (bd_bind hf hg).mono h
theorem bd_then {f : α → Pg β} {g : Pg α} {i n : Nat} (hg : Bd i g) (hf : ∀ a, Bd (n - i) (f a)) (h : i ≤ n) : Bd n (g >>= f) := bd_seq hg hf (by omega)
theorem bd_gt0 (x : Int) : Bd 0 (gt x) := fun _ => trivial
theorem bd_mk0 : Bd 0 mk := fun _ => trivial
theorem bd_bk0 (m : Nat) : Bd 0 (bk m) := trivial
theorem bd_pure {j : Nat} (a : α) : Bd j (pure a : Pg α) := by show Bd j (ret a); simp [Bd]
theorem bd_gt (x : Int) (j : Nat) : Bd j (gt x) := by simp [gt, Bd]
theorem bd_pt (x v : Int) : Bd 1 (pt x v) := by simp [pt, Bd]
theorem bd_mk (j : Nat) : Bd j mk := by simp [mk, Bd]
theorem bd_bk (m j : Nat) : Bd j (bk m) := by simp [bk, Bd]
theorem bd_ite {c : Prop} [Decidable c] {x y : Pg α} {j : Nat} (hx : Bd j x) (hy : Bd j y) : Bd j (if c then x else y) := by split <;> assumption
theorem reads_puts' (s : Sp) (x : Int) : (s.reads x).2.puts = s.puts := by unfold Sp.reads; split; rfl; split <;> rfl
theorem get_puts (s : Sp) (x : Int) : (s.get x).2.puts = s.puts := by simp only [Sp.get]; split <;> exact reads_puts' s x
theorem put_len (s : Sp) (x v : Int) : (s.put x v).puts.length ≤ s.puts.length + 1 := by
  simp only [Sp.put]; split
  · simp
  · rw [reads_puts']; omega
theorem back_len (s : Sp) (m : Int) : (s.back m).puts.length ≤ s.puts.length := by
  simp only [Sp.back]; split
  · simp; omega
  · exact Nat.le_refl _
theorem run_len : ∀ (g : Pg α) (j : Nat) (s : Sp), Bd j g → (run g s).2.puts.length ≤ s.puts.length + j
  | ret _, _, _, _ => Nat.le_add_right _ _
  | get x k, j, s, h => by
    simp only [Bd] at h
    have := run_len (k (s.get x).1) j (s.get x).2 (h _)
    rw [get_puts] at this; exact this
  | put x v k, 0, s, h => by simp [Bd] at h
  | put x v k, j + 1, s, h => by
    simp only [Bd] at h
    have := run_len k j (s.put x v) h
    have h2 := put_len s x v
    simp only [run]; omega
  | mark k, j, s, h => by
    simp only [Bd] at h
    exact run_len (k s.puts.length) j s (h _)
  | back m k, j, s, h => by
    simp only [Bd] at h
    have := run_len k j (s.back m) h
    have h2 := back_len s m
    simp only [run]; omega
theorem fits_of : ∀ (g : Pg α) (j : Nat) (s : Sp), Bd j g → s.puts.length + j ≤ 1099511627776 → Fits g s
  | ret _, _, s, _, h => by simp only [Fits]; omega
  | get x k, j, s, hb, h => by
    simp only [Bd] at hb
    exact ⟨by omega, fits_of _ j _ (hb _) (by rw [get_puts]; exact h)⟩
  | put x v k, 0, s, hb, h => by simp [Bd] at hb
  | put x v k, j + 1, s, hb, h => by
    simp only [Bd] at hb
    have h2 := put_len s x v
    exact ⟨by omega, fits_of _ j _ hb (by omega)⟩
  | mark k, j, s, hb, h => by
    simp only [Bd] at hb
    exact ⟨by omega, fits_of _ j _ (hb _) h⟩
  | back m k, j, s, hb, h => by
    simp only [Bd] at hb
    have h2 := back_len s m
    exact ⟨by omega, fits_of _ j _ hb (by omega)⟩
/-- All that it may yield. -/
def All (φ : α → Prop) : Pg α → Prop
  | ret a => φ a
  | get _ k => ∀ v, All φ (k v)
  | put _ _ k => All φ k
  | mark k => ∀ m, All φ (k m)
  | back _ k => All φ k
theorem all_run {φ : α → Prop} : ∀ {g : Pg α} {s : Sp}, All φ g → φ (run g s).1
  | ret _, _, h => h
  | get x k, s, h => all_run (g := k (s.get x).1) (s := (s.get x).2) (h _)
  | put x v k, s, h => all_run (g := k) (s := s.put x v) h
  | mark k, s, h => all_run (g := k s.puts.length) (s := s) (h _)
  | back m k, s, h => all_run (g := k) (s := s.back m) h
theorem all_bind {φ : β → Prop} {ψ : α → Prop} {f : α → Pg β} (hf : ∀ a, ψ a → All φ (f a)) : ∀ {g : Pg α}, All ψ g → All φ (g >>= f)
  | ret a, h => hf a h
  | get _ _, h => fun v => all_bind hf (h v)
  | put _ _ k, h => all_bind (g := k) hf h
  | mark _, h => fun m => all_bind hf (h m)
  | back _ k, h => all_bind (g := k) hf h
theorem all_then {φ : β → Prop} {f : α → Pg β} (hf : ∀ a, All φ (f a)) : ∀ {g : Pg α}, All φ (g >>= f)
  | ret a => hf a
  | get _ _ => fun _ => all_then hf
  | put _ _ k => all_then (g := k) hf
  | mark _ => fun _ => all_then hf
  | back _ k => all_then (g := k) hf
theorem all_ite {φ : α → Prop} {c : Prop} [Decidable c] {x y : Pg α} (hx : c → All φ x) (hy : ¬ c → All φ y) : All φ (if c then x else y) := by split; exact hx ‹_›; exact hy ‹_›
theorem all_pure {φ : α → Prop} {a : α} (h : φ a) : All φ (pure a : Pg α) := h
end Pg
/-- What is still to be computed from here comes to `R`. -/
structure At {α : Type} (R : α × Sp) (g : Pg α) (s : Sp) : Prop where
  eq : R = Pg.run g s
  fits : Pg.Fits g s
theorem At.start {α : Type} {g : Pg α} {s : Sp} (h : Pg.Fits g s) : At (Pg.run g s) g s := ⟨rfl, h⟩
theorem At.step {α β : Type} {R : β × Sp} {g : Pg α} {f : α → Pg β} {s : Sp} (h : At R (g >>= f) s) : Pg.Fits g s ∧ At R (f (Pg.run g s).1) (Pg.run g s).2 :=
  ⟨(Pg.fits_bind f g s h.fits).1, h.eq.trans (Pg.run_bind f g s), (Pg.fits_bind f g s h.fits).2⟩
theorem At.to {α : Type} {R : α × Sp} {g g' : Pg α} {s : Sp} (h : At R g s) (e : g = g') : At R g' s := e ▸ h
theorem At.last {α : Type} {R : α × Sp} {g : Pg α} {s : Sp} (h : At R g s) : Pg.Fits g s ∧ At R (Pg.ret (Pg.run g s).1) (Pg.run g s).2 :=
  At.step (f := fun a => (pure a : Pg α)) (h.to (Pg.bind_pure g).symm)
theorem At.done {α : Type} {R : α × Sp} {a : α} {s : Sp} (h : At R (Pg.ret a) s) : R = (a, s) := h.eq
end Sim

/- Contracts by programs, and the rule of their calls. -/
namespace Go.Proofs.Ytpcnbaddkblbhaa
open Go.Vc Sim

abbrev FnG {α : Type} (w0 : World) (sh : Shared) (f : FuncId) (args : List Value) (p : Nat) (g : Pg α) (enc : α → Value) : Prop :=
  ∀ s, Pg.Fits g s → FnE PP w0 sh f args [SpaceA p s] (enc (Pg.run g s).1) [SpaceA p (Pg.run g s).2]

section
variable {w0 : World} {n : Nat} {sh shf : Shared} {Q : Exit → Env → List Deferred → List Asn → Prop} {k : List Item} {ρ : Env} {df : List Deferred} {Γ Γr : List Asn}
variable {ops : Array Oper} {l : List (Fl × Nat × Oper)} {i : Nat} {ty : TypeId} {pos : String} {aft : Array Edge} {dst : Option Tmp}
variable {f : FuncId} {args : List Value} {fo : Operand} {cargs : Array Operand} {ats : Array TypeId} {first cap : Array Value}
theorem reg_callG (is : List Nat) {α β : Type} {R : β × Sp} {g : Pg α} {kk : α → Pg β} {s : Sp} {p : Nat} {enc : α → Value} (hG : At R (g >>= kk) s) (spec : FnG w0 shf f args p g enc)
    (hfo : ev ρ fo = .func (.func f) first cap) (hargs : first.toList ++ cargs.toList.map (ev ρ) ++ cap.toList = args)
    (hp : pick is Γ = some ([SpaceA p s], Γr)) (hsh : ∀ p ∈ shf, p ∈ sh) (h : ∀ x s', At R (kk x) s' → Reg PP w0 n sh Q ops l k (ρ.setO dst (enc x)) df (SpaceA p s' :: Γr)) :
    Reg PP w0 n sh Q ops ((Fl.loud, i, ⟨dst, .call ⟨.value fo, cargs, ats⟩, ty, pos, aft, none⟩) :: l) k ρ df Γ :=
  zah is (spec s hG.step.1) hfo hargs hp hsh rfl (h _ _ hG.step.2)
theorem reg_callGP (is : List Nat) {α β : Type} {R : β × Sp} {g : Pg α} {kk : α → Pg β} {s : Sp} {p : Nat} {enc : α → Value} {φ : α → Prop} (hG : At R (g >>= kk) s) (hφ : Pg.All φ g) (spec : FnG w0 shf f args p g enc)
    (hfo : ev ρ fo = .func (.func f) first cap) (hargs : first.toList ++ cargs.toList.map (ev ρ) ++ cap.toList = args)
    (hp : pick is Γ = some ([SpaceA p s], Γr)) (hsh : ∀ p ∈ shf, p ∈ sh) (h : ∀ x s', φ x → At R (kk x) s' → Reg PP w0 n sh Q ops l k (ρ.setO dst (enc x)) df (SpaceA p s' :: Γr)) :
    Reg PP w0 n sh Q ops ((Fl.loud, i, ⟨dst, .call ⟨.value fo, cargs, ats⟩, ty, pos, aft, none⟩) :: l) k ρ df Γ :=
  zah is (spec s hG.step.1) hfo hargs hp hsh rfl (h _ _ (Pg.all_run hφ) hG.step.2)
end
theorem getG (w0 : World) (p : Nat) (x : Int) : FnG w0 [] 41 [spP p, .int .i64 x] p (Pg.gt x) (.int .i64) := fun s h => get_spec w0 p s x h.1
theorem putG (w0 : World) (p : Nat) (x v : Int) : FnG w0 [] 49 [spP p, .int .i64 x, .int .i64 v] p (Pg.pt x v) (fun _ => .tuple #[]) := fun s h => put_spec w0 p s x v h.1
theorem markG (w0 : World) (p : Nat) : FnG w0 [] 45 [spP p] p Pg.mk (fun m => .int .i64 m) := fun s _ => mark_spec w0 p s
theorem backG (w0 : World) (p m : Nat) : FnG w0 [] 47 [spP p, .int .i64 m] p (Pg.bk m) (fun _ => .tuple #[]) := fun s _ => back_spec w0 p s m
end Go.Proofs.Ytpcnbaddkblbhaa

/- The plain model of package pool. -/
namespace Sim
open Go Go.Vc

def Sm (s : Sp) (j : Nat) : Prop := s.puts.length + j ≤ 1099511627776
theorem Sm.mono {s : Sp} {j i : Nat} (h : Sm s j) (hi : i ≤ j) : Sm s i := by unfold Sm at *; omega
theorem reads_putsL (s : Sp) (x : Int) : (s.reads x).2.puts = s.puts := by unfold Sp.reads; split; rfl; split <;> rfl
theorem sm_get {s : Sp} {j : Nat} {a : Int} (h : Sm s j) : Sm (s.get a).2 j := by
  unfold Sm at *; simp only [Sp.get]; split <;> simpa [reads_putsL] using h
theorem sm_put {s : Sp} {j : Nat} {a v : Int} (h : Sm s (j + 1)) : Sm (s.put a v) j := by
  unfold Sm at *; simp only [Sp.put]; split
  · simp; omega
  · simp only [reads_putsL]; omega
theorem sm_back {s : Sp} {j : Nat} {m : Int} (h : Sm s j) : Sm (s.back m) j := by
  unfold Sm at *; simp only [Sp.back]; split
  · simp; omega
  · exact h

def w64 (x : Int) : Int := IntKind.i64.wrap x

structure Pl where
  root : Int
  frm : Int
  nodes : Int
def Pl.chk (P : Pl) : Int :=
  if P.root < 0 ∨ P.frm < 1 ∨ P.nodes < 0 ∨ 128 < P.nodes then 1 else if 4093 < P.root ∨ 4096 - 8 * P.nodes < P.frm then 1 else if 0 < P.nodes ∧ P.frm < P.root + 3 ∧ P.root < P.frm + 8 * P.nodes then 1 else 0
/-- A pool that is valid. -/
def Pl.Ok (P : Pl) : Prop := P.chk = 0 ∧ 0 ≤ P.root ∧ P.root ≤ 4093 ∧ 1 ≤ P.frm ∧ P.frm ≤ 4096 ∧ 0 ≤ P.nodes ∧ P.nodes ≤ 128
def Pl.node (P : Pl) (a : Int) : Bool := decide (P.frm ≤ a) && decide ((w64 (a - P.frm)).tmod 8 = 0) && decide (w64 ((w64 (a - P.frm)).tdiv 8) < P.nodes)
def Pl.idx (P : Pl) (a : Int) : Int := if P.node a then w64 ((w64 (a - P.frm)).tdiv 8) else 0
def Pl.add (P : Pl) (s : Sp) (c n : Int) : Sp := (s.get (P.root + c)).2.put (P.root + c) (w64 ((s.get (P.root + c)).1 + n))
def Pl.take (P : Pl) (s : Sp) : Int × Int × Sp :=
  if (s.get P.root).1 ≠ 0 then
    if P.node (s.get P.root).1 then
      ((s.get P.root).1, 0, P.add (((s.get P.root).2.get (s.get P.root).1).2.put P.root ((s.get P.root).2.get (s.get P.root).1).1) 2 (-1))
    else (0, 24, (s.get P.root).2)
  else
    if ((s.get P.root).2.get (P.root + 1)).1 < 0 ∨ P.nodes ≤ ((s.get P.root).2.get (P.root + 1)).1 then (0, 9, ((s.get P.root).2.get (P.root + 1)).2)
    else (P.frm + 8 * ((s.get P.root).2.get (P.root + 1)).1, 0, ((s.get P.root).2.get (P.root + 1)).2.put (P.root + 1) (((s.get P.root).2.get (P.root + 1)).1 + 1))
def Pl.give (P : Pl) (s : Sp) (a : Int) : Int × Sp :=
  if P.node a then (0, P.add (((s.get P.root).2.put a (s.get P.root).1).put P.root a) 2 1) else (1, s)
def Pl.left (P : Pl) (s : Sp) : Int × Sp :=
  (max (w64 (w64 ((s.get (P.root + 2)).1 + P.nodes) - ((s.get (P.root + 2)).2.get (P.root + 1)).1)) 0, ((s.get (P.root + 2)).2.get (P.root + 1)).2)
end Sim

/- The walks of package pool. -/
namespace Go.Proofs.Ytpcnbaddkblbhaa
open Go.Vc Sim
def poolV (P : Pl) : Value := .agg #[.int .i64 P.root, .int .i64 P.frm, .int .i64 P.nodes]
theorem getS (w0 : World) (p : Nat) (s : Sp) (x : Int) (h : Sm s 0) : FnE PP w0 [] 41 [spP p, .int .i64 x] [SpaceA p s] (.int .i64 (s.get x).1) [SpaceA p (s.get x).2] := get_spec w0 p s x h
theorem putS (w0 : World) (p : Nat) (s : Sp) (x v : Int) (h : Sm s 0) : FnE PP w0 [] 49 [spP p, .int .i64 x, .int .i64 v] [SpaceA p s] (.tuple #[]) [SpaceA p (s.put x v)] := put_spec w0 p s x v h

theorem check_spec (w0 : World) (P : Pl) (hP : P.Ok) : FnE PP w0 [] 92 [poolV P] [] (.int .i64 0) [] := by
  obtain ⟨h, _⟩ := hP
  refine fn_of_run en92 fn92 rfl rfl rfl ?_
  repeat (first | refine zck ?_ | refine zcl ?_ | refine zcm ?_ | refine zcn ?_)
  first | refine zcp (by kernel_rfl) ?_ | refine zcq PP_mixed (by kernel_rfl) (by kernel_rfl) ?_
  repeat' (refine zap rfl ?_; first | ((with_reducible refine zcv ?_); refine zan rfl ?_) | ((with_reducible refine zdg ?_); refine zaq (cs := [_, _, _]) rfl (fun nb => ?_)))
  all_goals refine zch ?_
  all_goals repeat (first | refine zck ?_ | refine zcl ?_ | refine zcm ?_ | refine zcn ?_)
  refine run_share [0] rfl ?_
  repeat' (first | refine zck ?_ | refine zcp (by kernel_rfl) ?_ | refine zcm ?_ | refine zcn ?_ | (refine zap rfl ?_; first | ((with_reducible refine zct ?_); first | refine zaj rfl ?_ | refine zak rfl ?_ | refine zam rfl rfl (fun _ => ?_) (fun _ => ?_)) | ((with_reducible refine zcu ?_); refine zan rfl ?_) | ((with_reducible refine zcv ?_); refine zan rfl ?_) | ((with_reducible refine zcw ?_); refine zaa 0 rfl rfl rfl ?_) | ((with_reducible refine zcy ?_); refine zao rfl ?_) | ((with_reducible refine zda ?_); first | refine zau rfl rfl (by omega) ?_ | refine zav rfl rfl (by omega) ?_ | refine zaw rfl rfl (by omega) ?_ | refine zbq rfl rfl ?_ | refine zbs rfl rfl ?_) | ((with_reducible refine zdc ?_); first | refine zbu rfl ?_ | refine zbv rfl ?_)) | refine zch ?_ | refine zci rfl ?_ | refine zcj rfl ?_ | refine run_cond rfl (fun _ => ?_) (fun _ => ?_))
  all_goals (refine ret_tmp1 rfl ?_; refine ⟨int_eq ?_, rfl⟩)
  all_goals (unfold Pl.chk at h; split at h <;> try split at h <;> try split at h)
  all_goals omega

theorem node_spec (w0 : World) (P : Pl) (hP : P.Ok) (a : Int) : FnE PP w0 [] 77 [poolV P, .int .i64 a] [] (.tuple #[.int .i64 (P.idx a), .bool (P.node a)]) [] := by
  refine fn_of_run en77 fn77 rfl rfl rfl ?_
  repeat (first | refine zck ?_ | refine zcl ?_ | refine zcm ?_ | refine zcn ?_)
  first | refine zcp (by kernel_rfl) ?_ | refine zcq PP_mixed (by kernel_rfl) (by kernel_rfl) ?_
  repeat' (refine zap rfl ?_; first | ((with_reducible refine zcv ?_); refine zan rfl ?_) | ((with_reducible refine zdg ?_); refine zaq (cs := [_, _, _]) rfl (fun nb => ?_)))
  all_goals refine zch ?_
  all_goals repeat (first | refine zck ?_ | refine zcl ?_ | refine zcm ?_ | refine zcn ?_)
  refine run_share [0] rfl ?_
  repeat' (first | refine zck ?_ | refine zcp (by kernel_rfl) ?_ | refine zcm ?_ | (refine zap rfl ?_; first | refine reg_sub rfl rfl ?_ | refine reg_rem rfl rfl (by decide) ?_ | refine reg_quo rfl rfl (by decide) ?_ | ((with_reducible refine zct ?_); first | refine zaj rfl ?_ | refine zak rfl ?_ | refine zam rfl rfl (fun _ => ?_) (fun _ => ?_)) | ((with_reducible refine zcu ?_); refine zan rfl ?_) | ((with_reducible refine zcv ?_); refine zan rfl ?_) | ((with_reducible refine zcw ?_); refine zaa 0 rfl rfl rfl ?_) | ((with_reducible refine zcx ?_); refine zah [] (check_spec w0 P hP) rfl rfl rfl sub_nil rfl ?_) | ((with_reducible refine zcy ?_); refine zao rfl ?_) | ((with_reducible refine zda ?_); first | refine zbp rfl rfl ?_ | refine zbq rfl rfl ?_ | refine zbt rfl rfl ?_) | ((with_reducible refine zdc ?_); first | refine zbu rfl ?_ | refine zbv rfl ?_)) | refine zch ?_ | refine zci rfl ?_ | refine run_cond rfl (fun _ => ?_) (fun _ => ?_))
  all_goals refine ret_tmp2 rfl ⟨?_, rfl⟩
  all_goals refine congrArg Value.tuple (?_ : #[Value.int .i64 _, .bool _] = #[Value.int .i64 _, .bool _])
  all_goals simp_all [Pl.idx, Pl.node, w64, ← Int.not_lt]

theorem add_spec (w0 : World) (p : Nat) (P : Pl) (hP : P.Ok) (s : Sp) (c m : Int) (hc : 0 ≤ c ∧ c ≤ 3) (hsm : Sm s 1) : FnE PP w0 [] 93 [poolV P, spP p, .int .i64 c, .int .i64 m] [SpaceA p s] (.tuple #[]) [SpaceA p (P.add s c m)] := by
  obtain ⟨_, h1, h2, h3, h4, h5, h6⟩ := id hP
  refine fn_of_run en93 fn93 rfl rfl rfl ?_
  repeat (first | refine zck ?_ | refine zcl ?_ | refine zcm ?_ | refine zcn ?_)
  first | refine zcp (by kernel_rfl) ?_ | refine zcq PP_mixed (by kernel_rfl) (by kernel_rfl) ?_
  repeat' (refine zap rfl ?_; first | ((with_reducible refine zdg ?_); refine zaq (cs := [_, _, _]) rfl (fun nb => ?_)))
  all_goals refine zch ?_
  all_goals repeat (first | refine zck ?_ | refine zcl ?_ | refine zcm ?_ | refine zcn ?_)
  refine run_share [1] rfl ?_
  repeat' (first | refine zcq PP_mixed (by kernel_rfl) (by kernel_rfl) ?_ | (refine zap rfl ?_; first | refine reg_add (t := 2) rfl rfl ?_ | ((with_reducible refine zcu ?_); refine zan rfl ?_) | ((with_reducible refine zcw ?_); refine zaa 0 rfl rfl rfl ?_) | ((with_reducible refine zcx ?_); first | refine zah [0] (getS w0 p _ _ (by first | exact hsm.mono (by decide) | (repeat (first | refine sm_get ?_ | refine sm_put ?_)); exact hsm.mono (by decide))) rfl rfl rfl sub_nil rfl ?_ | refine zah [0] (putS w0 p _ _ _ (by first | exact hsm.mono (by decide) | (repeat (first | refine sm_get ?_ | refine sm_put ?_)); exact hsm.mono (by decide))) rfl rfl rfl sub_nil rfl ?_) | ((with_reducible refine zcy ?_); refine zao rfl ?_) | ((with_reducible refine zda ?_); refine zau rfl rfl (by omega) ?_)) | refine zch ?_)
  refine end_tmp0 rfl ⟨rfl, rfl⟩
end Go.Proofs.Ytpcnbaddkblbhaa

/- The pool as programs. -/
namespace Sim
open Go Go.Vc
theorem w64_in {x : Int} (h0 : -9223372036854775808 ≤ x) (h1 : x ≤ 9223372036854775807) : w64 x = x := wrap64_id h0 h1
def Pl.addP (P : Pl) (c n : Int) : Pg Unit := do
  let v ← Pg.gt (P.root + c)
  let _ ← Pg.pt (P.root + c) (w64 (v + n))
  pure ()
def Pl.takeP (P : Pl) : Pg (Int × Int) := do
  let first ← Pg.gt P.root
  if first ≠ 0 then
    if P.node first = true then do
      let x ← Pg.gt first
      let _ ← Pg.pt P.root x
      let _ ← P.addP 2 (-1)
      pure (first, 0)
    else pure (0, 24)
  else do
    let n ← Pg.gt (P.root + 1)
    if n < 0 ∨ P.nodes ≤ n then pure (0, 9) else do
      let _ ← Pg.pt (P.root + 1) (n + 1)
      pure (P.frm + 8 * n, 0)
def Pl.giveP (P : Pl) (a : Int) : Pg Int :=
  if P.node a = true then do
    let f ← Pg.gt P.root
    let _ ← Pg.pt a f
    let _ ← Pg.pt P.root a
    let _ ← P.addP 2 1
    pure 0
  else pure 1
def Pl.leftP (P : Pl) : Pg Int := do
  let f ← Pg.gt (P.root + 2)
  let h ← Pg.gt (P.root + 1)
  pure (max (w64 (w64 (f + P.nodes) - h)) 0)
def encI2 (r : Int × Int) : Value := .tuple #[.int .i64 r.1, .int .i64 r.2]
def encU (_ : Unit) : Value := .tuple #[]
theorem bd_addP (P : Pl) (c n : Int) : Pg.Bd 1 (P.addP c n) := fun _ => trivial
theorem bd_takeP (P : Pl) : Pg.Bd 2 P.takeP := by
  intro v
  dsimp only
  refine Pg.bd_ite (Pg.bd_ite (fun _ => fun _ => trivial) trivial) (fun _ => Pg.bd_ite trivial trivial)
theorem bd_giveP (P : Pl) (a : Int) : Pg.Bd 3 (P.giveP a) := Pg.bd_ite (fun _ => fun _ => trivial) trivial
theorem bd_leftP (P : Pl) : Pg.Bd 0 P.leftP := fun _ => fun _ => trivial
end Sim
namespace Go.Proofs.Ytpcnbaddkblbhaa
open Go.Vc Sim
theorem addG (w0 : World) (p : Nat) (P : Pl) (hP : P.Ok) (c m : Int) (hc : 0 ≤ c ∧ c ≤ 3) : FnG w0 [] 93 [poolV P, spP p, .int .i64 c, .int .i64 m] p (P.addP c m) encU := by
  obtain ⟨_, h1, h2, h3, h4, h5, h6⟩ := id hP
  intro s hF; have hG := At.start hF; generalize Pg.run _ s = R at hG ⊢
  refine fn_of_run en93 fn93 rfl rfl rfl ?_
  repeat (first | refine zck ?_ | refine zcl ?_ | refine zcm ?_ | refine zcn ?_)
  first | refine zcp (by kernel_rfl) ?_ | refine zcq PP_mixed (by kernel_rfl) (by kernel_rfl) ?_
  repeat' (refine zap rfl ?_; first | ((with_reducible refine zdg ?_); refine zaq (cs := [_, _, _]) rfl (fun nb => ?_)))
  all_goals refine zch ?_
  all_goals repeat (first | refine zck ?_ | refine zcl ?_ | refine zcm ?_ | refine zcn ?_)
  refine run_share [1] rfl ?_
  repeat' (first | refine zcq PP_mixed (by kernel_rfl) (by kernel_rfl) ?_ | (refine zap rfl ?_; first | refine reg_add (t := 2) rfl rfl ?_ | ((with_reducible refine zcu ?_); refine zan rfl ?_) | ((with_reducible refine zcw ?_); refine zaa 0 rfl rfl rfl ?_) | ((with_reducible refine zcx ?_); first | refine reg_callG [0] hG (getG w0 p _) rfl rfl rfl sub_nil (fun x s hG => ?_) | refine reg_callG [0] hG (putG w0 p _ _) rfl rfl rfl sub_nil (fun x s hG => ?_)) | ((with_reducible refine zcy ?_); refine zao rfl ?_) | ((with_reducible refine zda ?_); refine zau rfl rfl (by omega) ?_)) | refine zch ?_)
  rw [hG.done]
  refine end_tmp0 rfl ⟨rfl, rfl⟩
end Go.Proofs.Ytpcnbaddkblbhaa

/- The pool's walks against programs. -/
namespace Go.Proofs.Ytpcnbaddkblbhaa
open Go.Vc Sim
theorem takeG (w0 : World) (p : Nat) (P : Pl) (hP : P.Ok) : FnG w0 [] 78 [poolV P, spP p] p P.takeP encI2 := by
  obtain ⟨_, h1, h2, h3, h4, h5, h6⟩ := id hP
  intro s hF; have hG := At.start hF; generalize Pg.run _ s = R at hG ⊢
  refine fn_of_run en78 fn78 rfl rfl rfl ?_
  repeat (first | refine zck ?_ | refine zcl ?_ | refine zcm ?_ | refine zcn ?_)
  first | refine zcp (by kernel_rfl) ?_ | refine zcq PP_mixed (by kernel_rfl) (by kernel_rfl) ?_
  repeat' (refine zap rfl ?_; first | ((with_reducible refine zcv ?_); refine zan rfl ?_) | ((with_reducible refine zdg ?_); refine zaq (cs := [_, _, _]) rfl (fun nb => ?_)))
  all_goals refine zch ?_
  all_goals repeat (first | refine zck ?_ | refine zcl ?_ | refine zcm ?_ | refine zcn ?_)
  refine run_share [1] rfl ?_
  repeat' (first | refine zck ?_ | refine zcp (by kernel_rfl) ?_ | refine zcm ?_ | (refine zap rfl ?_; first | ((with_reducible refine zcu ?_); refine zan rfl ?_) | ((with_reducible refine zcv ?_); refine zan rfl ?_) | ((with_reducible refine zcw ?_); refine zaa 0 rfl rfl rfl ?_) | ((with_reducible refine zcx ?_); first | refine zah [] (check_spec w0 P hP) rfl rfl rfl sub_nil rfl ?_ | refine reg_callG [0] hG (getG w0 p _) rfl rfl rfl sub_nil (fun x s hG => ?_)) | ((with_reducible refine zcy ?_); refine zao rfl ?_) | ((with_reducible refine zda ?_); refine zbp rfl rfl ?_)) | refine zch ?_ | refine zcj rfl ?_)
  refine run_cond rfl (fun hE => ?_) (fun hE => ?_)
  · simp only [if_pos hE] at hG
    repeat' (first | refine zck ?_ | refine zcp (by kernel_rfl) ?_ | (refine zap rfl ?_; first | ((with_reducible refine zcu ?_); refine zan rfl ?_) | ((with_reducible refine zcv ?_); refine zan rfl ?_) | ((with_reducible refine zcw ?_); refine zaa 0 rfl rfl rfl ?_) | ((with_reducible refine zcx ?_); refine zah [] (node_spec w0 P hP _) rfl rfl rfl sub_nil rfl ?_) | ((with_reducible refine zcz ?_); refine zan rfl ?_) | ((with_reducible refine zdb ?_); refine zbx rfl ?_)) | refine zch ?_)
    refine run_condV rfl (fun hN => ?_) (fun hN => ?_)
    · have hN : P.node x = false := by simpa using hN
      simp only [hN, Bool.false_eq_true, if_false] at hG
      repeat' (first | refine zck ?_ | refine zcp (by kernel_rfl) ?_ | (refine zap rfl ?_; first | ((with_reducible refine zcv ?_); refine zan rfl ?_)) | refine zch ?_)
      rw [hG.done]
      exact ret_tmp2 rfl ⟨rfl, rfl⟩
    · have hN : P.node x = true := by simpa using hN
      simp only [hN, if_true] at hG
      repeat' (first | refine zck ?_ | refine zcp (by kernel_rfl) ?_ | refine zcq PP_mixed (by kernel_rfl) (by kernel_rfl) ?_ | refine zcm ?_ | (refine zap rfl ?_; first | ((with_reducible refine zcu ?_); refine zan rfl ?_) | ((with_reducible refine zcv ?_); refine zan rfl ?_) | ((with_reducible refine zcw ?_); refine zaa 0 rfl rfl rfl ?_) | ((with_reducible refine zcx ?_); first | refine reg_callG [0] hG (getG w0 p _) rfl rfl rfl sub_nil (fun x s hG => ?_) | refine reg_callG [0] hG (putG w0 p _ _) rfl rfl rfl sub_nil (fun x s hG => ?_) | refine reg_callG [0] hG (addG w0 p P hP _ _ (by decide)) rfl rfl rfl sub_nil (fun x s hG => ?_)) | ((with_reducible refine zcy ?_); refine zao rfl ?_)) | refine zch ?_)
      rw [hG.done]
      exact ret_tmp2 rfl ⟨rfl, rfl⟩
  · simp only [if_neg hE] at hG
    repeat' (first | refine zck ?_ | refine zcp (by kernel_rfl) ?_ | refine zcm ?_ | (refine zap rfl ?_; first | ((with_reducible refine zct ?_); first | refine zaj rfl ?_ | refine zak rfl ?_ | refine zam rfl rfl (fun _ => ?_) (fun _ => ?_)) | ((with_reducible refine zcu ?_); refine zan rfl ?_) | ((with_reducible refine zcv ?_); refine zan rfl ?_) | ((with_reducible refine zcw ?_); refine zaa 0 rfl rfl rfl ?_) | ((with_reducible refine zcx ?_); refine reg_callG [0] hG (getG w0 p _) rfl rfl rfl sub_nil (fun x s hG => ?_)) | ((with_reducible refine zcy ?_); refine zao rfl ?_) | ((with_reducible refine zda ?_); first | refine zau rfl rfl (by omega) ?_ | refine zbq rfl rfl ?_ | refine zbt rfl rfl ?_) | ((with_reducible refine zdc ?_); first | refine zbu rfl ?_ | refine zbv rfl ?_)) | refine zch ?_ | refine zci rfl ?_ | refine run_cond rfl (fun _ => ?_) (fun _ => ?_))
    all_goals first | rw [if_pos (by omega)] at hG | rw [if_neg (by omega)] at hG
    · rw [hG.done]
      exact ret_tmp2 rfl ⟨rfl, rfl⟩
    · rw [hG.done]
      exact ret_tmp2 rfl ⟨rfl, rfl⟩
    · repeat' (first | refine zck ?_ | refine zcp (by kernel_rfl) ?_ | (refine zap rfl ?_; first | ((with_reducible refine zcu ?_); refine zan rfl ?_) | ((with_reducible refine zcv ?_); refine zan rfl ?_) | ((with_reducible refine zcw ?_); refine zaa 0 rfl rfl rfl ?_) | ((with_reducible refine zcx ?_); refine reg_callG [0] hG (putG w0 p _ _) rfl rfl rfl sub_nil (fun x s hG => ?_)) | ((with_reducible refine zcy ?_); refine zao rfl ?_) | ((with_reducible refine zda ?_); first | refine zau rfl rfl (by omega) ?_ | refine zaw rfl rfl (by omega) ?_)) | refine zch ?_)
      rw [hG.done]
      exact ret_tmp2 rfl ⟨rfl, rfl⟩
end Go.Proofs.Ytpcnbaddkblbhaa

/- The forest as programs. -/
namespace Sim
open Go Go.Vc
structure Fo where
  pool : Pl
  root : Int
def Fo.Ok (F : Fo) : Prop := F.pool.Ok ∧ 0 ≤ F.root ∧ F.root ≤ 4096
namespace Fo
variable (F : Fo)
def nodeN (n : Int) : Int := if n ≤ 0 ∨ 4096 < n then 0 else n
def nodeB (n : Int) : Bool := if n ≤ 0 ∨ 4096 < n then false else F.pool.node n
def cell (x : Int) : Pg (Int × Bool) := do
  let t ← Pg.gt (F.root + 3 + (x - 1) / 2 / 8)
  pure (nodeN t + (x - 1) / 2 % 8, F.nodeB t)
def place (x : Int) : Pg (Int × Bool) := do
  let c ← F.cell x
  if c.2 = true then do
    let v ← Pg.gt c.1
    pure (nodeN v + (x - 1) % 2 * 4, F.nodeB v)
  else pure (0, false)
def many : Pg (Int × Bool) := do
  let n ← Pg.gt F.root
  pure (n, decide (0 ≤ n) && decide (n ≤ 64))
def check (x : Int) : Pg Int :=
  if x < 1 then pure 10 else do
    let n ← Pg.gt F.root
    if n < x then pure 10 else pure 0
def take : Pg (Int × Int) := do
  let t ← F.pool.takeP
  if t.2 ≠ 0 then pure (0, t.2) else do
    let v ← Pg.gt (F.root + 7)
    let _ ← Pg.pt (F.root + 7) (w64 (v + 1))
    pure (t.1, 0)
/-- The node of a new element. -/
def roomN (x : Int) : Pg Int := do
  let c ← F.cell x
  if c.2 = true then do
    let t ← F.take
    if t.2 ≠ 0 then pure t.2 else do
      let _ ← Pg.pt c.1 t.1
      pure 0
  else pure 24
def room (x : Int) : Pg Int :=
  if (x - 1) % 2 ≠ 0 then pure 0 else
  if (x - 1) / 2 % 8 = 0 then do
    let t ← F.take
    if t.2 ≠ 0 then pure t.2 else do
      let _ ← Pg.pt (F.root + 3 + (x - 1) / 2 / 8) t.1
      F.roomN x
  else F.roomN x
/-- Make, from the mark on. -/
def makeIn (x : Int) : Pg (Int × Int) := do
  let e ← F.room x
  if e ≠ 0 then pure (0, e) else do
    let c ← F.place x
    if c.2 = true then do
      let _ ← Pg.pt c.1 0
      let _ ← Pg.pt (c.1 + 1) 1
      let _ ← Pg.pt (c.1 + 2) 0
      let _ ← Pg.pt F.root x
      let v ← Pg.gt (F.root + 1)
      let _ ← Pg.pt (F.root + 1) (w64 (v + 1))
      pure (x, 0)
    else pure (0, 24)
/-- What the deferred function does. -/
def after (m : Nat) (r : Int × Int) : Pg (Int × Int) := if r.2 ≠ 0 then do let _ ← Pg.bk m; pure (0, r.2) else pure r
def make : Pg (Int × Int) := do
  let n ← F.many
  if n.2 = true then
    if n.1 = 64 then pure (0, 9) else do
      let m ← Pg.mk
      let r ← F.makeIn (n.1 + 1)
      after m r
  else pure (0, 24)
def climb (n : Int) : Nat → Int → Pg (Int × Int)
  | 0, _ => pure (0, 24)
  | k + 1, x => do
    let c ← F.place x
    if c.2 = true then do
      let up ← Pg.gt c.1
      if up = 0 then pure (x, 0) else
      if up < 1 ∨ n < up then pure (0, 24) else climb n k up
    else pure (0, 24)
def find (x : Int) : Pg (Int × Int) := do
  let e ← F.check x
  if e ≠ 0 then pure (0, e) else do
    let n ← F.many
    if n.2 = true then F.climb n.1 65 x else pure (0, 24)
def both (x y : Int) : Pg ((Int × Int) × Int) := do
  let e ← F.check x
  if e ≠ 0 then pure ((0, 0), e) else do
    let e ← F.check y
    if e ≠ 0 then pure ((0, 0), e) else do
      let a ← F.find x
      if a.2 ≠ 0 then pure ((0, 0), a.2) else do
        let b ← F.find y
        if b.2 ≠ 0 then pure ((0, 0), b.2) else pure ((a.1, b.1), 0)
def add (a n : Int) : Pg Unit := do
  let v ← Pg.gt a
  let _ ← Pg.pt a (w64 (v + n))
  pure ()
/-- The element `x` at `a` is put below the element `y` at `b`. -/
def hang (x a y b sz : Int) : Pg Unit := do
  let _ ← Pg.pt a y
  let v ← Pg.gt (F.root + 2)
  let _ ← Pg.pt (a + 2) v
  let _ ← Pg.pt (b + 1) sz
  let _ ← Pg.pt (F.root + 2) x
  let _ ← add (F.root + 1) (-1)
  pure ()
def join (x y : Int) : Pg (Bool × Int) := do
  let a ← F.place x
  if a.2 = true then do
    let v ← Pg.gt (a.1 + 1)
    let b ← F.place y
    if b.2 = true then do
      let w ← Pg.gt (b.1 + 1)
      if w < v ∨ (w = v ∧ x < y) then do
        let _ ← F.hang y b.1 x a.1 (w64 (v + w))
        pure (true, 0)
      else do
        let _ ← F.hang x a.1 y b.1 (w64 (v + w))
        pure (true, 0)
    else pure (false, 24)
  else pure (false, 24)
def union (x y : Int) : Pg (Bool × Int) := do
  let r ← F.both x y
  if r.2 ≠ 0 ∨ r.1.1 = r.1.2 then pure (false, r.2) else F.join r.1.1 r.1.2
def undo : Pg (Bool × Int) := do
  let last ← Pg.gt (F.root + 2)
  if last = 0 then pure (false, 0) else do
    let n ← F.many
    if n.2 = true ∧ 1 ≤ last ∧ last ≤ n.1 then do
      let a ← F.place last
      if a.2 = true then do
        let up ← Pg.gt a.1
        if up < 1 ∨ n.1 < up then pure (false, 24) else do
          let b ← F.place up
          if b.2 = true then do
            let v ← Pg.gt (a.1 + 1)
            let _ ← add (b.1 + 1) (w64 (0 - v))
            let _ ← Pg.pt a.1 0
            let u ← Pg.gt (a.1 + 2)
            let _ ← Pg.pt (F.root + 2) u
            let _ ← add (F.root + 1) 1
            pure (true, 0)
          else pure (false, 24)
      else pure (false, 24)
    else pure (false, 24)
def same (x y : Int) : Pg (Bool × Int) := do
  let r ← F.both x y
  pure (decide (r.2 = 0) && decide (r.1.1 = r.1.2), r.2)
def sizeOf (x : Int) : Pg (Int × Int) := do
  let r ← F.find x
  if r.2 ≠ 0 then pure (0, r.2) else do
    let a ← F.place r.1
    if a.2 = true then do
      let v ← Pg.gt (a.1 + 1)
      pure (v, 0)
    else pure (0, 24)
def sets : Pg Int := Pg.gt (F.root + 1)
end Fo
def encIB (r : Int × Bool) : Value := .tuple #[.int .i64 r.1, .bool r.2]
def encBI (r : Bool × Int) : Value := .tuple #[.bool r.1, .int .i64 r.2]
def encPI (r : (Int × Int) × Int) : Value := .tuple #[.agg #[.int .i64 r.1.1, .int .i64 r.1.2], .int .i64 r.2]
namespace Fo
open Pg
variable (F : Fo)
theorem bd_cell (x : Int) : Bd 0 (F.cell x) := by unfold Fo.cell; repeat' first | exact bd_pure _ | with_reducible refine bd_ite ?_ ?_ | with_reducible refine bd_then (bd_gt0 _) ?_ (by decide) | with_reducible refine bd_then (bd_pt _ _) ?_ (by decide) | with_reducible refine bd_then bd_mk0 ?_ (by decide) | with_reducible refine bd_then (bd_bk0 _) ?_ (by decide) | intro _
theorem bd_place (x : Int) : Bd 0 (F.place x) := by unfold Fo.place; repeat' first | with_reducible refine bd_then (F.bd_cell _) ?_ (by decide) | exact bd_pure _ | with_reducible refine bd_ite ?_ ?_ | with_reducible refine bd_then (bd_gt0 _) ?_ (by decide) | with_reducible refine bd_then (bd_pt _ _) ?_ (by decide) | with_reducible refine bd_then bd_mk0 ?_ (by decide) | with_reducible refine bd_then (bd_bk0 _) ?_ (by decide) | intro _
theorem bd_many : Bd 0 F.many := by unfold Fo.many; repeat' first | exact bd_pure _ | with_reducible refine bd_ite ?_ ?_ | with_reducible refine bd_then (bd_gt0 _) ?_ (by decide) | with_reducible refine bd_then (bd_pt _ _) ?_ (by decide) | with_reducible refine bd_then bd_mk0 ?_ (by decide) | with_reducible refine bd_then (bd_bk0 _) ?_ (by decide) | intro _
theorem bd_check (x : Int) : Bd 0 (F.check x) := by unfold Fo.check; repeat' first | exact bd_pure _ | with_reducible refine bd_ite ?_ ?_ | with_reducible refine bd_then (bd_gt0 _) ?_ (by decide) | with_reducible refine bd_then (bd_pt _ _) ?_ (by decide) | with_reducible refine bd_then bd_mk0 ?_ (by decide) | with_reducible refine bd_then (bd_bk0 _) ?_ (by decide) | intro _
theorem bd_take : Bd 3 F.take := by unfold Fo.take; repeat' first | with_reducible refine bd_then (bd_takeP _) ?_ (by decide) | exact bd_pure _ | with_reducible refine bd_ite ?_ ?_ | with_reducible refine bd_then (bd_gt0 _) ?_ (by decide) | with_reducible refine bd_then (bd_pt _ _) ?_ (by decide) | with_reducible refine bd_then bd_mk0 ?_ (by decide) | with_reducible refine bd_then (bd_bk0 _) ?_ (by decide) | intro _
theorem bd_roomN (x : Int) : Bd 4 (F.roomN x) := by unfold Fo.roomN; repeat' first | with_reducible refine bd_then (F.bd_cell _) ?_ (by decide) | with_reducible refine bd_then F.bd_take ?_ (by decide) | exact bd_pure _ | with_reducible refine bd_ite ?_ ?_ | with_reducible refine bd_then (bd_gt0 _) ?_ (by decide) | with_reducible refine bd_then (bd_pt _ _) ?_ (by decide) | with_reducible refine bd_then bd_mk0 ?_ (by decide) | with_reducible refine bd_then (bd_bk0 _) ?_ (by decide) | intro _
theorem bd_room (x : Int) : Bd 8 (F.room x) := by unfold Fo.room; repeat' first | with_reducible refine bd_then F.bd_take ?_ (by decide) | exact (F.bd_roomN x).mono (by decide) | exact bd_pure _ | with_reducible refine bd_ite ?_ ?_ | with_reducible refine bd_then (bd_gt0 _) ?_ (by decide) | with_reducible refine bd_then (bd_pt _ _) ?_ (by decide) | with_reducible refine bd_then bd_mk0 ?_ (by decide) | with_reducible refine bd_then (bd_bk0 _) ?_ (by decide) | intro _
theorem bd_makeIn (x : Int) : Bd 13 (F.makeIn x) := by unfold Fo.makeIn; repeat' first | with_reducible refine bd_then (F.bd_room _) ?_ (by decide) | with_reducible refine bd_then (F.bd_place _) ?_ (by decide) | exact bd_pure _ | with_reducible refine bd_ite ?_ ?_ | with_reducible refine bd_then (bd_gt0 _) ?_ (by decide) | with_reducible refine bd_then (bd_pt _ _) ?_ (by decide) | with_reducible refine bd_then bd_mk0 ?_ (by decide) | with_reducible refine bd_then (bd_bk0 _) ?_ (by decide) | intro _
theorem bd_after (m : Nat) (r : Int × Int) : Bd 0 (after m r) := by unfold Fo.after; repeat' first | exact bd_pure _ | with_reducible refine bd_ite ?_ ?_ | with_reducible refine bd_then (bd_gt0 _) ?_ (by decide) | with_reducible refine bd_then (bd_pt _ _) ?_ (by decide) | with_reducible refine bd_then bd_mk0 ?_ (by decide) | with_reducible refine bd_then (bd_bk0 _) ?_ (by decide) | intro _
theorem bd_make : Bd 13 F.make := by unfold Fo.make; repeat' first | with_reducible refine bd_then (F.bd_makeIn _) ?_ (by decide) | with_reducible refine bd_then F.bd_many ?_ (by decide) | exact (bd_after _ _).mono (by decide) | exact bd_pure _ | with_reducible refine bd_ite ?_ ?_ | with_reducible refine bd_then (bd_gt0 _) ?_ (by decide) | with_reducible refine bd_then (bd_pt _ _) ?_ (by decide) | with_reducible refine bd_then bd_mk0 ?_ (by decide) | with_reducible refine bd_then (bd_bk0 _) ?_ (by decide) | intro _
theorem bd_climb (n : Int) : ∀ (k : Nat) (x : Int), Bd 0 (F.climb n k x)
  | 0, _ => trivial
  | k + 1, x => by unfold Fo.climb; repeat' first | with_reducible refine bd_then (F.bd_place _) ?_ (by decide) | exact bd_climb n k _ | exact bd_pure _ | with_reducible refine bd_ite ?_ ?_ | with_reducible refine bd_then (bd_gt0 _) ?_ (by decide) | with_reducible refine bd_then (bd_pt _ _) ?_ (by decide) | with_reducible refine bd_then bd_mk0 ?_ (by decide) | with_reducible refine bd_then (bd_bk0 _) ?_ (by decide) | intro _
theorem bd_find (x : Int) : Bd 0 (F.find x) := by unfold Fo.find; repeat' first | with_reducible refine bd_then (F.bd_check _) ?_ (by decide) | with_reducible refine bd_then F.bd_many ?_ (by decide) | exact F.bd_climb _ _ _ | exact bd_pure _ | with_reducible refine bd_ite ?_ ?_ | with_reducible refine bd_then (bd_gt0 _) ?_ (by decide) | with_reducible refine bd_then (bd_pt _ _) ?_ (by decide) | with_reducible refine bd_then bd_mk0 ?_ (by decide) | with_reducible refine bd_then (bd_bk0 _) ?_ (by decide) | intro _
theorem bd_both (x y : Int) : Bd 0 (F.both x y) := by unfold Fo.both; repeat' first | with_reducible refine bd_then (F.bd_check _) ?_ (by decide) | with_reducible refine bd_then (F.bd_find _) ?_ (by decide) | exact bd_pure _ | with_reducible refine bd_ite ?_ ?_ | with_reducible refine bd_then (bd_gt0 _) ?_ (by decide) | with_reducible refine bd_then (bd_pt _ _) ?_ (by decide) | with_reducible refine bd_then bd_mk0 ?_ (by decide) | with_reducible refine bd_then (bd_bk0 _) ?_ (by decide) | intro _
theorem bd_add (a n : Int) : Bd 1 (add a n) := by unfold Fo.add; repeat' first | exact bd_pure _ | with_reducible refine bd_ite ?_ ?_ | with_reducible refine bd_then (bd_gt0 _) ?_ (by decide) | with_reducible refine bd_then (bd_pt _ _) ?_ (by decide) | with_reducible refine bd_then bd_mk0 ?_ (by decide) | with_reducible refine bd_then (bd_bk0 _) ?_ (by decide) | intro _
theorem bd_hang (x a y b sz : Int) : Bd 5 (F.hang x a y b sz) := by unfold Fo.hang; repeat' first | with_reducible refine bd_then (bd_add _ _) ?_ (by decide) | exact bd_pure _ | with_reducible refine bd_ite ?_ ?_ | with_reducible refine bd_then (bd_gt0 _) ?_ (by decide) | with_reducible refine bd_then (bd_pt _ _) ?_ (by decide) | with_reducible refine bd_then bd_mk0 ?_ (by decide) | with_reducible refine bd_then (bd_bk0 _) ?_ (by decide) | intro _
theorem bd_join (x y : Int) : Bd 5 (F.join x y) := by unfold Fo.join; repeat' first | with_reducible refine bd_then (F.bd_place _) ?_ (by decide) | with_reducible refine bd_then (F.bd_hang _ _ _ _ _) ?_ (by decide) | exact bd_pure _ | with_reducible refine bd_ite ?_ ?_ | with_reducible refine bd_then (bd_gt0 _) ?_ (by decide) | with_reducible refine bd_then (bd_pt _ _) ?_ (by decide) | with_reducible refine bd_then bd_mk0 ?_ (by decide) | with_reducible refine bd_then (bd_bk0 _) ?_ (by decide) | intro _
theorem bd_union (x y : Int) : Bd 5 (F.union x y) := by unfold Fo.union; repeat' first | with_reducible refine bd_then (F.bd_both _ _) ?_ (by decide) | exact F.bd_join _ _ | exact bd_pure _ | with_reducible refine bd_ite ?_ ?_ | with_reducible refine bd_then (bd_gt0 _) ?_ (by decide) | with_reducible refine bd_then (bd_pt _ _) ?_ (by decide) | with_reducible refine bd_then bd_mk0 ?_ (by decide) | with_reducible refine bd_then (bd_bk0 _) ?_ (by decide) | intro _
theorem bd_undo : Bd 4 F.undo := by unfold Fo.undo; repeat' first | with_reducible refine bd_then (F.bd_place _) ?_ (by decide) | with_reducible refine bd_then F.bd_many ?_ (by decide) | with_reducible refine bd_then (bd_add _ _) ?_ (by decide) | exact bd_pure _ | with_reducible refine bd_ite ?_ ?_ | with_reducible refine bd_then (bd_gt0 _) ?_ (by decide) | with_reducible refine bd_then (bd_pt _ _) ?_ (by decide) | with_reducible refine bd_then bd_mk0 ?_ (by decide) | with_reducible refine bd_then (bd_bk0 _) ?_ (by decide) | intro _
theorem bd_same (x y : Int) : Bd 0 (F.same x y) := by unfold Fo.same; repeat' first | with_reducible refine bd_then (F.bd_both _ _) ?_ (by decide) | exact bd_pure _ | with_reducible refine bd_ite ?_ ?_ | with_reducible refine bd_then (bd_gt0 _) ?_ (by decide) | with_reducible refine bd_then (bd_pt _ _) ?_ (by decide) | with_reducible refine bd_then bd_mk0 ?_ (by decide) | with_reducible refine bd_then (bd_bk0 _) ?_ (by decide) | intro _
theorem bd_sizeOf (x : Int) : Bd 0 (F.sizeOf x) := by unfold Fo.sizeOf; repeat' first | with_reducible refine bd_then (F.bd_find _) ?_ (by decide) | with_reducible refine bd_then (F.bd_place _) ?_ (by decide) | exact bd_pure _ | with_reducible refine bd_ite ?_ ?_ | with_reducible refine bd_then (bd_gt0 _) ?_ (by decide) | with_reducible refine bd_then (bd_pt _ _) ?_ (by decide) | with_reducible refine bd_then bd_mk0 ?_ (by decide) | with_reducible refine bd_then (bd_bk0 _) ?_ (by decide) | intro _
end Fo
end Sim

/- The forest as a list of joins: its latest is the head; (b, a) hangs b below a. -/
namespace Sim
open Go Go.Vc
abbrev Jn := List (Int × Int)
def par : Jn → Int → Int
  | [], _ => 0
  | (b, a) :: J, x => if x = b then a else par J x
def sz : Jn → Int → Int
  | [], _ => 1
  | (b, a) :: J, x => if x = a then sz J a + sz J b else sz J x
def rep : Jn → Int → Int
  | [], x => x
  | (b, a) :: J, x => if rep J x = b then a else rep J x
def dep : Jn → Int → Nat
  | [], _ => 0
  | (b, _) :: J, x => if rep J x = b then dep J x + 1 else dep J x
def Vd (n : Int) : Jn → Prop
  | [] => True
  | (b, a) :: J => Vd n J ∧ par J a = 0 ∧ par J b = 0 ∧ a ≠ b ∧ (1 ≤ a ∧ a ≤ n) ∧ (1 ≤ b ∧ b ≤ n) ∧ (sz J b < sz J a ∨ (sz J b = sz J a ∧ a < b))
theorem Vd.mono {n n' : Int} (h : n ≤ n') : ∀ {J : Jn}, Vd n J → Vd n' J
  | [], _ => trivial
  | (_, _) :: _, ⟨h1, h2, h3, h4, h5, h6, h7⟩ => ⟨Vd.mono h h1, h2, h3, h4, ⟨h5.1, by omega⟩, ⟨h6.1, by omega⟩, h7⟩
variable {n : Int}
theorem rep_root : ∀ {J : Jn}, Vd n J → ∀ x, par J (rep J x) = 0
  | [], _, _ => rfl
  | (b, a) :: J, ⟨h1, h2, h3, h4, _⟩, x => by
    have ih := rep_root h1 x
    simp only [rep]
    by_cases h : rep J x = b
    · rw [if_pos h]; simp only [par]; rw [if_neg h4]; exact h2
    · rw [if_neg h]; simp only [par]; rw [if_neg h]; exact ih
theorem root_rep : ∀ {J : Jn}, Vd n J → ∀ x, par J x = 0 → rep J x = x
  | [], _, _, _ => rfl
  | (b, a) :: J, ⟨h1, h2, h3, h4, h5, _⟩, x, hx => by
    simp only [par] at hx
    by_cases h : x = b
    · rw [if_pos h] at hx; omega
    · rw [if_neg h] at hx
      have ih := root_rep h1 x hx
      simp only [rep]; rw [ih, if_neg h]
theorem rep_rep {J : Jn} (h : Vd n J) (x : Int) : rep J (rep J x) = rep J x := root_rep h _ (rep_root h x)
theorem rep_in : ∀ {J : Jn}, Vd n J → ∀ x, 1 ≤ x → x ≤ n → 1 ≤ rep J x ∧ rep J x ≤ n
  | [], _, _, h1, h2 => ⟨h1, h2⟩
  | (b, a) :: J, ⟨h1, h2, h3, h4, h5, _⟩, x, g1, g2 => by
    have ih := rep_in h1 x g1 g2
    simp only [rep]
    split
    · exact h5
    · exact ih
theorem par_in : ∀ {J : Jn}, Vd n J → ∀ x, par J x = 0 ∨ (1 ≤ par J x ∧ par J x ≤ n)
  | [], _, _ => .inl rfl
  | (b, a) :: J, ⟨h1, _, _, _, h5, _⟩, x => by
    simp only [par]
    split
    · exact .inr h5
    · exact par_in h1 x
theorem dep_root : ∀ {J : Jn}, Vd n J → ∀ x, par J x = 0 → dep J x = 0
  | [], _, _, _ => rfl
  | (b, a) :: J, ⟨h1, h2, h3, h4, h5, _⟩, x, hx => by
    simp only [par] at hx
    by_cases h : x = b
    · rw [if_pos h] at hx; omega
    · rw [if_neg h] at hx
      simp only [dep]; rw [root_rep h1 x hx, if_neg h]; exact dep_root h1 x hx
theorem up_one : ∀ {J : Jn}, Vd n J → ∀ x, par J x ≠ 0 → rep J (par J x) = rep J x ∧ dep J x = dep J (par J x) + 1
  | [], _, _, h => absurd rfl h
  | (b, a) :: J, ⟨h1, h2, h3, h4, h5, _⟩, x, hx => by
    simp only [par] at hx ⊢
    by_cases h : x = b
    · subst h
      rw [if_pos rfl]
      have ha := root_rep h1 a h2
      have hb := root_rep h1 x h3
      simp only [rep, dep, ha, hb, if_true]
      rw [if_neg h4, if_neg h4, dep_root h1 x h3, dep_root h1 a h2]
      simp
    · rw [if_neg h] at hx ⊢
      obtain ⟨e1, e2⟩ := up_one h1 x hx
      simp only [rep, dep, e1]
      refine ⟨trivial, ?_⟩
      split
      · rw [e2]
      · exact e2
theorem sz_pos : ∀ (J : Jn) x, 1 ≤ sz J x
  | [], _ => Int.le_refl _
  | (b, a) :: J, x => by
    have h1 := sz_pos J a
    have h2 := sz_pos J b
    have h3 := sz_pos J x
    simp only [sz]
    split <;> omega
theorem dep_sz : ∀ {J : Jn}, Vd n J → ∀ x, (2 : Int) ^ dep J x ≤ sz J (rep J x)
  | [], _, _ => by simp [dep, sz]
  | (b, a) :: J, ⟨h1, h2, h3, h4, h5, h6, h7⟩, x => by
    have ih := dep_sz h1 x
    have hb := sz_pos J b
    simp only [rep, dep]
    by_cases h : rep J x = b
    · rw [if_pos h, if_pos h]
      simp only [sz, if_true]
      rw [h] at ih
      rw [Int.pow_succ]
      omega
    · rw [if_neg h, if_neg h]
      simp only [sz]
      split
      · rename_i h8; rw [h8] at ih; omega
      · exact ih
def eqI (x r : Int) : Bool := decide (x = r)
theorem eqI_iff {x r : Int} : eqI x r = true ↔ x = r := by simp [eqI]
theorem eqI_no {x r : Int} (h : x ≠ r) : eqI x r = false := by simp [eqI, h]
/-- How many of 1..k. -/
def ct (p : Int → Bool) : Nat → Int
  | 0 => 0
  | k + 1 => ct p k + if p (k + 1) = true then 1 else 0
theorem ct_le (p : Int → Bool) : ∀ k : Nat, 0 ≤ ct p k ∧ ct p k ≤ k
  | 0 => ⟨Int.le_refl _, Int.le_refl _⟩
  | k + 1 => by
    have := ct_le p k
    simp only [ct]
    split <;> omega
theorem ct_congr {p q : Int → Bool} : ∀ k : Nat, (∀ x : Int, 1 ≤ x → x ≤ k → p x = q x) → ct p k = ct q k
  | 0, _ => rfl
  | k + 1, h => by
    simp only [ct]
    rw [ct_congr k (fun x h1 h2 => h x h1 (by omega)), h (k + 1) (by omega) (by omega)]
theorem ct_add {p q r : Int → Bool} : ∀ k : Nat, (∀ x : Int, 1 ≤ x → x ≤ k → (p x = true ↔ (q x = true ∨ r x = true)) ∧ ¬ (q x = true ∧ r x = true)) → ct p k = ct q k + ct r k
  | 0, _ => rfl
  | k + 1, h => by
    have ih := ct_add k (fun x h1 h2 => h x h1 (by omega))
    obtain ⟨h1, h2⟩ := h (k + 1) (by omega) (by omega)
    simp only [ct, ih]
    by_cases hq : q (k + 1) = true
    · by_cases hr : r (k + 1) = true
      · exact absurd ⟨hq, hr⟩ h2
      · rw [if_pos (h1.2 (.inl hq)), if_pos hq, if_neg hr]; omega
    · by_cases hr : r (k + 1) = true
      · rw [if_pos (h1.2 (.inr hr)), if_neg hq, if_pos hr]; omega
      · rw [if_neg (fun hp => (h1.1 hp).elim hq hr), if_neg hq, if_neg hr]; omega
theorem ct_one (b : Int) : ∀ k : Nat, ct (fun x => eqI x b) k = if 1 ≤ b ∧ b ≤ k then 1 else 0
  | 0 => by simp only [ct]; rw [if_neg (by omega)]
  | k + 1 => by
    simp only [ct, ct_one b k, eqI_iff]
    by_cases h : ((k : Nat) : Int) + 1 = b
    · subst h; simp; omega
    · rw [if_neg h]
      by_cases h2 : 1 ≤ b ∧ b ≤ k
      · rw [if_pos h2, if_pos (by omega)]; rfl
      · rw [if_neg h2, if_neg (by omega)]; rfl
theorem sz_count {k : Nat} : ∀ {J : Jn}, Vd k J → ∀ r : Int, 1 ≤ r → r ≤ k → par J r = 0 → sz J r = ct (fun x => eqI (rep J x) r) k
  | [], _, r, h1, h2, _ => by show (1 : Int) = ct (fun x => eqI x r) k; rw [ct_one, if_pos ⟨h1, h2⟩]
  | (b, a) :: J, ⟨h1, h2, h3, h4, h5, h6, h7⟩, r, g1, g2, hr => by
    simp only [par] at hr
    have hrb : r ≠ b := fun e => by subst e; rw [if_pos rfl] at hr; omega
    rw [if_neg hrb] at hr
    simp only [sz, rep]
    by_cases h : r = a
    · subst h
      rw [if_pos rfl, sz_count h1 r g1 g2 h2, sz_count h1 b h6.1 h6.2 h3]
      refine (ct_add k fun x _ _ => ?_).symm
      simp only [eqI_iff]
      by_cases h8 : rep J x = b
      · rw [if_pos h8]
        exact ⟨⟨fun _ => .inr h8, fun _ => rfl⟩, fun ⟨h9, _⟩ => h4 (h9.symm.trans h8)⟩
      · rw [if_neg h8]
        exact ⟨⟨fun h => .inl h, fun h => h.resolve_right h8⟩, fun ⟨_, h9⟩ => h8 h9⟩
    · rw [if_neg h, sz_count h1 r g1 g2 hr]
      refine ct_congr k fun x _ _ => ?_
      by_cases h8 : rep J x = b
      · rw [if_pos h8]
        rw [eqI_no (fun e => hrb (e.symm.trans h8)), eqI_no (fun e => h e.symm)]
      · rw [if_neg h8]
theorem sz_le {k : Nat} {J : Jn} (h : Vd k J) {x : Int} (h1 : 1 ≤ x) (h2 : x ≤ k) : sz J (rep J x) ≤ k := by
  obtain ⟨g1, g2⟩ := rep_in h x h1 h2
  rw [sz_count h _ g1 g2 (rep_root h x)]
  exact (ct_le _ k).2
theorem dep_le {k : Nat} (hk : k ≤ 64) {J : Jn} (h : Vd k J) {x : Int} (h1 : 1 ≤ x) (h2 : x ≤ k) : dep J x ≤ 6 := by
  have h3 := dep_sz h x
  have h4 := sz_le h h1 h2
  by_cases h5 : dep J x ≤ 6
  · exact h5
  · exfalso
    have h6 : (2 : Int) ^ 7 ≤ 2 ^ dep J x := by
      have := Nat.pow_le_pow_right (n := 2) (by decide) (show 7 ≤ dep J x by omega)
      exact_mod_cast this
    have h7 : (2 : Int) ^ 7 = 128 := by decide
    omega
theorem roots_count {k : Nat} : ∀ {J : Jn}, Vd k J → ct (fun x => eqI (par J x) 0) k + J.length = k
  | [], _ => by
    have : ∀ k : Nat, ct (fun x => eqI (par [] x) 0) k = k := by
      intro k
      induction k with
      | zero => rfl
      | succ k ih => simp only [ct, ih]; simp [par, eqI]
    rw [this]; simp
  | (b, a) :: J, ⟨h1, h2, h3, h4, h5, h6, h7⟩ => by
    have ih := roots_count h1
    have h8 : ct (fun x => eqI (par J x) 0) k = ct (fun x => eqI (par ((b, a) :: J) x) 0) k + ct (fun x => eqI x b) k := by
      refine ct_add k fun x _ _ => ?_
      simp only [eqI_iff, par]
      by_cases h : x = b
      · subst h; rw [if_pos rfl]; exact ⟨⟨fun _ => .inr rfl, fun _ => h3⟩, fun ⟨h9, _⟩ => by omega⟩
      · rw [if_neg h]; exact ⟨⟨fun h9 => .inl h9, fun h9 => h9.resolve_right h⟩, fun ⟨_, h9⟩ => h h9⟩
    rw [ct_one, if_pos h6] at h8
    simp only [List.length_cons]
    omega
theorem par_out : ∀ {J : Jn}, Vd n J → ∀ x, n < x → par J x = 0
  | [], _, _, _ => rfl
  | (b, a) :: J, ⟨h1, _, _, _, _, h6, _⟩, x, hx => by simp only [par]; rw [if_neg (by omega)]; exact par_out h1 x hx
theorem sz_out : ∀ {J : Jn}, Vd n J → ∀ x, n < x → sz J x = 1
  | [], _, _, _ => rfl
  | (b, a) :: J, ⟨h1, _, _, _, h5, _, _⟩, x, hx => by simp only [sz]; rw [if_neg (by omega)]; exact sz_out h1 x hx
def lastJ : Jn → Int
  | [] => 0
  | (b, _) :: _ => b
theorem joins_lt {k : Nat} {J : Jn} (h : Vd k J) : J.length ≤ k := by
  have := roots_count h
  have := ct_le (fun x => eqI (par J x) 0) k
  omega
/-! #### The reference's lists -/
def bL (k : Nat) (J : Jn) : List Int := (List.range k).map fun (i : Nat) => par J ((i : Int) + 1)
def zL (k : Nat) (J : Jn) : List Int := (List.range k).map fun (i : Nat) => sz J ((i : Int) + 1)
def jL (J : Jn) : List Int := (J.map (·.1)).reverse
theorem bL_len (k : Nat) (J : Jn) : (bL k J).length = k := by simp [bL]
theorem zL_len (k : Nat) (J : Jn) : (zL k J).length = k := by simp [zL]
theorem jL_len (J : Jn) : (jL J).length = J.length := by simp [jL]
theorem bL_at (k : Nat) (J : Jn) {x : Int} (h1 : 1 ≤ x) (h2 : x ≤ k) : (bL k J)[(x - 1).toNat]? = some (par J x) := by
  unfold bL
  rw [List.getElem?_map, List.getElem?_range (by omega)]
  simp only [Option.map_some]
  congr 2; omega
theorem zL_at (k : Nat) (J : Jn) {x : Int} (h1 : 1 ≤ x) (h2 : x ≤ k) : (zL k J)[(x - 1).toNat]? = some (sz J x) := by
  unfold zL
  rw [List.getElem?_map, List.getElem?_range (by omega)]
  simp only [Option.map_some]
  congr 2; omega
theorem mk_ext {k : Nat} {f g : Int → Int} {p v : Int} (h : ∀ x : Int, 1 ≤ x → x ≤ k → g x = if x = p then v else f x) (hp : 1 ≤ p ∧ p ≤ k) :
    (List.range k).map (fun (i : Nat) => g ((i : Int) + 1)) = ((List.range k).map (fun (i : Nat) => f ((i : Int) + 1))).set (p - 1).toNat v := by
  apply List.ext_getElem?
  intro i
  by_cases hi : i < k
  · rw [List.getElem?_map, List.getElem?_range hi, List.getElem?_set]
    simp only [Option.map_some, List.length_map, List.length_range, List.getElem?_map, List.getElem?_range hi]
    rw [h _ (by omega) (by omega)]
    by_cases h2 : (p - 1).toNat = i
    · rw [if_pos h2, if_pos (by omega), if_pos (by omega)]
    · rw [if_neg h2, if_neg (by omega)]
  · rw [List.getElem?_eq_none (by simp; omega), List.getElem?_eq_none (by simp; omega)]
theorem bL_join {k : Nat} {b a : Int} {J : Jn} (hb : 1 ≤ b ∧ b ≤ k) : bL k ((b, a) :: J) = (bL k J).set (b - 1).toNat a := mk_ext (fun _ _ _ => rfl) hb
theorem zL_join {k : Nat} {b a : Int} {J : Jn} (ha : 1 ≤ a ∧ a ≤ k) : zL k ((b, a) :: J) = (zL k J).set (a - 1).toNat (sz J a + sz J b) := mk_ext (fun _ _ _ => rfl) ha
theorem jL_join {b a : Int} {J : Jn} : jL ((b, a) :: J) = jL J ++ [b] := by simp [jL]
theorem bL_undo {k : Nat} {b a : Int} {J : Jn} (h : Vd k ((b, a) :: J)) : bL k J = (bL k ((b, a) :: J)).set (b - 1).toNat 0 := by
  obtain ⟨h1, h2, h3, h4, h5, h6, h7⟩ := h
  refine mk_ext (fun x _ _ => ?_) h6
  simp only [par]
  by_cases e : x = b
  · subst e; rw [if_pos rfl, h3]
  · rw [if_neg e, if_neg e]
theorem zL_undo {k : Nat} {b a : Int} {J : Jn} (h : Vd k ((b, a) :: J)) : zL k J = (zL k ((b, a) :: J)).set (a - 1).toNat (sz ((b, a) :: J) a - sz ((b, a) :: J) b) := by
  obtain ⟨h1, h2, h3, h4, h5, h6, h7⟩ := h
  refine mk_ext (fun x _ _ => ?_) h5
  simp only [sz, if_true]
  rw [if_neg (Ne.symm h4)]
  by_cases e : x = a
  · subst e; rw [if_pos rfl]; omega
  · rw [if_neg e, if_neg e]
theorem bL_more {k : Nat} {J : Jn} (h : Vd k J) : bL (k + 1) J = bL k J ++ [0] := by
  unfold bL
  rw [List.range_succ, List.map_append]
  simp only [List.map_cons, List.map_nil]
  rw [par_out h _ (by omega)]
theorem zL_more {k : Nat} {J : Jn} (h : Vd k J) : zL (k + 1) J = zL k J ++ [1] := by
  unfold zL
  rw [List.range_succ, List.map_append]
  simp only [List.map_cons, List.map_nil]
  rw [sz_out h _ (by omega)]
end Sim

