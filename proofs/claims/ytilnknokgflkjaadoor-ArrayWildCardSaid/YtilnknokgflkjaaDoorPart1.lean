import Derived.Test.YtilnknokgflkjaaDoorProg
import Derived.Test.YtilnknokgflkjaaDoorKit
/- Lemmas and walks for the claims of this seat (own work): Sp0 Base Sp1 Sp2 Sp3 Nw0 Nw1 Nw2 Pl0 Pl1 Pl2 Ar0. -/
/- The plain model of package space: what its functions compute. -/
namespace Sim
open Go Go.Vc

structure Wd where
  val : Int
  ver : Int
  ref : Int
  deriving DecidableEq

structure Sp where
  kn : List (Int × Wd)
  rd : List Int
  puts : List (Int × Int)
  need : Int
  ended : Bool

def lookW : List (Int × Wd) → Int → Option Wd
  | [], _ => none
  | (a, w) :: r, x => if a = x then some w else lookW r x
def insI : List Int → Int → List Int
  | [], x => [x]
  | a :: r, x => if a = x then a :: r else a :: insI r x
def lastV : List (Int × Int) → Int → Option Int
  | [], _ => none
  | (a, v) :: r, x => match lastV r x with | some u => some u | none => if a = x then some v else none
def lastI (l : List (Int × Int)) (x : Int) : Int :=
  match l.length with
  | 0 => -1
  | _ => go l.length
where go : Nat → Int
  | 0 => -1
  | k + 1 => if (l[k]?.map (·.1)) = some x then k else go k

def Sp.reads (s : Sp) (a : Int) : Bool × Sp :=
  if s.ended then (false, s) else
  match lookW s.kn a with
  | none => (false, { s with ended := true, need := a })
  | some _ => (true, { s with rd := insI s.rd a })
def Sp.value (s : Sp) (a : Int) : Int × Bool :=
  match lastV s.puts a with
  | some v => (v, true)
  | none => (match lookW s.kn a with | some w => w.val | none => 0, false)
def Sp.get (s : Sp) (a : Int) : Int × Sp := if (s.reads a).1 then (((s.reads a).2.value a).1, (s.reads a).2) else (0, (s.reads a).2)
def Sp.put (s : Sp) (a v : Int) : Sp := if (s.reads a).1 then { (s.reads a).2 with puts := s.puts ++ [(a, v)] } else (s.reads a).2
def Sp.back (s : Sp) (m : Int) : Sp := if s.ended = false ∧ 0 ≤ m ∧ m ≤ s.puts.length then { s with puts := s.puts.take m.toNat } else s

def wordV (w : Wd) : Value := .agg #[.int .i64 w.val, .int .u32 w.ver, .int .u32 w.ref]
def knM : List (Int × Wd) → List (Int × Value)
  | [] => []
  | (a, w) :: r => (a, wordV w) :: knM r
def rdM : List Int → List (Int × Value)
  | [] => []
  | a :: r => (a, .bool true) :: rdM r
def flat : List (Int × Int) → List Value
  | [] => []
  | (a, v) :: r => .int .i64 a :: .int .i64 v :: flat r

theorem look_knM : ∀ (l : List (Int × Wd)) (a : Int), Vc.look (knM l) a = (lookW l a).map wordV
  | [], _ => rfl
  | (b, w) :: r, a => by
    simp only [knM, Vc.look, lookW]
    by_cases h : b = a <;> simp [h, look_knM r a]
theorem ins_rdM : ∀ (l : List Int) (a : Int), ins (rdM l) a (.bool true) = rdM (insI l a)
  | [], _ => rfl
  | b :: r, a => by
    simp only [rdM, ins, insI]
    by_cases h : b = a <;> simp [h, rdM, ins_rdM r a]
theorem flat_length : ∀ (l : List (Int × Int)), (flat l).length = l.length * 2
  | [] => rfl
  | (_, _) :: r => by simp [flat, flat_length r]; omega
theorem flat_append : ∀ (l r : List (Int × Int)), flat (l ++ r) = flat l ++ flat r
  | [], _ => rfl
  | (_, _) :: l, r => by simp [flat, flat_append l r]
theorem flat_take : ∀ (l : List (Int × Int)) (k : Nat), (flat l).take (k * 2) = flat (l.take k)
  | [], k => by simp [flat]
  | (a, v) :: l, 0 => by simp [flat]
  | (a, v) :: l, k + 1 => by
    have : (k + 1) * 2 = k * 2 + 1 + 1 := by omega
    simp [flat, this, flat_take l k]
theorem flat_get : ∀ (l : List (Int × Int)) (k : Nat) (p : Int × Int), l[k]? = some p → nth (flat l) (k * 2) = some (.int .i64 p.1) ∧ nth (flat l) (k * 2 + 1) = some (.int .i64 p.2)
  | [], k, p, h => by simp at h
  | (a, v) :: l, 0, p, h => by simp at h; subst h; exact ⟨rfl, rfl⟩
  | (a, v) :: l, k + 1, p, h => by
    have e : (k + 1) * 2 = k * 2 + 1 + 1 := by omega
    simp only [List.getElem?_cons_succ] at h
    obtain ⟨h1, h2⟩ := flat_get l k p h
    exact ⟨by rw [e]; exact h1, by rw [e]; exact h2⟩

theorem lastI_spec (l : List (Int × Int)) (x : Int) (k : Nat) (hk : k ≤ l.length) (h : ∀ j, k ≤ j → j < l.length → ∀ p, l[j]? = some p → p.1 ≠ x) : lastI l x = lastI.go l x k := by
  have key : ∀ m, k + m ≤ l.length → lastI.go l x (k + m) = lastI.go l x k := by
    intro m
    induction m with
    | zero => intro _; rfl
    | succ m ih =>
      intro hm
      have hlt : k + m < l.length := by omega
      have := h (k + m) (by omega) hlt _ (List.getElem?_eq_getElem hlt)
      rw [← Nat.add_assoc]
      simp only [lastI.go]
      rw [if_neg (by rw [List.getElem?_eq_getElem hlt]; simpa using this)]
      exact ih (by omega)
  unfold lastI
  split
  · rename_i h0
    have : k = 0 := by omega
    subst this; rfl
  · obtain ⟨m, hm⟩ : ∃ m, l.length = k + m := ⟨l.length - k, by omega⟩
    rw [hm]; exact key m (by omega)

theorem go_lastV (l : List (Int × Int)) (x : Int) : ∀ k, k ≤ l.length →
    (lastV (l.take k) x = none ∧ lastI.go l x k = -1) ∨ (∃ j p, j < k ∧ l[j]? = some p ∧ p.1 = x ∧ lastV (l.take k) x = some p.2 ∧ lastI.go l x k = j) := by
  have snoc : ∀ (l : List (Int × Int)) (p : Int × Int), lastV (l ++ [p]) x = if p.1 = x then some p.2 else lastV l x := by
    intro l p
    induction l with
    | nil => simp [lastV]
    | cons q l ih =>
      obtain ⟨a, v⟩ := q
      simp only [List.cons_append, lastV, ih]
      by_cases h : p.1 = x <;> simp [h]
  intro k
  induction k with
  | zero => intro _; exact .inl ⟨by simp [lastV], rfl⟩
  | succ k ih =>
    intro hk
    have hlt : k < l.length := by omega
    have ht : l.take (k + 1) = l.take k ++ [l[k]] := List.take_succ_eq_append_getElem hlt
    rw [ht, snoc]
    simp only [lastI.go, List.getElem?_eq_getElem hlt, Option.map_some, Option.some.injEq]
    by_cases hx : (l[k]).1 = x
    · right
      exact ⟨k, l[k], by omega, List.getElem?_eq_getElem hlt, hx, by rw [if_pos hx], by rw [if_pos hx]⟩
    · rw [if_neg hx, if_neg hx]
      rcases ih (by omega) with ⟨h1, h2⟩ | ⟨j, p, h1, h2, h3, h4, h5⟩
      · exact .inl ⟨h1, h2⟩
      · exact .inr ⟨j, p, by omega, h2, h3, h4, h5⟩

/-- The index of the last write, and its value. -/
theorem lastI_lastV (l : List (Int × Int)) (x : Int) : (lastV l x = none ∧ lastI l x = -1) ∨ (∃ (j : Nat) (p : Int × Int), j < l.length ∧ l[j]? = some p ∧ lastV l x = some p.2 ∧ lastI l x = j) := by
  have h1 := lastI_spec l x l.length (Nat.le_refl _) (fun j h1 h2 => by omega)
  rcases go_lastV l x l.length (Nat.le_refl _) with ⟨h2, h3⟩ | ⟨j, p, h2, h3, _, h4, h5⟩
  · left; rw [List.take_length] at h2; exact ⟨h2, h1.trans h3⟩
  · right; rw [List.take_length] at h4; exact ⟨j, p, h2, h3, h4, h1.trans h5⟩
end Sim

/- The facts of the loaded program that the walks use: types and functions, each by the kernel. Made by gen.py. -/
namespace Go.Proofs.YtilnknokgflkjaaDoor
open Go.Vc
@[irreducible] noncomputable def PP : Program := Tryd.prog
theorem PP_def : PP = Tryd.prog := by unfold PP; rfl
theorem PP_mixed : PP.follows .mixedOrders = true := by kernel_rfl
instance : TShape PP 1 false 1 := ⟨fun w => by kernel_rfl, fun w => by kernel_rfl⟩
instance : TInfo PP 1 8 := ⟨fun w => ⟨Tryd.t1, by rw [PP_def]; exact Tryd.typeInfo1 w, rfl⟩⟩
instance : TZero PP 1 [.nilFunc] := ⟨fun w => ⟨.nilFunc, by kernel_rfl, by kernel_rfl⟩⟩
instance : TZeroV PP 1 (.nilFunc) := ⟨fun w => by kernel_rfl⟩
instance : TShape PP 2 false 1 := ⟨fun w => by kernel_rfl, fun w => by kernel_rfl⟩
instance : TInfo PP 2 8 := ⟨fun w => ⟨Tryd.t2, by rw [PP_def]; exact Tryd.typeInfo2 w, rfl⟩⟩
instance : TZero PP 2 [.int .i64 0] := ⟨fun w => ⟨.int .i64 0, by kernel_rfl, by kernel_rfl⟩⟩
instance : TZeroV PP 2 (.int .i64 0) := ⟨fun w => by kernel_rfl⟩
instance : TUnd PP 2 (.int (.i64)) := ⟨by kernel_rfl⟩
instance : TShape PP 3 false 1 := ⟨fun w => by kernel_rfl, fun w => by kernel_rfl⟩
instance : TInfo PP 3 8 := ⟨fun w => ⟨Tryd.t3, by rw [PP_def]; exact Tryd.typeInfo3 w, rfl⟩⟩
instance : TZero PP 3 [.int .i64 0] := ⟨fun w => ⟨.int .i64 0, by kernel_rfl, by kernel_rfl⟩⟩
instance : TZeroV PP 3 (.int .i64 0) := ⟨fun w => by kernel_rfl⟩
instance : TUnd PP 3 (.int (.i64)) := ⟨by kernel_rfl⟩
instance : TShape PP 4 false 1 := ⟨fun w => by kernel_rfl, fun w => by kernel_rfl⟩
instance : TInfo PP 4 1 := ⟨fun w => ⟨Tryd.t4, by rw [PP_def]; exact Tryd.typeInfo4 w, rfl⟩⟩
instance : TZero PP 4 [.bool false] := ⟨fun w => ⟨.bool false, by kernel_rfl, by kernel_rfl⟩⟩
instance : TZeroV PP 4 (.bool false) := ⟨fun w => by kernel_rfl⟩
instance : TUnd PP 4 (.bool) := ⟨by kernel_rfl⟩
instance : TShape PP 5 false 1 := ⟨fun w => by kernel_rfl, fun w => by kernel_rfl⟩
instance : TInfo PP 5 1 := ⟨fun w => ⟨Tryd.t5, by rw [PP_def]; exact Tryd.typeInfo5 w, rfl⟩⟩
instance : TZero PP 5 [.int .u8 0] := ⟨fun w => ⟨.int .u8 0, by kernel_rfl, by kernel_rfl⟩⟩
instance : TZeroV PP 5 (.int .u8 0) := ⟨fun w => by kernel_rfl⟩
instance : TUnd PP 5 (.int (.u8)) := ⟨by kernel_rfl⟩
instance : TShape PP 6 false 1 := ⟨fun w => by kernel_rfl, fun w => by kernel_rfl⟩
instance : TInfo PP 6 1 := ⟨fun w => ⟨Tryd.t6, by rw [PP_def]; exact Tryd.typeInfo6 w, rfl⟩⟩
instance : TZero PP 6 [.int .u8 0] := ⟨fun w => ⟨.int .u8 0, by kernel_rfl, by kernel_rfl⟩⟩
instance : TZeroV PP 6 (.int .u8 0) := ⟨fun w => by kernel_rfl⟩
instance : TUnd PP 6 (.int (.u8)) := ⟨by kernel_rfl⟩
instance : TShape PP 7 true 4 := ⟨fun w => by kernel_rfl, fun w => by kernel_rfl⟩
instance : TInfo PP 7 24 := ⟨fun w => ⟨Tryd.t7, by rw [PP_def]; exact Tryd.typeInfo7 w, rfl⟩⟩
instance : TZero PP 7 [.int .i64 0, .int .i64 0, .bool false, .int .u8 0] := ⟨fun w => ⟨.agg #[.int .i64 0, .int .i64 0, .bool false, .int .u8 0], by kernel_rfl, by kernel_rfl⟩⟩
instance : TZeroV PP 7 (.agg #[.int .i64 0, .int .i64 0, .bool false, .int .u8 0]) := ⟨fun w => by kernel_rfl⟩
instance : TStruct PP 7 [.int .i64 0, .int .i64 0, .bool false, .int .u8 0] [(0, 1), (1, 1), (2, 1), (3, 1)] := ⟨⟨_, by rw [PP_def]; exact Tryd.underlying7, fun w => by kernel_rfl⟩, fun w => ⟨.agg #[.int .i64 0, .int .i64 0, .bool false, .int .u8 0], by kernel_rfl, by kernel_rfl⟩⟩
instance : TField PP 7 0 0 := ⟨fun b o w => by kernel_rfl⟩
instance : TPart PP 7 0 false 0 1 := part_lemma (ft := 2) (by rw [PP_def]; exact Tryd.underlying7) rfl rfl rfl
instance : TField PP 7 1 1 := ⟨fun b o w => by kernel_rfl⟩
instance : TPart PP 7 1 false 1 1 := part_lemma (ft := 3) (by rw [PP_def]; exact Tryd.underlying7) rfl rfl rfl
instance : TField PP 7 2 2 := ⟨fun b o w => by kernel_rfl⟩
instance : TPart PP 7 2 false 2 1 := part_lemma (ft := 4) (by rw [PP_def]; exact Tryd.underlying7) rfl rfl rfl
instance : TField PP 7 3 3 := ⟨fun b o w => by kernel_rfl⟩
instance : TPart PP 7 3 false 3 1 := part_lemma (ft := 6) (by rw [PP_def]; exact Tryd.underlying7) rfl rfl rfl
instance : TShape PP 8 true 4 := ⟨fun w => by kernel_rfl, fun w => by kernel_rfl⟩
instance : TInfo PP 8 24 := ⟨fun w => ⟨Tryd.t8, by rw [PP_def]; exact Tryd.typeInfo8 w, rfl⟩⟩
instance : TZero PP 8 [.int .i64 0, .int .i64 0, .bool false, .int .u8 0] := ⟨fun w => ⟨.agg #[.int .i64 0, .int .i64 0, .bool false, .int .u8 0], by kernel_rfl, by kernel_rfl⟩⟩
instance : TZeroV PP 8 (.agg #[.int .i64 0, .int .i64 0, .bool false, .int .u8 0]) := ⟨fun w => by kernel_rfl⟩
instance : TStruct PP 8 [.int .i64 0, .int .i64 0, .bool false, .int .u8 0] [(0, 1), (1, 1), (2, 1), (3, 1)] := ⟨⟨_, by rw [PP_def]; exact Tryd.underlying8, fun w => by kernel_rfl⟩, fun w => ⟨.agg #[.int .i64 0, .int .i64 0, .bool false, .int .u8 0], by kernel_rfl, by kernel_rfl⟩⟩
instance : TField PP 8 0 0 := ⟨fun b o w => by kernel_rfl⟩
instance : TPart PP 8 0 false 0 1 := part_lemma (ft := 2) (by rw [PP_def]; exact Tryd.underlying8) rfl rfl rfl
instance : TField PP 8 1 1 := ⟨fun b o w => by kernel_rfl⟩
instance : TPart PP 8 1 false 1 1 := part_lemma (ft := 3) (by rw [PP_def]; exact Tryd.underlying8) rfl rfl rfl
instance : TField PP 8 2 2 := ⟨fun b o w => by kernel_rfl⟩
instance : TPart PP 8 2 false 2 1 := part_lemma (ft := 4) (by rw [PP_def]; exact Tryd.underlying8) rfl rfl rfl
instance : TField PP 8 3 3 := ⟨fun b o w => by kernel_rfl⟩
instance : TPart PP 8 3 false 3 1 := part_lemma (ft := 6) (by rw [PP_def]; exact Tryd.underlying8) rfl rfl rfl
instance : TShape PP 9 false 1 := ⟨fun w => by kernel_rfl, fun w => by kernel_rfl⟩
instance : TInfo PP 9 16 := ⟨fun w => ⟨Tryd.t9, by rw [PP_def]; exact Tryd.typeInfo9 w, rfl⟩⟩
instance : TZero PP 9 [.string ByteArray.empty] := ⟨fun w => ⟨.string ByteArray.empty, by kernel_rfl, by kernel_rfl⟩⟩
instance : TZeroV PP 9 (.string ByteArray.empty) := ⟨fun w => by kernel_rfl⟩
instance : TUnd PP 9 (.string) := ⟨by kernel_rfl⟩
instance : TShape PP 10 false 1 := ⟨fun w => by kernel_rfl, fun w => by kernel_rfl⟩
instance : TInfo PP 10 16 := ⟨fun w => ⟨Tryd.t10, by rw [PP_def]; exact Tryd.typeInfo10 w, rfl⟩⟩
instance : TZero PP 10 [.string ByteArray.empty] := ⟨fun w => ⟨.string ByteArray.empty, by kernel_rfl, by kernel_rfl⟩⟩
instance : TZeroV PP 10 (.string ByteArray.empty) := ⟨fun w => by kernel_rfl⟩
instance : TUnd PP 10 (.string) := ⟨by kernel_rfl⟩
instance : TShape PP 11 false 1 := ⟨fun w => by kernel_rfl, fun w => by kernel_rfl⟩
instance : TInfo PP 11 16 := ⟨fun w => ⟨Tryd.t11, by rw [PP_def]; exact Tryd.typeInfo11 w, rfl⟩⟩
instance : TZero PP 11 [.string ByteArray.empty] := ⟨fun w => ⟨.string ByteArray.empty, by kernel_rfl, by kernel_rfl⟩⟩
instance : TZeroV PP 11 (.string ByteArray.empty) := ⟨fun w => by kernel_rfl⟩
instance : TUnd PP 11 (.string) := ⟨by kernel_rfl⟩
instance : TShape PP 12 false 1 := ⟨fun w => by kernel_rfl, fun w => by kernel_rfl⟩
instance : TInfo PP 12 8 := ⟨fun w => ⟨Tryd.t12, by rw [PP_def]; exact Tryd.typeInfo12 w, rfl⟩⟩
instance : TZero PP 12 [.int .u64 0] := ⟨fun w => ⟨.int .u64 0, by kernel_rfl, by kernel_rfl⟩⟩
instance : TZeroV PP 12 (.int .u64 0) := ⟨fun w => by kernel_rfl⟩
instance : TUnd PP 12 (.int (.u64)) := ⟨by kernel_rfl⟩
instance : TShape PP 13 true 2 := ⟨fun w => by kernel_rfl, fun w => by kernel_rfl⟩
instance : TInfo PP 13 24 := ⟨fun w => ⟨Tryd.t13, by rw [PP_def]; exact Tryd.typeInfo13 w, rfl⟩⟩
instance : TZero PP 13 [.string ByteArray.empty, .int .u64 0] := ⟨fun w => ⟨.agg #[.string ByteArray.empty, .int .u64 0], by kernel_rfl, by kernel_rfl⟩⟩
instance : TZeroV PP 13 (.agg #[.string ByteArray.empty, .int .u64 0]) := ⟨fun w => by kernel_rfl⟩
instance : TStruct PP 13 [.string ByteArray.empty, .int .u64 0] [(0, 1), (1, 1)] := ⟨⟨_, by rw [PP_def]; exact Tryd.underlying13, fun w => by kernel_rfl⟩, fun w => ⟨.agg #[.string ByteArray.empty, .int .u64 0], by kernel_rfl, by kernel_rfl⟩⟩
instance : TField PP 13 0 0 := ⟨fun b o w => by kernel_rfl⟩
instance : TPart PP 13 0 false 0 1 := part_lemma (ft := 9) (by rw [PP_def]; exact Tryd.underlying13) rfl rfl rfl
instance : TField PP 13 1 1 := ⟨fun b o w => by kernel_rfl⟩
instance : TPart PP 13 1 false 1 1 := part_lemma (ft := 12) (by rw [PP_def]; exact Tryd.underlying13) rfl rfl rfl
instance : TShape PP 14 true 2 := ⟨fun w => by kernel_rfl, fun w => by kernel_rfl⟩
instance : TInfo PP 14 24 := ⟨fun w => ⟨Tryd.t14, by rw [PP_def]; exact Tryd.typeInfo14 w, rfl⟩⟩
instance : TZero PP 14 [.string ByteArray.empty, .int .u64 0] := ⟨fun w => ⟨.agg #[.string ByteArray.empty, .int .u64 0], by kernel_rfl, by kernel_rfl⟩⟩
instance : TZeroV PP 14 (.agg #[.string ByteArray.empty, .int .u64 0]) := ⟨fun w => by kernel_rfl⟩
instance : TStruct PP 14 [.string ByteArray.empty, .int .u64 0] [(0, 1), (1, 1)] := ⟨⟨_, by rw [PP_def]; exact Tryd.underlying14, fun w => by kernel_rfl⟩, fun w => ⟨.agg #[.string ByteArray.empty, .int .u64 0], by kernel_rfl, by kernel_rfl⟩⟩
instance : TField PP 14 0 0 := ⟨fun b o w => by kernel_rfl⟩
instance : TPart PP 14 0 false 0 1 := part_lemma (ft := 9) (by rw [PP_def]; exact Tryd.underlying14) rfl rfl rfl
instance : TField PP 14 1 1 := ⟨fun b o w => by kernel_rfl⟩
instance : TPart PP 14 1 false 1 1 := part_lemma (ft := 12) (by rw [PP_def]; exact Tryd.underlying14) rfl rfl rfl
instance : TShape PP 15 false 1 := ⟨fun w => by kernel_rfl, fun w => by kernel_rfl⟩
instance : TInfo PP 15 8 := ⟨fun w => ⟨Tryd.t15, by rw [PP_def]; exact Tryd.typeInfo15 w, rfl⟩⟩
instance : TZero PP 15 [.pointer none] := ⟨fun w => ⟨.pointer none, by kernel_rfl, by kernel_rfl⟩⟩
instance : TZeroV PP 15 (.pointer none) := ⟨fun w => by kernel_rfl⟩
instance : TUnd PP 15 (.pointer 142) := ⟨by kernel_rfl⟩
instance : TShape PP 16 false 1 := ⟨fun w => by kernel_rfl, fun w => by kernel_rfl⟩
instance : TInfo PP 16 8 := ⟨fun w => ⟨Tryd.t16, by rw [PP_def]; exact Tryd.typeInfo16 w, rfl⟩⟩
instance : TZero PP 16 [.pointer none] := ⟨fun w => ⟨.pointer none, by kernel_rfl, by kernel_rfl⟩⟩
instance : TZeroV PP 16 (.pointer none) := ⟨fun w => by kernel_rfl⟩
instance : TUnd PP 16 (.pointer 145) := ⟨by kernel_rfl⟩
instance : TShape PP 17 false 1 := ⟨fun w => by kernel_rfl, fun w => by kernel_rfl⟩
instance : TInfo PP 17 8 := ⟨fun w => ⟨Tryd.t17, by rw [PP_def]; exact Tryd.typeInfo17 w, rfl⟩⟩
instance : TZero PP 17 [.pointer none] := ⟨fun w => ⟨.pointer none, by kernel_rfl, by kernel_rfl⟩⟩
instance : TZeroV PP 17 (.pointer none) := ⟨fun w => by kernel_rfl⟩
instance : TUnd PP 17 (.pointer 153) := ⟨by kernel_rfl⟩
instance : TShape PP 18 true 1 := ⟨fun w => by kernel_rfl, fun w => by kernel_rfl⟩
instance : TInfo PP 18 8 := ⟨fun w => ⟨Tryd.t18, by rw [PP_def]; exact Tryd.typeInfo18 w, rfl⟩⟩
instance : TZero PP 18 [.pointer none] := ⟨fun w => ⟨.agg #[.pointer none], by kernel_rfl, by kernel_rfl⟩⟩
instance : TZeroV PP 18 (.agg #[.pointer none]) := ⟨fun w => by kernel_rfl⟩
instance : TStruct PP 18 [.pointer none] [(0, 1)] := ⟨⟨_, by rw [PP_def]; exact Tryd.underlying18, fun w => by kernel_rfl⟩, fun w => ⟨.agg #[.pointer none], by kernel_rfl, by kernel_rfl⟩⟩
instance : TField PP 18 0 0 := ⟨fun b o w => by kernel_rfl⟩
instance : TPart PP 18 0 false 0 1 := part_lemma (ft := 17) (by rw [PP_def]; exact Tryd.underlying18) rfl rfl rfl
instance : TShape PP 19 true 1 := ⟨fun w => by kernel_rfl, fun w => by kernel_rfl⟩
instance : TInfo PP 19 8 := ⟨fun w => ⟨Tryd.t19, by rw [PP_def]; exact Tryd.typeInfo19 w, rfl⟩⟩
instance : TZero PP 19 [.pointer none] := ⟨fun w => ⟨.agg #[.pointer none], by kernel_rfl, by kernel_rfl⟩⟩
instance : TZeroV PP 19 (.agg #[.pointer none]) := ⟨fun w => by kernel_rfl⟩
instance : TStruct PP 19 [.pointer none] [(0, 1)] := ⟨⟨_, by rw [PP_def]; exact Tryd.underlying19, fun w => by kernel_rfl⟩, fun w => ⟨.agg #[.pointer none], by kernel_rfl, by kernel_rfl⟩⟩
instance : TField PP 19 0 0 := ⟨fun b o w => by kernel_rfl⟩
instance : TPart PP 19 0 false 0 1 := part_lemma (ft := 17) (by rw [PP_def]; exact Tryd.underlying19) rfl rfl rfl
instance : TShape PP 20 false 1 := ⟨fun w => by kernel_rfl, fun w => by kernel_rfl⟩
instance : TInfo PP 20 16 := ⟨fun w => ⟨Tryd.t20, by rw [PP_def]; exact Tryd.typeInfo20 w, rfl⟩⟩
instance : TZero PP 20 [.nilIface] := ⟨fun w => ⟨.nilIface, by kernel_rfl, by kernel_rfl⟩⟩
instance : TZeroV PP 20 (.nilIface) := ⟨fun w => by kernel_rfl⟩
instance : TShape PP 21 false 1 := ⟨fun w => by kernel_rfl, fun w => by kernel_rfl⟩
instance : TInfo PP 21 4 := ⟨fun w => ⟨Tryd.t21, by rw [PP_def]; exact Tryd.typeInfo21 w, rfl⟩⟩
instance : TZero PP 21 [.int .i32 0] := ⟨fun w => ⟨.int .i32 0, by kernel_rfl, by kernel_rfl⟩⟩
instance : TZeroV PP 21 (.int .i32 0) := ⟨fun w => by kernel_rfl⟩
instance : TUnd PP 21 (.int (.i32)) := ⟨by kernel_rfl⟩
instance : TShape PP 22 false 1 := ⟨fun w => by kernel_rfl, fun w => by kernel_rfl⟩
instance : TInfo PP 22 24 := ⟨fun w => ⟨Tryd.t22, by rw [PP_def]; exact Tryd.typeInfo22 w, rfl⟩⟩
instance : TZero PP 22 [.slice none 0 0] := ⟨fun w => ⟨.slice none 0 0, by kernel_rfl, by kernel_rfl⟩⟩
instance : TZeroV PP 22 (.slice none 0 0) := ⟨fun w => by kernel_rfl⟩
instance : TUnd PP 22 (.slice 2) := ⟨by kernel_rfl⟩
instance : TShape PP 23 false 1 := ⟨fun w => by kernel_rfl, fun w => by kernel_rfl⟩
instance : TInfo PP 23 8 := ⟨fun w => ⟨Tryd.t23, by rw [PP_def]; exact Tryd.typeInfo23 w, rfl⟩⟩
instance : TZero PP 23 [.nilFunc] := ⟨fun w => ⟨.nilFunc, by kernel_rfl, by kernel_rfl⟩⟩
instance : TZeroV PP 23 (.nilFunc) := ⟨fun w => by kernel_rfl⟩
instance : TShape PP 24 false 1 := ⟨fun w => by kernel_rfl, fun w => by kernel_rfl⟩
instance : TInfo PP 24 8 := ⟨fun w => ⟨Tryd.t24, by rw [PP_def]; exact Tryd.typeInfo24 w, rfl⟩⟩
instance : TZero PP 24 [.int .i64 0] := ⟨fun w => ⟨.int .i64 0, by kernel_rfl, by kernel_rfl⟩⟩
instance : TZeroV PP 24 (.int .i64 0) := ⟨fun w => by kernel_rfl⟩
instance : TUnd PP 24 (.int (.i64)) := ⟨by kernel_rfl⟩
instance : TShape PP 25 true 3 := ⟨fun w => by kernel_rfl, fun w => by kernel_rfl⟩
instance : TInfo PP 25 24 := ⟨fun w => ⟨Tryd.t25, by rw [PP_def]; exact Tryd.typeInfo25 w, rfl⟩⟩
instance : TZero PP 25 [.int .i64 0, .int .i64 0, .int .i64 0] := ⟨fun w => ⟨.agg #[.int .i64 0, .int .i64 0, .int .i64 0], by kernel_rfl, by kernel_rfl⟩⟩
instance : TZeroV PP 25 (.agg #[.int .i64 0, .int .i64 0, .int .i64 0]) := ⟨fun w => by kernel_rfl⟩
instance : TStruct PP 25 [.int .i64 0, .int .i64 0, .int .i64 0] [(0, 1), (1, 1), (2, 1)] := ⟨⟨_, by rw [PP_def]; exact Tryd.underlying25, fun w => by kernel_rfl⟩, fun w => ⟨.agg #[.int .i64 0, .int .i64 0, .int .i64 0], by kernel_rfl, by kernel_rfl⟩⟩
instance : TField PP 25 0 0 := ⟨fun b o w => by kernel_rfl⟩
instance : TPart PP 25 0 false 0 1 := part_lemma (ft := 24) (by rw [PP_def]; exact Tryd.underlying25) rfl rfl rfl
instance : TField PP 25 1 1 := ⟨fun b o w => by kernel_rfl⟩
instance : TPart PP 25 1 false 1 1 := part_lemma (ft := 24) (by rw [PP_def]; exact Tryd.underlying25) rfl rfl rfl
instance : TField PP 25 2 2 := ⟨fun b o w => by kernel_rfl⟩
instance : TPart PP 25 2 false 2 1 := part_lemma (ft := 3) (by rw [PP_def]; exact Tryd.underlying25) rfl rfl rfl
instance : TShape PP 26 true 3 := ⟨fun w => by kernel_rfl, fun w => by kernel_rfl⟩
instance : TInfo PP 26 24 := ⟨fun w => ⟨Tryd.t26, by rw [PP_def]; exact Tryd.typeInfo26 w, rfl⟩⟩
instance : TZero PP 26 [.int .i64 0, .int .i64 0, .int .i64 0] := ⟨fun w => ⟨.agg #[.int .i64 0, .int .i64 0, .int .i64 0], by kernel_rfl, by kernel_rfl⟩⟩
instance : TZeroV PP 26 (.agg #[.int .i64 0, .int .i64 0, .int .i64 0]) := ⟨fun w => by kernel_rfl⟩
instance : TStruct PP 26 [.int .i64 0, .int .i64 0, .int .i64 0] [(0, 1), (1, 1), (2, 1)] := ⟨⟨_, by rw [PP_def]; exact Tryd.underlying26, fun w => by kernel_rfl⟩, fun w => ⟨.agg #[.int .i64 0, .int .i64 0, .int .i64 0], by kernel_rfl, by kernel_rfl⟩⟩
instance : TField PP 26 0 0 := ⟨fun b o w => by kernel_rfl⟩
instance : TPart PP 26 0 false 0 1 := part_lemma (ft := 24) (by rw [PP_def]; exact Tryd.underlying26) rfl rfl rfl
instance : TField PP 26 1 1 := ⟨fun b o w => by kernel_rfl⟩
instance : TPart PP 26 1 false 1 1 := part_lemma (ft := 24) (by rw [PP_def]; exact Tryd.underlying26) rfl rfl rfl
instance : TField PP 26 2 2 := ⟨fun b o w => by kernel_rfl⟩
instance : TPart PP 26 2 false 2 1 := part_lemma (ft := 3) (by rw [PP_def]; exact Tryd.underlying26) rfl rfl rfl
instance : TShape PP 27 true 4 := ⟨fun w => by kernel_rfl, fun w => by kernel_rfl⟩
instance : TInfo PP 27 32 := ⟨fun w => ⟨Tryd.t27, by rw [PP_def]; exact Tryd.typeInfo27 w, rfl⟩⟩
instance : TZero PP 27 [.int .i64 0, .int .i64 0, .int .i64 0, .int .i64 0] := ⟨fun w => ⟨.agg #[.int .i64 0, .int .i64 0, .int .i64 0, .int .i64 0], by kernel_rfl, by kernel_rfl⟩⟩
instance : TZeroV PP 27 (.agg #[.int .i64 0, .int .i64 0, .int .i64 0, .int .i64 0]) := ⟨fun w => by kernel_rfl⟩
instance : TStruct PP 27 [.int .i64 0, .int .i64 0, .int .i64 0, .int .i64 0] [(0, 3), (3, 1)] := ⟨⟨_, by rw [PP_def]; exact Tryd.underlying27, fun w => by kernel_rfl⟩, fun w => ⟨.agg #[.int .i64 0, .int .i64 0, .int .i64 0, .int .i64 0], by kernel_rfl, by kernel_rfl⟩⟩
instance : TField PP 27 0 0 := ⟨fun b o w => by kernel_rfl⟩
instance : TPart PP 27 0 true 0 3 := part_lemma (ft := 26) (by rw [PP_def]; exact Tryd.underlying27) rfl rfl rfl
instance : TField PP 27 1 3 := ⟨fun b o w => by kernel_rfl⟩
instance : TPart PP 27 1 false 3 1 := part_lemma (ft := 24) (by rw [PP_def]; exact Tryd.underlying27) rfl rfl rfl
instance : TShape PP 28 true 4 := ⟨fun w => by kernel_rfl, fun w => by kernel_rfl⟩
instance : TInfo PP 28 32 := ⟨fun w => ⟨Tryd.t28, by rw [PP_def]; exact Tryd.typeInfo28 w, rfl⟩⟩
instance : TZero PP 28 [.int .i64 0, .int .i64 0, .int .i64 0, .int .i64 0] := ⟨fun w => ⟨.agg #[.int .i64 0, .int .i64 0, .int .i64 0, .int .i64 0], by kernel_rfl, by kernel_rfl⟩⟩
instance : TZeroV PP 28 (.agg #[.int .i64 0, .int .i64 0, .int .i64 0, .int .i64 0]) := ⟨fun w => by kernel_rfl⟩
instance : TStruct PP 28 [.int .i64 0, .int .i64 0, .int .i64 0, .int .i64 0] [(0, 3), (3, 1)] := ⟨⟨_, by rw [PP_def]; exact Tryd.underlying28, fun w => by kernel_rfl⟩, fun w => ⟨.agg #[.int .i64 0, .int .i64 0, .int .i64 0, .int .i64 0], by kernel_rfl, by kernel_rfl⟩⟩
instance : TField PP 28 0 0 := ⟨fun b o w => by kernel_rfl⟩
instance : TPart PP 28 0 true 0 3 := part_lemma (ft := 26) (by rw [PP_def]; exact Tryd.underlying28) rfl rfl rfl
instance : TField PP 28 1 3 := ⟨fun b o w => by kernel_rfl⟩
instance : TPart PP 28 1 false 3 1 := part_lemma (ft := 24) (by rw [PP_def]; exact Tryd.underlying28) rfl rfl rfl
instance : TShape PP 29 true 1 := ⟨fun w => by kernel_rfl, fun w => by kernel_rfl⟩
instance : TInfo PP 29 24 := ⟨fun w => ⟨Tryd.t29, by rw [PP_def]; exact Tryd.typeInfo29 w, rfl⟩⟩
instance : TZero PP 29 [.slice none 0 0] := ⟨fun w => ⟨.agg #[.slice none 0 0], by kernel_rfl, by kernel_rfl⟩⟩
instance : TZeroV PP 29 (.agg #[.slice none 0 0]) := ⟨fun w => by kernel_rfl⟩
instance : TStruct PP 29 [.slice none 0 0] [(0, 1)] := ⟨⟨_, by rw [PP_def]; exact Tryd.underlying29, fun w => by kernel_rfl⟩, fun w => ⟨.agg #[.slice none 0 0], by kernel_rfl, by kernel_rfl⟩⟩
instance : TField PP 29 0 0 := ⟨fun b o w => by kernel_rfl⟩
instance : TPart PP 29 0 false 0 1 := part_lemma (ft := 22) (by rw [PP_def]; exact Tryd.underlying29) rfl rfl rfl
instance : TShape PP 30 true 1 := ⟨fun w => by kernel_rfl, fun w => by kernel_rfl⟩
instance : TInfo PP 30 24 := ⟨fun w => ⟨Tryd.t30, by rw [PP_def]; exact Tryd.typeInfo30 w, rfl⟩⟩
instance : TZero PP 30 [.slice none 0 0] := ⟨fun w => ⟨.agg #[.slice none 0 0], by kernel_rfl, by kernel_rfl⟩⟩
instance : TZeroV PP 30 (.agg #[.slice none 0 0]) := ⟨fun w => by kernel_rfl⟩
instance : TStruct PP 30 [.slice none 0 0] [(0, 1)] := ⟨⟨_, by rw [PP_def]; exact Tryd.underlying30, fun w => by kernel_rfl⟩, fun w => ⟨.agg #[.slice none 0 0], by kernel_rfl, by kernel_rfl⟩⟩
instance : TField PP 30 0 0 := ⟨fun b o w => by kernel_rfl⟩
instance : TPart PP 30 0 false 0 1 := part_lemma (ft := 22) (by rw [PP_def]; exact Tryd.underlying30) rfl rfl rfl
instance : TShape PP 32 false 1 := ⟨fun w => by kernel_rfl, fun w => by kernel_rfl⟩
instance : TInfo PP 32 8 := ⟨fun w => ⟨Tryd.t32, by rw [PP_def]; exact Tryd.typeInfo32 w, rfl⟩⟩
instance : TZero PP 32 [.nilFunc] := ⟨fun w => ⟨.nilFunc, by kernel_rfl, by kernel_rfl⟩⟩
instance : TZeroV PP 32 (.nilFunc) := ⟨fun w => by kernel_rfl⟩
instance : TShape PP 33 false 1 := ⟨fun w => by kernel_rfl, fun w => by kernel_rfl⟩
instance : TInfo PP 33 8 := ⟨fun w => ⟨Tryd.t33, by rw [PP_def]; exact Tryd.typeInfo33 w, rfl⟩⟩
instance : TZero PP 33 [.pointer none] := ⟨fun w => ⟨.pointer none, by kernel_rfl, by kernel_rfl⟩⟩
instance : TZeroV PP 33 (.pointer none) := ⟨fun w => by kernel_rfl⟩
instance : TUnd PP 33 (.pointer 71) := ⟨by kernel_rfl⟩
instance : TShape PP 34 false 1 := ⟨fun w => by kernel_rfl, fun w => by kernel_rfl⟩
instance : TInfo PP 34 8 := ⟨fun w => ⟨Tryd.t34, by rw [PP_def]; exact Tryd.typeInfo34 w, rfl⟩⟩
instance : TZero PP 34 [.nilFunc] := ⟨fun w => ⟨.nilFunc, by kernel_rfl, by kernel_rfl⟩⟩
instance : TZeroV PP 34 (.nilFunc) := ⟨fun w => by kernel_rfl⟩
instance : TShape PP 35 false 1 := ⟨fun w => by kernel_rfl, fun w => by kernel_rfl⟩
instance : TInfo PP 35 8 := ⟨fun w => ⟨Tryd.t35, by rw [PP_def]; exact Tryd.typeInfo35 w, rfl⟩⟩
instance : TZero PP 35 [.map none] := ⟨fun w => ⟨.map none, by kernel_rfl, by kernel_rfl⟩⟩
instance : TZeroV PP 35 (.map none) := ⟨fun w => by kernel_rfl⟩
instance : TUnd PP 35 (.map 24 64) := ⟨by kernel_rfl⟩
instance : TShape PP 36 false 1 := ⟨fun w => by kernel_rfl, fun w => by kernel_rfl⟩
instance : TInfo PP 36 8 := ⟨fun w => ⟨Tryd.t36, by rw [PP_def]; exact Tryd.typeInfo36 w, rfl⟩⟩
instance : TZero PP 36 [.nilFunc] := ⟨fun w => ⟨.nilFunc, by kernel_rfl, by kernel_rfl⟩⟩
instance : TZeroV PP 36 (.nilFunc) := ⟨fun w => by kernel_rfl⟩
instance : TShape PP 37 false 1 := ⟨fun w => by kernel_rfl, fun w => by kernel_rfl⟩
instance : TInfo PP 37 8 := ⟨fun w => ⟨Tryd.t37, by rw [PP_def]; exact Tryd.typeInfo37 w, rfl⟩⟩
instance : TZero PP 37 [.int .i64 0] := ⟨fun w => ⟨.int .i64 0, by kernel_rfl, by kernel_rfl⟩⟩
instance : TZeroV PP 37 (.int .i64 0) := ⟨fun w => by kernel_rfl⟩
instance : TUnd PP 37 (.int (.i64)) := ⟨by kernel_rfl⟩
instance : TShape PP 39 false 1 := ⟨fun w => by kernel_rfl, fun w => by kernel_rfl⟩
instance : TInfo PP 39 8 := ⟨fun w => ⟨Tryd.t39, by rw [PP_def]; exact Tryd.typeInfo39 w, rfl⟩⟩
instance : TZero PP 39 [.nilFunc] := ⟨fun w => ⟨.nilFunc, by kernel_rfl, by kernel_rfl⟩⟩
instance : TZeroV PP 39 (.nilFunc) := ⟨fun w => by kernel_rfl⟩
instance : TShape PP 40 false 1 := ⟨fun w => by kernel_rfl, fun w => by kernel_rfl⟩
instance : TInfo PP 40 8 := ⟨fun w => ⟨Tryd.t40, by rw [PP_def]; exact Tryd.typeInfo40 w, rfl⟩⟩
instance : TZero PP 40 [.nilFunc] := ⟨fun w => ⟨.nilFunc, by kernel_rfl, by kernel_rfl⟩⟩
instance : TZeroV PP 40 (.nilFunc) := ⟨fun w => by kernel_rfl⟩
instance : TShape PP 41 false 1 := ⟨fun w => by kernel_rfl, fun w => by kernel_rfl⟩
instance : TInfo PP 41 8 := ⟨fun w => ⟨Tryd.t41, by rw [PP_def]; exact Tryd.typeInfo41 w, rfl⟩⟩
instance : TZero PP 41 [.nilFunc] := ⟨fun w => ⟨.nilFunc, by kernel_rfl, by kernel_rfl⟩⟩
instance : TZeroV PP 41 (.nilFunc) := ⟨fun w => by kernel_rfl⟩
instance : TShape PP 42 false 1 := ⟨fun w => by kernel_rfl, fun w => by kernel_rfl⟩
instance : TInfo PP 42 8 := ⟨fun w => ⟨Tryd.t42, by rw [PP_def]; exact Tryd.typeInfo42 w, rfl⟩⟩
instance : TZero PP 42 [.nilFunc] := ⟨fun w => ⟨.nilFunc, by kernel_rfl, by kernel_rfl⟩⟩
instance : TZeroV PP 42 (.nilFunc) := ⟨fun w => by kernel_rfl⟩
instance : TShape PP 43 false 1 := ⟨fun w => by kernel_rfl, fun w => by kernel_rfl⟩
instance : TInfo PP 43 8 := ⟨fun w => ⟨Tryd.t43, by rw [PP_def]; exact Tryd.typeInfo43 w, rfl⟩⟩
instance : TZero PP 43 [.nilFunc] := ⟨fun w => ⟨.nilFunc, by kernel_rfl, by kernel_rfl⟩⟩
instance : TZeroV PP 43 (.nilFunc) := ⟨fun w => by kernel_rfl⟩
instance : TShape PP 44 false 1 := ⟨fun w => by kernel_rfl, fun w => by kernel_rfl⟩
instance : TInfo PP 44 24 := ⟨fun w => ⟨Tryd.t44, by rw [PP_def]; exact Tryd.typeInfo44 w, rfl⟩⟩
instance : TZero PP 44 [.slice none 0 0] := ⟨fun w => ⟨.slice none 0 0, by kernel_rfl, by kernel_rfl⟩⟩
instance : TZeroV PP 44 (.slice none 0 0) := ⟨fun w => by kernel_rfl⟩
instance : TUnd PP 44 (.slice 48) := ⟨by kernel_rfl⟩
instance : TShape PP 46 false 1 := ⟨fun w => by kernel_rfl, fun w => by kernel_rfl⟩
instance : TInfo PP 46 8 := ⟨fun w => ⟨Tryd.t46, by rw [PP_def]; exact Tryd.typeInfo46 w, rfl⟩⟩
instance : TZero PP 46 [.nilFunc] := ⟨fun w => ⟨.nilFunc, by kernel_rfl, by kernel_rfl⟩⟩
instance : TZeroV PP 46 (.nilFunc) := ⟨fun w => by kernel_rfl⟩
instance : TShape PP 47 true 4 := ⟨fun w => by kernel_rfl, fun w => by kernel_rfl⟩
instance : TInfo PP 47 32 := ⟨fun w => ⟨Tryd.t47, by rw [PP_def]; exact Tryd.typeInfo47 w, rfl⟩⟩
instance : TZero PP 47 [.int .u8 0, .int .i64 0, .int .i64 0, .int .i64 0] := ⟨fun w => ⟨.agg #[.int .u8 0, .int .i64 0, .int .i64 0, .int .i64 0], by kernel_rfl, by kernel_rfl⟩⟩
instance : TZeroV PP 47 (.agg #[.int .u8 0, .int .i64 0, .int .i64 0, .int .i64 0]) := ⟨fun w => by kernel_rfl⟩
instance : TStruct PP 47 [.int .u8 0, .int .i64 0, .int .i64 0, .int .i64 0] [(0, 1), (1, 1), (2, 1), (3, 1)] := ⟨⟨_, by rw [PP_def]; exact Tryd.underlying47, fun w => by kernel_rfl⟩, fun w => ⟨.agg #[.int .u8 0, .int .i64 0, .int .i64 0, .int .i64 0], by kernel_rfl, by kernel_rfl⟩⟩
instance : TField PP 47 0 0 := ⟨fun b o w => by kernel_rfl⟩
instance : TPart PP 47 0 false 0 1 := part_lemma (ft := 5) (by rw [PP_def]; exact Tryd.underlying47) rfl rfl rfl
instance : TField PP 47 1 1 := ⟨fun b o w => by kernel_rfl⟩
instance : TPart PP 47 1 false 1 1 := part_lemma (ft := 2) (by rw [PP_def]; exact Tryd.underlying47) rfl rfl rfl
instance : TField PP 47 2 2 := ⟨fun b o w => by kernel_rfl⟩
instance : TPart PP 47 2 false 2 1 := part_lemma (ft := 2) (by rw [PP_def]; exact Tryd.underlying47) rfl rfl rfl
instance : TField PP 47 3 3 := ⟨fun b o w => by kernel_rfl⟩
instance : TPart PP 47 3 false 3 1 := part_lemma (ft := 2) (by rw [PP_def]; exact Tryd.underlying47) rfl rfl rfl
instance : TShape PP 48 true 4 := ⟨fun w => by kernel_rfl, fun w => by kernel_rfl⟩
instance : TInfo PP 48 32 := ⟨fun w => ⟨Tryd.t48, by rw [PP_def]; exact Tryd.typeInfo48 w, rfl⟩⟩
instance : TZero PP 48 [.int .u8 0, .int .i64 0, .int .i64 0, .int .i64 0] := ⟨fun w => ⟨.agg #[.int .u8 0, .int .i64 0, .int .i64 0, .int .i64 0], by kernel_rfl, by kernel_rfl⟩⟩
instance : TZeroV PP 48 (.agg #[.int .u8 0, .int .i64 0, .int .i64 0, .int .i64 0]) := ⟨fun w => by kernel_rfl⟩
instance : TStruct PP 48 [.int .u8 0, .int .i64 0, .int .i64 0, .int .i64 0] [(0, 1), (1, 1), (2, 1), (3, 1)] := ⟨⟨_, by rw [PP_def]; exact Tryd.underlying48, fun w => by kernel_rfl⟩, fun w => ⟨.agg #[.int .u8 0, .int .i64 0, .int .i64 0, .int .i64 0], by kernel_rfl, by kernel_rfl⟩⟩
instance : TField PP 48 0 0 := ⟨fun b o w => by kernel_rfl⟩
instance : TPart PP 48 0 false 0 1 := part_lemma (ft := 5) (by rw [PP_def]; exact Tryd.underlying48) rfl rfl rfl
instance : TField PP 48 1 1 := ⟨fun b o w => by kernel_rfl⟩
instance : TPart PP 48 1 false 1 1 := part_lemma (ft := 2) (by rw [PP_def]; exact Tryd.underlying48) rfl rfl rfl
instance : TField PP 48 2 2 := ⟨fun b o w => by kernel_rfl⟩
instance : TPart PP 48 2 false 2 1 := part_lemma (ft := 2) (by rw [PP_def]; exact Tryd.underlying48) rfl rfl rfl
instance : TField PP 48 3 3 := ⟨fun b o w => by kernel_rfl⟩
instance : TPart PP 48 3 false 3 1 := part_lemma (ft := 2) (by rw [PP_def]; exact Tryd.underlying48) rfl rfl rfl
instance : TShape PP 49 false 1 := ⟨fun w => by kernel_rfl, fun w => by kernel_rfl⟩
instance : TInfo PP 49 8 := ⟨fun w => ⟨Tryd.t49, by rw [PP_def]; exact Tryd.typeInfo49 w, rfl⟩⟩
instance : TZero PP 49 [.nilFunc] := ⟨fun w => ⟨.nilFunc, by kernel_rfl, by kernel_rfl⟩⟩
instance : TZeroV PP 49 (.nilFunc) := ⟨fun w => by kernel_rfl⟩
instance : TShape PP 50 false 1 := ⟨fun w => by kernel_rfl, fun w => by kernel_rfl⟩
instance : TInfo PP 50 8 := ⟨fun w => ⟨Tryd.t50, by rw [PP_def]; exact Tryd.typeInfo50 w, rfl⟩⟩
instance : TZero PP 50 [.nilFunc] := ⟨fun w => ⟨.nilFunc, by kernel_rfl, by kernel_rfl⟩⟩
instance : TZeroV PP 50 (.nilFunc) := ⟨fun w => by kernel_rfl⟩
instance : TShape PP 51 true 2 := ⟨fun w => by kernel_rfl, fun w => by kernel_rfl⟩
instance : TInfo PP 51 2 := ⟨fun w => ⟨Tryd.t51, by rw [PP_def]; exact Tryd.typeInfo51 w, rfl⟩⟩
instance : TZero PP 51 [.int .u8 0, .int .u8 0] := ⟨fun w => ⟨.agg #[.int .u8 0, .int .u8 0], by kernel_rfl, by kernel_rfl⟩⟩
instance : TZeroV PP 51 (.agg #[.int .u8 0, .int .u8 0]) := ⟨fun w => by kernel_rfl⟩
instance : TUnd PP 51 (.array 2 5) := ⟨by kernel_rfl⟩
instance : TShape PP 52 false 1 := ⟨fun w => by kernel_rfl, fun w => by kernel_rfl⟩
instance : TInfo PP 52 8 := ⟨fun w => ⟨Tryd.t52, by rw [PP_def]; exact Tryd.typeInfo52 w, rfl⟩⟩
instance : TZero PP 52 [.nilFunc] := ⟨fun w => ⟨.nilFunc, by kernel_rfl, by kernel_rfl⟩⟩
instance : TZeroV PP 52 (.nilFunc) := ⟨fun w => by kernel_rfl⟩
instance : TShape PP 54 false 1 := ⟨fun w => by kernel_rfl, fun w => by kernel_rfl⟩
instance : TInfo PP 54 8 := ⟨fun w => ⟨Tryd.t54, by rw [PP_def]; exact Tryd.typeInfo54 w, rfl⟩⟩
instance : TZero PP 54 [.nilFunc] := ⟨fun w => ⟨.nilFunc, by kernel_rfl, by kernel_rfl⟩⟩
instance : TZeroV PP 54 (.nilFunc) := ⟨fun w => by kernel_rfl⟩
instance : TShape PP 55 false 1 := ⟨fun w => by kernel_rfl, fun w => by kernel_rfl⟩
instance : TInfo PP 55 8 := ⟨fun w => ⟨Tryd.t55, by rw [PP_def]; exact Tryd.typeInfo55 w, rfl⟩⟩
instance : TZero PP 55 [.nilFunc] := ⟨fun w => ⟨.nilFunc, by kernel_rfl, by kernel_rfl⟩⟩
instance : TZeroV PP 55 (.nilFunc) := ⟨fun w => by kernel_rfl⟩
instance : TShape PP 56 false 1 := ⟨fun w => by kernel_rfl, fun w => by kernel_rfl⟩
instance : TInfo PP 56 8 := ⟨fun w => ⟨Tryd.t56, by rw [PP_def]; exact Tryd.typeInfo56 w, rfl⟩⟩
instance : TZero PP 56 [.nilFunc] := ⟨fun w => ⟨.nilFunc, by kernel_rfl, by kernel_rfl⟩⟩
instance : TZeroV PP 56 (.nilFunc) := ⟨fun w => by kernel_rfl⟩
instance : TShape PP 57 false 1 := ⟨fun w => by kernel_rfl, fun w => by kernel_rfl⟩
instance : TInfo PP 57 8 := ⟨fun w => ⟨Tryd.t57, by rw [PP_def]; exact Tryd.typeInfo57 w, rfl⟩⟩
instance : TZero PP 57 [.nilFunc] := ⟨fun w => ⟨.nilFunc, by kernel_rfl, by kernel_rfl⟩⟩
instance : TZeroV PP 57 (.nilFunc) := ⟨fun w => by kernel_rfl⟩
instance : TShape PP 58 false 1 := ⟨fun w => by kernel_rfl, fun w => by kernel_rfl⟩
instance : TInfo PP 58 8 := ⟨fun w => ⟨Tryd.t58, by rw [PP_def]; exact Tryd.typeInfo58 w, rfl⟩⟩
instance : TZero PP 58 [.nilFunc] := ⟨fun w => ⟨.nilFunc, by kernel_rfl, by kernel_rfl⟩⟩
instance : TZeroV PP 58 (.nilFunc) := ⟨fun w => by kernel_rfl⟩
instance : TShape PP 59 false 1 := ⟨fun w => by kernel_rfl, fun w => by kernel_rfl⟩
instance : TInfo PP 59 24 := ⟨fun w => ⟨Tryd.t59, by rw [PP_def]; exact Tryd.typeInfo59 w, rfl⟩⟩
instance : TZero PP 59 [.slice none 0 0] := ⟨fun w => ⟨.slice none 0 0, by kernel_rfl, by kernel_rfl⟩⟩
instance : TZeroV PP 59 (.slice none 0 0) := ⟨fun w => by kernel_rfl⟩
instance : TUnd PP 59 (.slice 66) := ⟨by kernel_rfl⟩
instance : TShape PP 61 false 1 := ⟨fun w => by kernel_rfl, fun w => by kernel_rfl⟩
instance : TInfo PP 61 8 := ⟨fun w => ⟨Tryd.t61, by rw [PP_def]; exact Tryd.typeInfo61 w, rfl⟩⟩
instance : TZero PP 61 [.nilFunc] := ⟨fun w => ⟨.nilFunc, by kernel_rfl, by kernel_rfl⟩⟩
instance : TZeroV PP 61 (.nilFunc) := ⟨fun w => by kernel_rfl⟩
instance : TShape PP 62 false 1 := ⟨fun w => by kernel_rfl, fun w => by kernel_rfl⟩
instance : TInfo PP 62 4 := ⟨fun w => ⟨Tryd.t62, by rw [PP_def]; exact Tryd.typeInfo62 w, rfl⟩⟩
instance : TZero PP 62 [.int .u32 0] := ⟨fun w => ⟨.int .u32 0, by kernel_rfl, by kernel_rfl⟩⟩
instance : TZeroV PP 62 (.int .u32 0) := ⟨fun w => by kernel_rfl⟩
instance : TUnd PP 62 (.int (.u32)) := ⟨by kernel_rfl⟩
instance : TShape PP 63 true 3 := ⟨fun w => by kernel_rfl, fun w => by kernel_rfl⟩
instance : TInfo PP 63 16 := ⟨fun w => ⟨Tryd.t63, by rw [PP_def]; exact Tryd.typeInfo63 w, rfl⟩⟩
instance : TZero PP 63 [.int .i64 0, .int .u32 0, .int .u32 0] := ⟨fun w => ⟨.agg #[.int .i64 0, .int .u32 0, .int .u32 0], by kernel_rfl, by kernel_rfl⟩⟩
instance : TZeroV PP 63 (.agg #[.int .i64 0, .int .u32 0, .int .u32 0]) := ⟨fun w => by kernel_rfl⟩
instance : TStruct PP 63 [.int .i64 0, .int .u32 0, .int .u32 0] [(0, 1), (1, 1), (2, 1)] := ⟨⟨_, by rw [PP_def]; exact Tryd.underlying63, fun w => by kernel_rfl⟩, fun w => ⟨.agg #[.int .i64 0, .int .u32 0, .int .u32 0], by kernel_rfl, by kernel_rfl⟩⟩
instance : TField PP 63 0 0 := ⟨fun b o w => by kernel_rfl⟩
instance : TPart PP 63 0 false 0 1 := part_lemma (ft := 2) (by rw [PP_def]; exact Tryd.underlying63) rfl rfl rfl
instance : TField PP 63 1 1 := ⟨fun b o w => by kernel_rfl⟩
instance : TPart PP 63 1 false 1 1 := part_lemma (ft := 62) (by rw [PP_def]; exact Tryd.underlying63) rfl rfl rfl
instance : TField PP 63 2 2 := ⟨fun b o w => by kernel_rfl⟩
instance : TPart PP 63 2 false 2 1 := part_lemma (ft := 62) (by rw [PP_def]; exact Tryd.underlying63) rfl rfl rfl
instance : TShape PP 64 true 3 := ⟨fun w => by kernel_rfl, fun w => by kernel_rfl⟩
instance : TInfo PP 64 16 := ⟨fun w => ⟨Tryd.t64, by rw [PP_def]; exact Tryd.typeInfo64 w, rfl⟩⟩
instance : TZero PP 64 [.int .i64 0, .int .u32 0, .int .u32 0] := ⟨fun w => ⟨.agg #[.int .i64 0, .int .u32 0, .int .u32 0], by kernel_rfl, by kernel_rfl⟩⟩
instance : TZeroV PP 64 (.agg #[.int .i64 0, .int .u32 0, .int .u32 0]) := ⟨fun w => by kernel_rfl⟩
instance : TStruct PP 64 [.int .i64 0, .int .u32 0, .int .u32 0] [(0, 1), (1, 1), (2, 1)] := ⟨⟨_, by rw [PP_def]; exact Tryd.underlying64, fun w => by kernel_rfl⟩, fun w => ⟨.agg #[.int .i64 0, .int .u32 0, .int .u32 0], by kernel_rfl, by kernel_rfl⟩⟩
instance : TField PP 64 0 0 := ⟨fun b o w => by kernel_rfl⟩
instance : TPart PP 64 0 false 0 1 := part_lemma (ft := 2) (by rw [PP_def]; exact Tryd.underlying64) rfl rfl rfl
instance : TField PP 64 1 1 := ⟨fun b o w => by kernel_rfl⟩
instance : TPart PP 64 1 false 1 1 := part_lemma (ft := 62) (by rw [PP_def]; exact Tryd.underlying64) rfl rfl rfl
instance : TField PP 64 2 2 := ⟨fun b o w => by kernel_rfl⟩
instance : TPart PP 64 2 false 2 1 := part_lemma (ft := 62) (by rw [PP_def]; exact Tryd.underlying64) rfl rfl rfl
instance : TShape PP 65 true 6 := ⟨fun w => by kernel_rfl, fun w => by kernel_rfl⟩
instance : TInfo PP 65 40 := ⟨fun w => ⟨Tryd.t65, by rw [PP_def]; exact Tryd.typeInfo65 w, rfl⟩⟩
instance : TZero PP 65 [.int .i64 0, .int .i64 0, .int .u32 0, .int .u32 0, .int .i64 0, .bool false] := ⟨fun w => ⟨.agg #[.int .i64 0, .int .i64 0, .int .u32 0, .int .u32 0, .int .i64 0, .bool false], by kernel_rfl, by kernel_rfl⟩⟩
instance : TZeroV PP 65 (.agg #[.int .i64 0, .int .i64 0, .int .u32 0, .int .u32 0, .int .i64 0, .bool false]) := ⟨fun w => by kernel_rfl⟩
instance : TStruct PP 65 [.int .i64 0, .int .i64 0, .int .u32 0, .int .u32 0, .int .i64 0, .bool false] [(0, 1), (1, 3), (4, 1), (5, 1)] := ⟨⟨_, by rw [PP_def]; exact Tryd.underlying65, fun w => by kernel_rfl⟩, fun w => ⟨.agg #[.int .i64 0, .int .i64 0, .int .u32 0, .int .u32 0, .int .i64 0, .bool false], by kernel_rfl, by kernel_rfl⟩⟩
instance : TField PP 65 0 0 := ⟨fun b o w => by kernel_rfl⟩
instance : TPart PP 65 0 false 0 1 := part_lemma (ft := 24) (by rw [PP_def]; exact Tryd.underlying65) rfl rfl rfl
instance : TField PP 65 1 1 := ⟨fun b o w => by kernel_rfl⟩
instance : TPart PP 65 1 true 1 3 := part_lemma (ft := 64) (by rw [PP_def]; exact Tryd.underlying65) rfl rfl rfl
instance : TField PP 65 2 4 := ⟨fun b o w => by kernel_rfl⟩
instance : TPart PP 65 2 false 4 1 := part_lemma (ft := 2) (by rw [PP_def]; exact Tryd.underlying65) rfl rfl rfl
instance : TField PP 65 3 5 := ⟨fun b o w => by kernel_rfl⟩
instance : TPart PP 65 3 false 5 1 := part_lemma (ft := 4) (by rw [PP_def]; exact Tryd.underlying65) rfl rfl rfl
instance : TShape PP 66 true 6 := ⟨fun w => by kernel_rfl, fun w => by kernel_rfl⟩
instance : TInfo PP 66 40 := ⟨fun w => ⟨Tryd.t66, by rw [PP_def]; exact Tryd.typeInfo66 w, rfl⟩⟩
instance : TZero PP 66 [.int .i64 0, .int .i64 0, .int .u32 0, .int .u32 0, .int .i64 0, .bool false] := ⟨fun w => ⟨.agg #[.int .i64 0, .int .i64 0, .int .u32 0, .int .u32 0, .int .i64 0, .bool false], by kernel_rfl, by kernel_rfl⟩⟩
instance : TZeroV PP 66 (.agg #[.int .i64 0, .int .i64 0, .int .u32 0, .int .u32 0, .int .i64 0, .bool false]) := ⟨fun w => by kernel_rfl⟩
instance : TStruct PP 66 [.int .i64 0, .int .i64 0, .int .u32 0, .int .u32 0, .int .i64 0, .bool false] [(0, 1), (1, 3), (4, 1), (5, 1)] := ⟨⟨_, by rw [PP_def]; exact Tryd.underlying66, fun w => by kernel_rfl⟩, fun w => ⟨.agg #[.int .i64 0, .int .i64 0, .int .u32 0, .int .u32 0, .int .i64 0, .bool false], by kernel_rfl, by kernel_rfl⟩⟩
instance : TField PP 66 0 0 := ⟨fun b o w => by kernel_rfl⟩
instance : TPart PP 66 0 false 0 1 := part_lemma (ft := 24) (by rw [PP_def]; exact Tryd.underlying66) rfl rfl rfl
instance : TField PP 66 1 1 := ⟨fun b o w => by kernel_rfl⟩
instance : TPart PP 66 1 true 1 3 := part_lemma (ft := 64) (by rw [PP_def]; exact Tryd.underlying66) rfl rfl rfl
instance : TField PP 66 2 4 := ⟨fun b o w => by kernel_rfl⟩
instance : TPart PP 66 2 false 4 1 := part_lemma (ft := 2) (by rw [PP_def]; exact Tryd.underlying66) rfl rfl rfl
instance : TField PP 66 3 5 := ⟨fun b o w => by kernel_rfl⟩
instance : TPart PP 66 3 false 5 1 := part_lemma (ft := 4) (by rw [PP_def]; exact Tryd.underlying66) rfl rfl rfl
instance : TShape PP 67 false 1 := ⟨fun w => by kernel_rfl, fun w => by kernel_rfl⟩
instance : TInfo PP 67 8 := ⟨fun w => ⟨Tryd.t67, by rw [PP_def]; exact Tryd.typeInfo67 w, rfl⟩⟩
instance : TZero PP 67 [.nilFunc] := ⟨fun w => ⟨.nilFunc, by kernel_rfl, by kernel_rfl⟩⟩
instance : TZeroV PP 67 (.nilFunc) := ⟨fun w => by kernel_rfl⟩
instance : TShape PP 68 false 1 := ⟨fun w => by kernel_rfl, fun w => by kernel_rfl⟩
instance : TInfo PP 68 8 := ⟨fun w => ⟨Tryd.t68, by rw [PP_def]; exact Tryd.typeInfo68 w, rfl⟩⟩
instance : TZero PP 68 [.map none] := ⟨fun w => ⟨.map none, by kernel_rfl, by kernel_rfl⟩⟩
instance : TZeroV PP 68 (.map none) := ⟨fun w => by kernel_rfl⟩
instance : TUnd PP 68 (.map 24 4) := ⟨by kernel_rfl⟩
instance : TShape PP 69 false 1 := ⟨fun w => by kernel_rfl, fun w => by kernel_rfl⟩
instance : TInfo PP 69 24 := ⟨fun w => ⟨Tryd.t69, by rw [PP_def]; exact Tryd.typeInfo69 w, rfl⟩⟩
instance : TZero PP 69 [.slice none 0 0] := ⟨fun w => ⟨.slice none 0 0, by kernel_rfl, by kernel_rfl⟩⟩
instance : TZeroV PP 69 (.slice none 0 0) := ⟨fun w => by kernel_rfl⟩
instance : TUnd PP 69 (.slice 103) := ⟨by kernel_rfl⟩
instance : TShape PP 70 true 5 := ⟨fun w => by kernel_rfl, fun w => by kernel_rfl⟩
instance : TInfo PP 70 56 := ⟨fun w => ⟨Tryd.t70, by rw [PP_def]; exact Tryd.typeInfo70 w, rfl⟩⟩
instance : TZero PP 70 [.map none, .map none, .slice none 0 0, .int .i64 0, .bool false] := ⟨fun w => ⟨.agg #[.map none, .map none, .slice none 0 0, .int .i64 0, .bool false], by kernel_rfl, by kernel_rfl⟩⟩
instance : TZeroV PP 70 (.agg #[.map none, .map none, .slice none 0 0, .int .i64 0, .bool false]) := ⟨fun w => by kernel_rfl⟩
instance : TStruct PP 70 [.map none, .map none, .slice none 0 0, .int .i64 0, .bool false] [(0, 1), (1, 1), (2, 1), (3, 1), (4, 1)] := ⟨⟨_, by rw [PP_def]; exact Tryd.underlying70, fun w => by kernel_rfl⟩, fun w => ⟨.agg #[.map none, .map none, .slice none 0 0, .int .i64 0, .bool false], by kernel_rfl, by kernel_rfl⟩⟩
instance : TField PP 70 0 0 := ⟨fun b o w => by kernel_rfl⟩
instance : TPart PP 70 0 false 0 1 := part_lemma (ft := 35) (by rw [PP_def]; exact Tryd.underlying70) rfl rfl rfl
instance : TField PP 70 1 1 := ⟨fun b o w => by kernel_rfl⟩
instance : TPart PP 70 1 false 1 1 := part_lemma (ft := 68) (by rw [PP_def]; exact Tryd.underlying70) rfl rfl rfl
instance : TField PP 70 2 2 := ⟨fun b o w => by kernel_rfl⟩
instance : TPart PP 70 2 false 2 1 := part_lemma (ft := 69) (by rw [PP_def]; exact Tryd.underlying70) rfl rfl rfl
instance : TField PP 70 3 3 := ⟨fun b o w => by kernel_rfl⟩
instance : TPart PP 70 3 false 3 1 := part_lemma (ft := 24) (by rw [PP_def]; exact Tryd.underlying70) rfl rfl rfl
instance : TField PP 70 4 4 := ⟨fun b o w => by kernel_rfl⟩
instance : TPart PP 70 4 false 4 1 := part_lemma (ft := 4) (by rw [PP_def]; exact Tryd.underlying70) rfl rfl rfl
instance : TShape PP 71 true 5 := ⟨fun w => by kernel_rfl, fun w => by kernel_rfl⟩
instance : TInfo PP 71 56 := ⟨fun w => ⟨Tryd.t71, by rw [PP_def]; exact Tryd.typeInfo71 w, rfl⟩⟩
instance : TZero PP 71 [.map none, .map none, .slice none 0 0, .int .i64 0, .bool false] := ⟨fun w => ⟨.agg #[.map none, .map none, .slice none 0 0, .int .i64 0, .bool false], by kernel_rfl, by kernel_rfl⟩⟩
instance : TZeroV PP 71 (.agg #[.map none, .map none, .slice none 0 0, .int .i64 0, .bool false]) := ⟨fun w => by kernel_rfl⟩
instance : TStruct PP 71 [.map none, .map none, .slice none 0 0, .int .i64 0, .bool false] [(0, 1), (1, 1), (2, 1), (3, 1), (4, 1)] := ⟨⟨_, by rw [PP_def]; exact Tryd.underlying71, fun w => by kernel_rfl⟩, fun w => ⟨.agg #[.map none, .map none, .slice none 0 0, .int .i64 0, .bool false], by kernel_rfl, by kernel_rfl⟩⟩
instance : TField PP 71 0 0 := ⟨fun b o w => by kernel_rfl⟩
instance : TPart PP 71 0 false 0 1 := part_lemma (ft := 35) (by rw [PP_def]; exact Tryd.underlying71) rfl rfl rfl
instance : TField PP 71 1 1 := ⟨fun b o w => by kernel_rfl⟩
instance : TPart PP 71 1 false 1 1 := part_lemma (ft := 68) (by rw [PP_def]; exact Tryd.underlying71) rfl rfl rfl
instance : TField PP 71 2 2 := ⟨fun b o w => by kernel_rfl⟩
instance : TPart PP 71 2 false 2 1 := part_lemma (ft := 69) (by rw [PP_def]; exact Tryd.underlying71) rfl rfl rfl
instance : TField PP 71 3 3 := ⟨fun b o w => by kernel_rfl⟩
instance : TPart PP 71 3 false 3 1 := part_lemma (ft := 24) (by rw [PP_def]; exact Tryd.underlying71) rfl rfl rfl
instance : TField PP 71 4 4 := ⟨fun b o w => by kernel_rfl⟩
instance : TPart PP 71 4 false 4 1 := part_lemma (ft := 4) (by rw [PP_def]; exact Tryd.underlying71) rfl rfl rfl
instance : TShape PP 73 false 1 := ⟨fun w => by kernel_rfl, fun w => by kernel_rfl⟩
instance : TInfo PP 73 8 := ⟨fun w => ⟨Tryd.t73, by rw [PP_def]; exact Tryd.typeInfo73 w, rfl⟩⟩
instance : TZero PP 73 [.nilFunc] := ⟨fun w => ⟨.nilFunc, by kernel_rfl, by kernel_rfl⟩⟩
instance : TZeroV PP 73 (.nilFunc) := ⟨fun w => by kernel_rfl⟩
instance : TShape PP 74 true 5 := ⟨fun w => by kernel_rfl, fun w => by kernel_rfl⟩
instance : TInfo PP 74 40 := ⟨fun w => ⟨Tryd.t74, by rw [PP_def]; exact Tryd.typeInfo74 w, rfl⟩⟩
instance : TZero PP 74 [.int .i64 0, .int .i64 0, .int .i64 0, .int .i64 0, .int .i64 0] := ⟨fun w => ⟨.agg #[.int .i64 0, .int .i64 0, .int .i64 0, .int .i64 0, .int .i64 0], by kernel_rfl, by kernel_rfl⟩⟩
instance : TZeroV PP 74 (.agg #[.int .i64 0, .int .i64 0, .int .i64 0, .int .i64 0, .int .i64 0]) := ⟨fun w => by kernel_rfl⟩
instance : TUnd PP 74 (.array 5 2) := ⟨by kernel_rfl⟩
instance : TShape PP 75 false 1 := ⟨fun w => by kernel_rfl, fun w => by kernel_rfl⟩
instance : TInfo PP 75 8 := ⟨fun w => ⟨Tryd.t75, by rw [PP_def]; exact Tryd.typeInfo75 w, rfl⟩⟩
instance : TZero PP 75 [.nilFunc] := ⟨fun w => ⟨.nilFunc, by kernel_rfl, by kernel_rfl⟩⟩
instance : TZeroV PP 75 (.nilFunc) := ⟨fun w => by kernel_rfl⟩
instance : TShape PP 76 false 1 := ⟨fun w => by kernel_rfl, fun w => by kernel_rfl⟩
instance : TInfo PP 76 8 := ⟨fun w => ⟨Tryd.t76, by rw [PP_def]; exact Tryd.typeInfo76 w, rfl⟩⟩
instance : TZero PP 76 [.nilFunc] := ⟨fun w => ⟨.nilFunc, by kernel_rfl, by kernel_rfl⟩⟩
instance : TZeroV PP 76 (.nilFunc) := ⟨fun w => by kernel_rfl⟩
instance : TShape PP 77 false 1 := ⟨fun w => by kernel_rfl, fun w => by kernel_rfl⟩
instance : TInfo PP 77 8 := ⟨fun w => ⟨Tryd.t77, by rw [PP_def]; exact Tryd.typeInfo77 w, rfl⟩⟩
instance : TZero PP 77 [.pointer none] := ⟨fun w => ⟨.pointer none, by kernel_rfl, by kernel_rfl⟩⟩
instance : TZeroV PP 77 (.pointer none) := ⟨fun w => by kernel_rfl⟩
instance : TUnd PP 77 (.pointer 37) := ⟨by kernel_rfl⟩
instance : TShape PP 78 false 1 := ⟨fun w => by kernel_rfl, fun w => by kernel_rfl⟩
instance : TInfo PP 78 8 := ⟨fun w => ⟨Tryd.t78, by rw [PP_def]; exact Tryd.typeInfo78 w, rfl⟩⟩
instance : TZero PP 78 [.nilFunc] := ⟨fun w => ⟨.nilFunc, by kernel_rfl, by kernel_rfl⟩⟩
instance : TZeroV PP 78 (.nilFunc) := ⟨fun w => by kernel_rfl⟩
instance : TShape PP 79 false 1 := ⟨fun w => by kernel_rfl, fun w => by kernel_rfl⟩
instance : TInfo PP 79 8 := ⟨fun w => ⟨Tryd.t79, by rw [PP_def]; exact Tryd.typeInfo79 w, rfl⟩⟩
instance : TZero PP 79 [.nilFunc] := ⟨fun w => ⟨.nilFunc, by kernel_rfl, by kernel_rfl⟩⟩
instance : TZeroV PP 79 (.nilFunc) := ⟨fun w => by kernel_rfl⟩
instance : TShape PP 81 false 1 := ⟨fun w => by kernel_rfl, fun w => by kernel_rfl⟩
instance : TInfo PP 81 8 := ⟨fun w => ⟨Tryd.t81, by rw [PP_def]; exact Tryd.typeInfo81 w, rfl⟩⟩
instance : TZero PP 81 [.nilFunc] := ⟨fun w => ⟨.nilFunc, by kernel_rfl, by kernel_rfl⟩⟩
instance : TZeroV PP 81 (.nilFunc) := ⟨fun w => by kernel_rfl⟩
instance : TShape PP 83 false 1 := ⟨fun w => by kernel_rfl, fun w => by kernel_rfl⟩
instance : TInfo PP 83 8 := ⟨fun w => ⟨Tryd.t83, by rw [PP_def]; exact Tryd.typeInfo83 w, rfl⟩⟩
instance : TZero PP 83 [.nilFunc] := ⟨fun w => ⟨.nilFunc, by kernel_rfl, by kernel_rfl⟩⟩
instance : TZeroV PP 83 (.nilFunc) := ⟨fun w => by kernel_rfl⟩
instance : TShape PP 84 false 1 := ⟨fun w => by kernel_rfl, fun w => by kernel_rfl⟩
instance : TInfo PP 84 8 := ⟨fun w => ⟨Tryd.t84, by rw [PP_def]; exact Tryd.typeInfo84 w, rfl⟩⟩
instance : TZero PP 84 [.nilFunc] := ⟨fun w => ⟨.nilFunc, by kernel_rfl, by kernel_rfl⟩⟩
instance : TZeroV PP 84 (.nilFunc) := ⟨fun w => by kernel_rfl⟩
instance : TShape PP 85 false 1 := ⟨fun w => by kernel_rfl, fun w => by kernel_rfl⟩
instance : TInfo PP 85 8 := ⟨fun w => ⟨Tryd.t85, by rw [PP_def]; exact Tryd.typeInfo85 w, rfl⟩⟩
instance : TZero PP 85 [.nilFunc] := ⟨fun w => ⟨.nilFunc, by kernel_rfl, by kernel_rfl⟩⟩
instance : TZeroV PP 85 (.nilFunc) := ⟨fun w => by kernel_rfl⟩
instance : TShape PP 86 false 1 := ⟨fun w => by kernel_rfl, fun w => by kernel_rfl⟩
instance : TInfo PP 86 24 := ⟨fun w => ⟨Tryd.t86, by rw [PP_def]; exact Tryd.typeInfo86 w, rfl⟩⟩
instance : TZero PP 86 [.slice none 0 0] := ⟨fun w => ⟨.slice none 0 0, by kernel_rfl, by kernel_rfl⟩⟩
instance : TZeroV PP 86 (.slice none 0 0) := ⟨fun w => by kernel_rfl⟩
instance : TUnd PP 86 (.slice 24) := ⟨by kernel_rfl⟩
instance : TShape PP 88 false 1 := ⟨fun w => by kernel_rfl, fun w => by kernel_rfl⟩
instance : TInfo PP 88 8 := ⟨fun w => ⟨Tryd.t88, by rw [PP_def]; exact Tryd.typeInfo88 w, rfl⟩⟩
instance : TZero PP 88 [.nilFunc] := ⟨fun w => ⟨.nilFunc, by kernel_rfl, by kernel_rfl⟩⟩
instance : TZeroV PP 88 (.nilFunc) := ⟨fun w => by kernel_rfl⟩
instance : TShape PP 89 false 1 := ⟨fun w => by kernel_rfl, fun w => by kernel_rfl⟩
instance : TInfo PP 89 8 := ⟨fun w => ⟨Tryd.t89, by rw [PP_def]; exact Tryd.typeInfo89 w, rfl⟩⟩
instance : TZero PP 89 [.nilFunc] := ⟨fun w => ⟨.nilFunc, by kernel_rfl, by kernel_rfl⟩⟩
instance : TZeroV PP 89 (.nilFunc) := ⟨fun w => by kernel_rfl⟩
instance : TShape PP 90 false 1 := ⟨fun w => by kernel_rfl, fun w => by kernel_rfl⟩
instance : TInfo PP 90 8 := ⟨fun w => ⟨Tryd.t90, by rw [PP_def]; exact Tryd.typeInfo90 w, rfl⟩⟩
instance : TZero PP 90 [.nilFunc] := ⟨fun w => ⟨.nilFunc, by kernel_rfl, by kernel_rfl⟩⟩
instance : TZeroV PP 90 (.nilFunc) := ⟨fun w => by kernel_rfl⟩
instance : TShape PP 91 false 1 := ⟨fun w => by kernel_rfl, fun w => by kernel_rfl⟩
instance : TInfo PP 91 8 := ⟨fun w => ⟨Tryd.t91, by rw [PP_def]; exact Tryd.typeInfo91 w, rfl⟩⟩
instance : TZero PP 91 [.nilFunc] := ⟨fun w => ⟨.nilFunc, by kernel_rfl, by kernel_rfl⟩⟩
instance : TZeroV PP 91 (.nilFunc) := ⟨fun w => by kernel_rfl⟩
instance : TShape PP 92 false 1 := ⟨fun w => by kernel_rfl, fun w => by kernel_rfl⟩
instance : TInfo PP 92 8 := ⟨fun w => ⟨Tryd.t92, by rw [PP_def]; exact Tryd.typeInfo92 w, rfl⟩⟩
instance : TZero PP 92 [.nilFunc] := ⟨fun w => ⟨.nilFunc, by kernel_rfl, by kernel_rfl⟩⟩
instance : TZeroV PP 92 (.nilFunc) := ⟨fun w => by kernel_rfl⟩
instance : TShape PP 93 false 1 := ⟨fun w => by kernel_rfl, fun w => by kernel_rfl⟩
instance : TInfo PP 93 8 := ⟨fun w => ⟨Tryd.t93, by rw [PP_def]; exact Tryd.typeInfo93 w, rfl⟩⟩
instance : TZero PP 93 [.nilFunc] := ⟨fun w => ⟨.nilFunc, by kernel_rfl, by kernel_rfl⟩⟩
instance : TZeroV PP 93 (.nilFunc) := ⟨fun w => by kernel_rfl⟩
instance : TShape PP 94 false 1 := ⟨fun w => by kernel_rfl, fun w => by kernel_rfl⟩
instance : TInfo PP 94 8 := ⟨fun w => ⟨Tryd.t94, by rw [PP_def]; exact Tryd.typeInfo94 w, rfl⟩⟩
instance : TZero PP 94 [.nilFunc] := ⟨fun w => ⟨.nilFunc, by kernel_rfl, by kernel_rfl⟩⟩
instance : TZeroV PP 94 (.nilFunc) := ⟨fun w => by kernel_rfl⟩
instance : TShape PP 96 false 1 := ⟨fun w => by kernel_rfl, fun w => by kernel_rfl⟩
instance : TInfo PP 96 8 := ⟨fun w => ⟨Tryd.t96, by rw [PP_def]; exact Tryd.typeInfo96 w, rfl⟩⟩
instance : TZero PP 96 [.nilFunc] := ⟨fun w => ⟨.nilFunc, by kernel_rfl, by kernel_rfl⟩⟩
instance : TZeroV PP 96 (.nilFunc) := ⟨fun w => by kernel_rfl⟩
instance : TShape PP 97 false 1 := ⟨fun w => by kernel_rfl, fun w => by kernel_rfl⟩
instance : TInfo PP 97 8 := ⟨fun w => ⟨Tryd.t97, by rw [PP_def]; exact Tryd.typeInfo97 w, rfl⟩⟩
instance : TZero PP 97 [.nilFunc] := ⟨fun w => ⟨.nilFunc, by kernel_rfl, by kernel_rfl⟩⟩
instance : TZeroV PP 97 (.nilFunc) := ⟨fun w => by kernel_rfl⟩
instance : TShape PP 98 false 1 := ⟨fun w => by kernel_rfl, fun w => by kernel_rfl⟩
instance : TInfo PP 98 8 := ⟨fun w => ⟨Tryd.t98, by rw [PP_def]; exact Tryd.typeInfo98 w, rfl⟩⟩
instance : TZero PP 98 [.nilFunc] := ⟨fun w => ⟨.nilFunc, by kernel_rfl, by kernel_rfl⟩⟩
instance : TZeroV PP 98 (.nilFunc) := ⟨fun w => by kernel_rfl⟩
instance : TShape PP 99 false 1 := ⟨fun w => by kernel_rfl, fun w => by kernel_rfl⟩
instance : TInfo PP 99 8 := ⟨fun w => ⟨Tryd.t99, by rw [PP_def]; exact Tryd.typeInfo99 w, rfl⟩⟩
instance : TZero PP 99 [.nilFunc] := ⟨fun w => ⟨.nilFunc, by kernel_rfl, by kernel_rfl⟩⟩
instance : TZeroV PP 99 (.nilFunc) := ⟨fun w => by kernel_rfl⟩
instance : TShape PP 101 false 1 := ⟨fun w => by kernel_rfl, fun w => by kernel_rfl⟩
instance : TInfo PP 101 8 := ⟨fun w => ⟨Tryd.t101, by rw [PP_def]; exact Tryd.typeInfo101 w, rfl⟩⟩
instance : TZero PP 101 [.nilFunc] := ⟨fun w => ⟨.nilFunc, by kernel_rfl, by kernel_rfl⟩⟩
instance : TZeroV PP 101 (.nilFunc) := ⟨fun w => by kernel_rfl⟩
instance : TShape PP 102 true 2 := ⟨fun w => by kernel_rfl, fun w => by kernel_rfl⟩
instance : TInfo PP 102 16 := ⟨fun w => ⟨Tryd.t102, by rw [PP_def]; exact Tryd.typeInfo102 w, rfl⟩⟩
instance : TZero PP 102 [.int .i64 0, .int .i64 0] := ⟨fun w => ⟨.agg #[.int .i64 0, .int .i64 0], by kernel_rfl, by kernel_rfl⟩⟩
instance : TZeroV PP 102 (.agg #[.int .i64 0, .int .i64 0]) := ⟨fun w => by kernel_rfl⟩
instance : TStruct PP 102 [.int .i64 0, .int .i64 0] [(0, 1), (1, 1)] := ⟨⟨_, by rw [PP_def]; exact Tryd.underlying102, fun w => by kernel_rfl⟩, fun w => ⟨.agg #[.int .i64 0, .int .i64 0], by kernel_rfl, by kernel_rfl⟩⟩
instance : TField PP 102 0 0 := ⟨fun b o w => by kernel_rfl⟩
instance : TPart PP 102 0 false 0 1 := part_lemma (ft := 24) (by rw [PP_def]; exact Tryd.underlying102) rfl rfl rfl
instance : TField PP 102 1 1 := ⟨fun b o w => by kernel_rfl⟩
instance : TPart PP 102 1 false 1 1 := part_lemma (ft := 2) (by rw [PP_def]; exact Tryd.underlying102) rfl rfl rfl
instance : TShape PP 103 true 2 := ⟨fun w => by kernel_rfl, fun w => by kernel_rfl⟩
instance : TInfo PP 103 16 := ⟨fun w => ⟨Tryd.t103, by rw [PP_def]; exact Tryd.typeInfo103 w, rfl⟩⟩
instance : TZero PP 103 [.int .i64 0, .int .i64 0] := ⟨fun w => ⟨.agg #[.int .i64 0, .int .i64 0], by kernel_rfl, by kernel_rfl⟩⟩
instance : TZeroV PP 103 (.agg #[.int .i64 0, .int .i64 0]) := ⟨fun w => by kernel_rfl⟩
instance : TStruct PP 103 [.int .i64 0, .int .i64 0] [(0, 1), (1, 1)] := ⟨⟨_, by rw [PP_def]; exact Tryd.underlying103, fun w => by kernel_rfl⟩, fun w => ⟨.agg #[.int .i64 0, .int .i64 0], by kernel_rfl, by kernel_rfl⟩⟩
instance : TField PP 103 0 0 := ⟨fun b o w => by kernel_rfl⟩
instance : TPart PP 103 0 false 0 1 := part_lemma (ft := 24) (by rw [PP_def]; exact Tryd.underlying103) rfl rfl rfl
instance : TField PP 103 1 1 := ⟨fun b o w => by kernel_rfl⟩
instance : TPart PP 103 1 false 1 1 := part_lemma (ft := 2) (by rw [PP_def]; exact Tryd.underlying103) rfl rfl rfl
instance : TShape PP 104 false 1 := ⟨fun w => by kernel_rfl, fun w => by kernel_rfl⟩
instance : TInfo PP 104 8 := ⟨fun w => ⟨Tryd.t104, by rw [PP_def]; exact Tryd.typeInfo104 w, rfl⟩⟩
instance : TZero PP 104 [.nilFunc] := ⟨fun w => ⟨.nilFunc, by kernel_rfl, by kernel_rfl⟩⟩
instance : TZeroV PP 104 (.nilFunc) := ⟨fun w => by kernel_rfl⟩
instance : TShape PP 105 false 1 := ⟨fun w => by kernel_rfl, fun w => by kernel_rfl⟩
instance : TInfo PP 105 8 := ⟨fun w => ⟨Tryd.t105, by rw [PP_def]; exact Tryd.typeInfo105 w, rfl⟩⟩
instance : TZero PP 105 [.nilFunc] := ⟨fun w => ⟨.nilFunc, by kernel_rfl, by kernel_rfl⟩⟩
instance : TZeroV PP 105 (.nilFunc) := ⟨fun w => by kernel_rfl⟩
instance : TShape PP 106 false 1 := ⟨fun w => by kernel_rfl, fun w => by kernel_rfl⟩
instance : TInfo PP 106 8 := ⟨fun w => ⟨Tryd.t106, by rw [PP_def]; exact Tryd.typeInfo106 w, rfl⟩⟩
instance : TZero PP 106 [.nilFunc] := ⟨fun w => ⟨.nilFunc, by kernel_rfl, by kernel_rfl⟩⟩
instance : TZeroV PP 106 (.nilFunc) := ⟨fun w => by kernel_rfl⟩
instance : TShape PP 107 false 1 := ⟨fun w => by kernel_rfl, fun w => by kernel_rfl⟩
instance : TInfo PP 107 8 := ⟨fun w => ⟨Tryd.t107, by rw [PP_def]; exact Tryd.typeInfo107 w, rfl⟩⟩
instance : TZero PP 107 [.nilFunc] := ⟨fun w => ⟨.nilFunc, by kernel_rfl, by kernel_rfl⟩⟩
instance : TZeroV PP 107 (.nilFunc) := ⟨fun w => by kernel_rfl⟩
instance : TShape PP 108 false 1 := ⟨fun w => by kernel_rfl, fun w => by kernel_rfl⟩
instance : TInfo PP 108 8 := ⟨fun w => ⟨Tryd.t108, by rw [PP_def]; exact Tryd.typeInfo108 w, rfl⟩⟩
instance : TZero PP 108 [.nilFunc] := ⟨fun w => ⟨.nilFunc, by kernel_rfl, by kernel_rfl⟩⟩
instance : TZeroV PP 108 (.nilFunc) := ⟨fun w => by kernel_rfl⟩
instance : TShape PP 109 false 1 := ⟨fun w => by kernel_rfl, fun w => by kernel_rfl⟩
instance : TInfo PP 109 8 := ⟨fun w => ⟨Tryd.t109, by rw [PP_def]; exact Tryd.typeInfo109 w, rfl⟩⟩
instance : TZero PP 109 [.nilFunc] := ⟨fun w => ⟨.nilFunc, by kernel_rfl, by kernel_rfl⟩⟩
instance : TZeroV PP 109 (.nilFunc) := ⟨fun w => by kernel_rfl⟩
instance : TShape PP 111 false 1 := ⟨fun w => by kernel_rfl, fun w => by kernel_rfl⟩
instance : TInfo PP 111 8 := ⟨fun w => ⟨Tryd.t111, by rw [PP_def]; exact Tryd.typeInfo111 w, rfl⟩⟩
instance : TZero PP 111 [.nilFunc] := ⟨fun w => ⟨.nilFunc, by kernel_rfl, by kernel_rfl⟩⟩
instance : TZeroV PP 111 (.nilFunc) := ⟨fun w => by kernel_rfl⟩
instance : TShape PP 112 false 1 := ⟨fun w => by kernel_rfl, fun w => by kernel_rfl⟩
instance : TInfo PP 112 8 := ⟨fun w => ⟨Tryd.t112, by rw [PP_def]; exact Tryd.typeInfo112 w, rfl⟩⟩
instance : TZero PP 112 [.nilFunc] := ⟨fun w => ⟨.nilFunc, by kernel_rfl, by kernel_rfl⟩⟩
instance : TZeroV PP 112 (.nilFunc) := ⟨fun w => by kernel_rfl⟩
instance : TShape PP 113 false 1 := ⟨fun w => by kernel_rfl, fun w => by kernel_rfl⟩
instance : TInfo PP 113 8 := ⟨fun w => ⟨Tryd.t113, by rw [PP_def]; exact Tryd.typeInfo113 w, rfl⟩⟩
instance : TZero PP 113 [.int .u64 0] := ⟨fun w => ⟨.int .u64 0, by kernel_rfl, by kernel_rfl⟩⟩
instance : TZeroV PP 113 (.int .u64 0) := ⟨fun w => by kernel_rfl⟩
instance : TUnd PP 113 (.int (.u64)) := ⟨by kernel_rfl⟩
instance : TShape PP 114 false 1 := ⟨fun w => by kernel_rfl, fun w => by kernel_rfl⟩
instance : TInfo PP 114 8 := ⟨fun w => ⟨Tryd.t114, by rw [PP_def]; exact Tryd.typeInfo114 w, rfl⟩⟩
instance : TZero PP 114 [.nilFunc] := ⟨fun w => ⟨.nilFunc, by kernel_rfl, by kernel_rfl⟩⟩
instance : TZeroV PP 114 (.nilFunc) := ⟨fun w => by kernel_rfl⟩
instance : TShape PP 115 false 1 := ⟨fun w => by kernel_rfl, fun w => by kernel_rfl⟩
instance : TInfo PP 115 8 := ⟨fun w => ⟨Tryd.t115, by rw [PP_def]; exact Tryd.typeInfo115 w, rfl⟩⟩
instance : TZero PP 115 [.nilFunc] := ⟨fun w => ⟨.nilFunc, by kernel_rfl, by kernel_rfl⟩⟩
instance : TZeroV PP 115 (.nilFunc) := ⟨fun w => by kernel_rfl⟩
instance : TShape PP 116 false 1 := ⟨fun w => by kernel_rfl, fun w => by kernel_rfl⟩
instance : TInfo PP 116 8 := ⟨fun w => ⟨Tryd.t116, by rw [PP_def]; exact Tryd.typeInfo116 w, rfl⟩⟩
instance : TZero PP 116 [.nilFunc] := ⟨fun w => ⟨.nilFunc, by kernel_rfl, by kernel_rfl⟩⟩
instance : TZeroV PP 116 (.nilFunc) := ⟨fun w => by kernel_rfl⟩
instance : TShape PP 117 false 1 := ⟨fun w => by kernel_rfl, fun w => by kernel_rfl⟩
instance : TInfo PP 117 8 := ⟨fun w => ⟨Tryd.t117, by rw [PP_def]; exact Tryd.typeInfo117 w, rfl⟩⟩
instance : TZero PP 117 [.int .i64 0] := ⟨fun w => ⟨.int .i64 0, by kernel_rfl, by kernel_rfl⟩⟩
instance : TZeroV PP 117 (.int .i64 0) := ⟨fun w => by kernel_rfl⟩
instance : TUnd PP 117 (.int (.i64)) := ⟨by kernel_rfl⟩
instance : TShape PP 119 false 1 := ⟨fun w => by kernel_rfl, fun w => by kernel_rfl⟩
instance : TInfo PP 119 8 := ⟨fun w => ⟨Tryd.t119, by rw [PP_def]; exact Tryd.typeInfo119 w, rfl⟩⟩
instance : TZero PP 119 [.nilFunc] := ⟨fun w => ⟨.nilFunc, by kernel_rfl, by kernel_rfl⟩⟩
instance : TZeroV PP 119 (.nilFunc) := ⟨fun w => by kernel_rfl⟩
instance : TShape PP 120 false 1 := ⟨fun w => by kernel_rfl, fun w => by kernel_rfl⟩
instance : TInfo PP 120 8 := ⟨fun w => ⟨Tryd.t120, by rw [PP_def]; exact Tryd.typeInfo120 w, rfl⟩⟩
instance : TZero PP 120 [.nilFunc] := ⟨fun w => ⟨.nilFunc, by kernel_rfl, by kernel_rfl⟩⟩
instance : TZeroV PP 120 (.nilFunc) := ⟨fun w => by kernel_rfl⟩
instance : TShape PP 121 false 1 := ⟨fun w => by kernel_rfl, fun w => by kernel_rfl⟩
instance : TInfo PP 121 8 := ⟨fun w => ⟨Tryd.t121, by rw [PP_def]; exact Tryd.typeInfo121 w, rfl⟩⟩
instance : TZero PP 121 [.nilFunc] := ⟨fun w => ⟨.nilFunc, by kernel_rfl, by kernel_rfl⟩⟩
instance : TZeroV PP 121 (.nilFunc) := ⟨fun w => by kernel_rfl⟩
instance : TShape PP 122 false 1 := ⟨fun w => by kernel_rfl, fun w => by kernel_rfl⟩
instance : TInfo PP 122 8 := ⟨fun w => ⟨Tryd.t122, by rw [PP_def]; exact Tryd.typeInfo122 w, rfl⟩⟩
instance : TZero PP 122 [.nilFunc] := ⟨fun w => ⟨.nilFunc, by kernel_rfl, by kernel_rfl⟩⟩
instance : TZeroV PP 122 (.nilFunc) := ⟨fun w => by kernel_rfl⟩
instance : TShape PP 123 false 1 := ⟨fun w => by kernel_rfl, fun w => by kernel_rfl⟩
instance : TInfo PP 123 8 := ⟨fun w => ⟨Tryd.t123, by rw [PP_def]; exact Tryd.typeInfo123 w, rfl⟩⟩
instance : TZero PP 123 [.nilFunc] := ⟨fun w => ⟨.nilFunc, by kernel_rfl, by kernel_rfl⟩⟩
instance : TZeroV PP 123 (.nilFunc) := ⟨fun w => by kernel_rfl⟩
instance : TShape PP 124 false 1 := ⟨fun w => by kernel_rfl, fun w => by kernel_rfl⟩
instance : TInfo PP 124 8 := ⟨fun w => ⟨Tryd.t124, by rw [PP_def]; exact Tryd.typeInfo124 w, rfl⟩⟩
instance : TZero PP 124 [.nilFunc] := ⟨fun w => ⟨.nilFunc, by kernel_rfl, by kernel_rfl⟩⟩
instance : TZeroV PP 124 (.nilFunc) := ⟨fun w => by kernel_rfl⟩
instance : TShape PP 125 false 1 := ⟨fun w => by kernel_rfl, fun w => by kernel_rfl⟩
instance : TInfo PP 125 8 := ⟨fun w => ⟨Tryd.t125, by rw [PP_def]; exact Tryd.typeInfo125 w, rfl⟩⟩
instance : TZero PP 125 [.nilFunc] := ⟨fun w => ⟨.nilFunc, by kernel_rfl, by kernel_rfl⟩⟩
instance : TZeroV PP 125 (.nilFunc) := ⟨fun w => by kernel_rfl⟩
instance : TShape PP 126 false 1 := ⟨fun w => by kernel_rfl, fun w => by kernel_rfl⟩
instance : TInfo PP 126 8 := ⟨fun w => ⟨Tryd.t126, by rw [PP_def]; exact Tryd.typeInfo126 w, rfl⟩⟩
instance : TZero PP 126 [.int .u64 0] := ⟨fun w => ⟨.int .u64 0, by kernel_rfl, by kernel_rfl⟩⟩
instance : TZeroV PP 126 (.int .u64 0) := ⟨fun w => by kernel_rfl⟩
instance : TUnd PP 126 (.int (.u64)) := ⟨by kernel_rfl⟩
instance : TShape PP 127 false 1 := ⟨fun w => by kernel_rfl, fun w => by kernel_rfl⟩
instance : TInfo PP 127 8 := ⟨fun w => ⟨Tryd.t127, by rw [PP_def]; exact Tryd.typeInfo127 w, rfl⟩⟩
instance : TZero PP 127 [.nilFunc] := ⟨fun w => ⟨.nilFunc, by kernel_rfl, by kernel_rfl⟩⟩
instance : TZeroV PP 127 (.nilFunc) := ⟨fun w => by kernel_rfl⟩
instance : TShape PP 128 false 1 := ⟨fun w => by kernel_rfl, fun w => by kernel_rfl⟩
instance : TInfo PP 128 8 := ⟨fun w => ⟨Tryd.t128, by rw [PP_def]; exact Tryd.typeInfo128 w, rfl⟩⟩
instance : TZero PP 128 [.int .u64 0] := ⟨fun w => ⟨.int .u64 0, by kernel_rfl, by kernel_rfl⟩⟩
instance : TZeroV PP 128 (.int .u64 0) := ⟨fun w => by kernel_rfl⟩
instance : TUnd PP 128 (.int (.u64)) := ⟨by kernel_rfl⟩
instance : TShape PP 129 false 1 := ⟨fun w => by kernel_rfl, fun w => by kernel_rfl⟩
instance : TInfo PP 129 8 := ⟨fun w => ⟨Tryd.t129, by rw [PP_def]; exact Tryd.typeInfo129 w, rfl⟩⟩
instance : TZero PP 129 [.nilFunc] := ⟨fun w => ⟨.nilFunc, by kernel_rfl, by kernel_rfl⟩⟩
instance : TZeroV PP 129 (.nilFunc) := ⟨fun w => by kernel_rfl⟩
instance : TShape PP 130 false 1 := ⟨fun w => by kernel_rfl, fun w => by kernel_rfl⟩
instance : TInfo PP 130 8 := ⟨fun w => ⟨Tryd.t130, by rw [PP_def]; exact Tryd.typeInfo130 w, rfl⟩⟩
instance : TZero PP 130 [.nilFunc] := ⟨fun w => ⟨.nilFunc, by kernel_rfl, by kernel_rfl⟩⟩
instance : TZeroV PP 130 (.nilFunc) := ⟨fun w => by kernel_rfl⟩
instance : TShape PP 131 false 1 := ⟨fun w => by kernel_rfl, fun w => by kernel_rfl⟩
instance : TInfo PP 131 8 := ⟨fun w => ⟨Tryd.t131, by rw [PP_def]; exact Tryd.typeInfo131 w, rfl⟩⟩
instance : TZero PP 131 [.nilFunc] := ⟨fun w => ⟨.nilFunc, by kernel_rfl, by kernel_rfl⟩⟩
instance : TZeroV PP 131 (.nilFunc) := ⟨fun w => by kernel_rfl⟩
instance : TShape PP 132 false 1 := ⟨fun w => by kernel_rfl, fun w => by kernel_rfl⟩
instance : TInfo PP 132 8 := ⟨fun w => ⟨Tryd.t132, by rw [PP_def]; exact Tryd.typeInfo132 w, rfl⟩⟩
instance : TZero PP 132 [.pointer none] := ⟨fun w => ⟨.pointer none, by kernel_rfl, by kernel_rfl⟩⟩
instance : TZeroV PP 132 (.pointer none) := ⟨fun w => by kernel_rfl⟩
instance : TUnd PP 132 (.pointer 3) := ⟨by kernel_rfl⟩
instance : TShape PP 133 false 1 := ⟨fun w => by kernel_rfl, fun w => by kernel_rfl⟩
instance : TInfo PP 133 8 := ⟨fun w => ⟨Tryd.t133, by rw [PP_def]; exact Tryd.typeInfo133 w, rfl⟩⟩
instance : TZero PP 133 [.nilFunc] := ⟨fun w => ⟨.nilFunc, by kernel_rfl, by kernel_rfl⟩⟩
instance : TZeroV PP 133 (.nilFunc) := ⟨fun w => by kernel_rfl⟩
instance : TShape PP 135 false 1 := ⟨fun w => by kernel_rfl, fun w => by kernel_rfl⟩
instance : TInfo PP 135 8 := ⟨fun w => ⟨Tryd.t135, by rw [PP_def]; exact Tryd.typeInfo135 w, rfl⟩⟩
instance : TZero PP 135 [.nilFunc] := ⟨fun w => ⟨.nilFunc, by kernel_rfl, by kernel_rfl⟩⟩
instance : TZeroV PP 135 (.nilFunc) := ⟨fun w => by kernel_rfl⟩
instance : TShape PP 136 false 1 := ⟨fun w => by kernel_rfl, fun w => by kernel_rfl⟩
instance : TInfo PP 136 8 := ⟨fun w => ⟨Tryd.t136, by rw [PP_def]; exact Tryd.typeInfo136 w, rfl⟩⟩
instance : TZero PP 136 [.pointer none] := ⟨fun w => ⟨.pointer none, by kernel_rfl, by kernel_rfl⟩⟩
instance : TZeroV PP 136 (.pointer none) := ⟨fun w => by kernel_rfl⟩
instance : TUnd PP 136 (.pointer 128) := ⟨by kernel_rfl⟩
instance : TShape PP 137 false 1 := ⟨fun w => by kernel_rfl, fun w => by kernel_rfl⟩
instance : TInfo PP 137 8 := ⟨fun w => ⟨Tryd.t137, by rw [PP_def]; exact Tryd.typeInfo137 w, rfl⟩⟩
instance : TZero PP 137 [.nilFunc] := ⟨fun w => ⟨.nilFunc, by kernel_rfl, by kernel_rfl⟩⟩
instance : TZeroV PP 137 (.nilFunc) := ⟨fun w => by kernel_rfl⟩
instance : TShape PP 139 false 1 := ⟨fun w => by kernel_rfl, fun w => by kernel_rfl⟩
instance : TInfo PP 139 8 := ⟨fun w => ⟨Tryd.t139, by rw [PP_def]; exact Tryd.typeInfo139 w, rfl⟩⟩
instance : TZero PP 139 [.nilFunc] := ⟨fun w => ⟨.nilFunc, by kernel_rfl, by kernel_rfl⟩⟩
instance : TZeroV PP 139 (.nilFunc) := ⟨fun w => by kernel_rfl⟩
instance : TShape PP 140 false 1 := ⟨fun w => by kernel_rfl, fun w => by kernel_rfl⟩
instance : TInfo PP 140 8 := ⟨fun w => ⟨Tryd.t140, by rw [PP_def]; exact Tryd.typeInfo140 w, rfl⟩⟩
instance : TZero PP 140 [.nilFunc] := ⟨fun w => ⟨.nilFunc, by kernel_rfl, by kernel_rfl⟩⟩
instance : TZeroV PP 140 (.nilFunc) := ⟨fun w => by kernel_rfl⟩
instance : TShape PP 141 true 4 := ⟨fun w => by kernel_rfl, fun w => by kernel_rfl⟩
instance : TInfo PP 141 40 := ⟨fun w => ⟨Tryd.t141, by rw [PP_def]; exact Tryd.typeInfo141 w, rfl⟩⟩
instance : TZero PP 141 [.pointer none, .pointer none, .pointer none, .string ByteArray.empty] := ⟨fun w => ⟨.agg #[.pointer none, .pointer none, .pointer none, .string ByteArray.empty], by kernel_rfl, by kernel_rfl⟩⟩
instance : TZeroV PP 141 (.agg #[.pointer none, .pointer none, .pointer none, .string ByteArray.empty]) := ⟨fun w => by kernel_rfl⟩
instance : TStruct PP 141 [.pointer none, .pointer none, .pointer none, .string ByteArray.empty] [(0, 1), (1, 1), (2, 1), (3, 1)] := ⟨⟨_, by rw [PP_def]; exact Tryd.underlying141, fun w => by kernel_rfl⟩, fun w => ⟨.agg #[.pointer none, .pointer none, .pointer none, .string ByteArray.empty], by kernel_rfl, by kernel_rfl⟩⟩
instance : TField PP 141 0 0 := ⟨fun b o w => by kernel_rfl⟩
instance : TPart PP 141 0 false 0 1 := part_lemma (ft := 17) (by rw [PP_def]; exact Tryd.underlying141) rfl rfl rfl
instance : TField PP 141 1 1 := ⟨fun b o w => by kernel_rfl⟩
instance : TPart PP 141 1 false 1 1 := part_lemma (ft := 17) (by rw [PP_def]; exact Tryd.underlying141) rfl rfl rfl
instance : TField PP 141 2 2 := ⟨fun b o w => by kernel_rfl⟩
instance : TPart PP 141 2 false 2 1 := part_lemma (ft := 17) (by rw [PP_def]; exact Tryd.underlying141) rfl rfl rfl
instance : TField PP 141 3 3 := ⟨fun b o w => by kernel_rfl⟩
instance : TPart PP 141 3 false 3 1 := part_lemma (ft := 9) (by rw [PP_def]; exact Tryd.underlying141) rfl rfl rfl
instance : TShape PP 142 true 4 := ⟨fun w => by kernel_rfl, fun w => by kernel_rfl⟩
instance : TInfo PP 142 40 := ⟨fun w => ⟨Tryd.t142, by rw [PP_def]; exact Tryd.typeInfo142 w, rfl⟩⟩
instance : TZero PP 142 [.pointer none, .pointer none, .pointer none, .string ByteArray.empty] := ⟨fun w => ⟨.agg #[.pointer none, .pointer none, .pointer none, .string ByteArray.empty], by kernel_rfl, by kernel_rfl⟩⟩
instance : TZeroV PP 142 (.agg #[.pointer none, .pointer none, .pointer none, .string ByteArray.empty]) := ⟨fun w => by kernel_rfl⟩
instance : TStruct PP 142 [.pointer none, .pointer none, .pointer none, .string ByteArray.empty] [(0, 1), (1, 1), (2, 1), (3, 1)] := ⟨⟨_, by rw [PP_def]; exact Tryd.underlying142, fun w => by kernel_rfl⟩, fun w => ⟨.agg #[.pointer none, .pointer none, .pointer none, .string ByteArray.empty], by kernel_rfl, by kernel_rfl⟩⟩
instance : TField PP 142 0 0 := ⟨fun b o w => by kernel_rfl⟩
instance : TPart PP 142 0 false 0 1 := part_lemma (ft := 17) (by rw [PP_def]; exact Tryd.underlying142) rfl rfl rfl
instance : TField PP 142 1 1 := ⟨fun b o w => by kernel_rfl⟩
instance : TPart PP 142 1 false 1 1 := part_lemma (ft := 17) (by rw [PP_def]; exact Tryd.underlying142) rfl rfl rfl
instance : TField PP 142 2 2 := ⟨fun b o w => by kernel_rfl⟩
instance : TPart PP 142 2 false 2 1 := part_lemma (ft := 17) (by rw [PP_def]; exact Tryd.underlying142) rfl rfl rfl
instance : TField PP 142 3 3 := ⟨fun b o w => by kernel_rfl⟩
instance : TPart PP 142 3 false 3 1 := part_lemma (ft := 9) (by rw [PP_def]; exact Tryd.underlying142) rfl rfl rfl
instance : TShape PP 143 true 0 := ⟨fun w => by kernel_rfl, fun w => by kernel_rfl⟩
instance : TInfo PP 143 0 := ⟨fun w => ⟨Tryd.t143, by rw [PP_def]; exact Tryd.typeInfo143 w, rfl⟩⟩
instance : TZero PP 143 [] := ⟨fun w => ⟨.agg #[], by kernel_rfl, by kernel_rfl⟩⟩
instance : TZeroV PP 143 (.agg #[]) := ⟨fun w => by kernel_rfl⟩
instance : TUnd PP 143 (.array 0 16) := ⟨by kernel_rfl⟩
instance : TShape PP 144 true 0 := ⟨fun w => by kernel_rfl, fun w => by kernel_rfl⟩
instance : TInfo PP 144 0 := ⟨fun w => ⟨Tryd.t144, by rw [PP_def]; exact Tryd.typeInfo144 w, rfl⟩⟩
instance : TZero PP 144 [] := ⟨fun w => ⟨.agg #[], by kernel_rfl, by kernel_rfl⟩⟩
instance : TZeroV PP 144 (.agg #[]) := ⟨fun w => by kernel_rfl⟩
instance : TShape PP 145 true 0 := ⟨fun w => by kernel_rfl, fun w => by kernel_rfl⟩
instance : TInfo PP 145 0 := ⟨fun w => ⟨Tryd.t145, by rw [PP_def]; exact Tryd.typeInfo145 w, rfl⟩⟩
instance : TZero PP 145 [] := ⟨fun w => ⟨.agg #[], by kernel_rfl, by kernel_rfl⟩⟩
instance : TZeroV PP 145 (.agg #[]) := ⟨fun w => by kernel_rfl⟩
instance : TShape PP 146 false 1 := ⟨fun w => by kernel_rfl, fun w => by kernel_rfl⟩
instance : TInfo PP 146 1 := ⟨fun w => ⟨Tryd.t146, by rw [PP_def]; exact Tryd.typeInfo146 w, rfl⟩⟩
instance : TZero PP 146 [.int .u8 0] := ⟨fun w => ⟨.int .u8 0, by kernel_rfl, by kernel_rfl⟩⟩
instance : TZeroV PP 146 (.int .u8 0) := ⟨fun w => by kernel_rfl⟩
instance : TUnd PP 146 (.int (.u8)) := ⟨by kernel_rfl⟩
instance : TShape PP 147 false 1 := ⟨fun w => by kernel_rfl, fun w => by kernel_rfl⟩
instance : TInfo PP 147 1 := ⟨fun w => ⟨Tryd.t147, by rw [PP_def]; exact Tryd.typeInfo147 w, rfl⟩⟩
instance : TZero PP 147 [.int .u8 0] := ⟨fun w => ⟨.int .u8 0, by kernel_rfl, by kernel_rfl⟩⟩
instance : TZeroV PP 147 (.int .u8 0) := ⟨fun w => by kernel_rfl⟩
instance : TUnd PP 147 (.int (.u8)) := ⟨by kernel_rfl⟩
instance : TShape PP 148 false 1 := ⟨fun w => by kernel_rfl, fun w => by kernel_rfl⟩
instance : TInfo PP 148 8 := ⟨fun w => ⟨Tryd.t148, by rw [PP_def]; exact Tryd.typeInfo148 w, rfl⟩⟩
instance : TZero PP 148 [.nilFunc] := ⟨fun w => ⟨.nilFunc, by kernel_rfl, by kernel_rfl⟩⟩
instance : TZeroV PP 148 (.nilFunc) := ⟨fun w => by kernel_rfl⟩
instance : TShape PP 149 false 1 := ⟨fun w => by kernel_rfl, fun w => by kernel_rfl⟩
instance : TInfo PP 149 8 := ⟨fun w => ⟨Tryd.t149, by rw [PP_def]; exact Tryd.typeInfo149 w, rfl⟩⟩
instance : TZero PP 149 [.pointer none] := ⟨fun w => ⟨.pointer none, by kernel_rfl, by kernel_rfl⟩⟩
instance : TZeroV PP 149 (.pointer none) := ⟨fun w => by kernel_rfl⟩
instance : TUnd PP 149 (.pointer 5) := ⟨by kernel_rfl⟩
instance : TShape PP 150 false 1 := ⟨fun w => by kernel_rfl, fun w => by kernel_rfl⟩
instance : TInfo PP 150 4 := ⟨fun w => ⟨Tryd.t150, by rw [PP_def]; exact Tryd.typeInfo150 w, rfl⟩⟩
instance : TZero PP 150 [.int .i32 0] := ⟨fun w => ⟨.int .i32 0, by kernel_rfl, by kernel_rfl⟩⟩
instance : TZeroV PP 150 (.int .i32 0) := ⟨fun w => by kernel_rfl⟩
instance : TUnd PP 150 (.int (.i32)) := ⟨by kernel_rfl⟩
instance : TShape PP 151 false 1 := ⟨fun w => by kernel_rfl, fun w => by kernel_rfl⟩
instance : TInfo PP 151 4 := ⟨fun w => ⟨Tryd.t151, by rw [PP_def]; exact Tryd.typeInfo151 w, rfl⟩⟩
instance : TZero PP 151 [.int .i32 0] := ⟨fun w => ⟨.int .i32 0, by kernel_rfl, by kernel_rfl⟩⟩
instance : TZeroV PP 151 (.int .i32 0) := ⟨fun w => by kernel_rfl⟩
instance : TUnd PP 151 (.int (.i32)) := ⟨by kernel_rfl⟩
instance : TShape PP 152 true 11 := ⟨fun w => by kernel_rfl, fun w => by kernel_rfl⟩
instance : TInfo PP 152 48 := ⟨fun w => ⟨Tryd.t152, by rw [PP_def]; exact Tryd.typeInfo152 w, rfl⟩⟩
instance : TZero PP 152 [.int .u64 0, .int .u64 0, .int .u32 0, .int .u8 0, .int .u8 0, .int .u8 0, .int .u8 0, .nilFunc, .pointer none, .int .i32 0, .int .i32 0] := ⟨fun w => ⟨.agg #[.int .u64 0, .int .u64 0, .int .u32 0, .int .u8 0, .int .u8 0, .int .u8 0, .int .u8 0, .nilFunc, .pointer none, .int .i32 0, .int .i32 0], by kernel_rfl, by kernel_rfl⟩⟩
instance : TZeroV PP 152 (.agg #[.int .u64 0, .int .u64 0, .int .u32 0, .int .u8 0, .int .u8 0, .int .u8 0, .int .u8 0, .nilFunc, .pointer none, .int .i32 0, .int .i32 0]) := ⟨fun w => by kernel_rfl⟩
instance : TStruct PP 152 [.int .u64 0, .int .u64 0, .int .u32 0, .int .u8 0, .int .u8 0, .int .u8 0, .int .u8 0, .nilFunc, .pointer none, .int .i32 0, .int .i32 0] [(0, 1), (1, 1), (2, 1), (3, 1), (4, 1), (5, 1), (6, 1), (7, 1), (8, 1), (9, 1), (10, 1)] := ⟨⟨_, by rw [PP_def]; exact Tryd.underlying152, fun w => by kernel_rfl⟩, fun w => ⟨.agg #[.int .u64 0, .int .u64 0, .int .u32 0, .int .u8 0, .int .u8 0, .int .u8 0, .int .u8 0, .nilFunc, .pointer none, .int .i32 0, .int .i32 0], by kernel_rfl, by kernel_rfl⟩⟩
instance : TField PP 152 0 0 := ⟨fun b o w => by kernel_rfl⟩
instance : TPart PP 152 0 false 0 1 := part_lemma (ft := 12) (by rw [PP_def]; exact Tryd.underlying152) rfl rfl rfl
instance : TField PP 152 1 1 := ⟨fun b o w => by kernel_rfl⟩
instance : TPart PP 152 1 false 1 1 := part_lemma (ft := 12) (by rw [PP_def]; exact Tryd.underlying152) rfl rfl rfl
instance : TField PP 152 2 2 := ⟨fun b o w => by kernel_rfl⟩
instance : TPart PP 152 2 false 2 1 := part_lemma (ft := 62) (by rw [PP_def]; exact Tryd.underlying152) rfl rfl rfl
instance : TField PP 152 3 3 := ⟨fun b o w => by kernel_rfl⟩
instance : TPart PP 152 3 false 3 1 := part_lemma (ft := 146) (by rw [PP_def]; exact Tryd.underlying152) rfl rfl rfl
instance : TField PP 152 4 4 := ⟨fun b o w => by kernel_rfl⟩
instance : TPart PP 152 4 false 4 1 := part_lemma (ft := 5) (by rw [PP_def]; exact Tryd.underlying152) rfl rfl rfl
instance : TField PP 152 5 5 := ⟨fun b o w => by kernel_rfl⟩
instance : TPart PP 152 5 false 5 1 := part_lemma (ft := 5) (by rw [PP_def]; exact Tryd.underlying152) rfl rfl rfl
instance : TField PP 152 6 6 := ⟨fun b o w => by kernel_rfl⟩
instance : TPart PP 152 6 false 6 1 := part_lemma (ft := 147) (by rw [PP_def]; exact Tryd.underlying152) rfl rfl rfl
instance : TField PP 152 7 7 := ⟨fun b o w => by kernel_rfl⟩
instance : TPart PP 152 7 false 7 1 := part_lemma (ft := 148) (by rw [PP_def]; exact Tryd.underlying152) rfl rfl rfl
instance : TField PP 152 8 8 := ⟨fun b o w => by kernel_rfl⟩
instance : TPart PP 152 8 false 8 1 := part_lemma (ft := 149) (by rw [PP_def]; exact Tryd.underlying152) rfl rfl rfl
instance : TField PP 152 9 9 := ⟨fun b o w => by kernel_rfl⟩
instance : TPart PP 152 9 false 9 1 := part_lemma (ft := 150) (by rw [PP_def]; exact Tryd.underlying152) rfl rfl rfl
instance : TField PP 152 10 10 := ⟨fun b o w => by kernel_rfl⟩
instance : TPart PP 152 10 false 10 1 := part_lemma (ft := 151) (by rw [PP_def]; exact Tryd.underlying152) rfl rfl rfl
instance : TShape PP 153 true 11 := ⟨fun w => by kernel_rfl, fun w => by kernel_rfl⟩
instance : TInfo PP 153 48 := ⟨fun w => ⟨Tryd.t153, by rw [PP_def]; exact Tryd.typeInfo153 w, rfl⟩⟩
instance : TZero PP 153 [.int .u64 0, .int .u64 0, .int .u32 0, .int .u8 0, .int .u8 0, .int .u8 0, .int .u8 0, .nilFunc, .pointer none, .int .i32 0, .int .i32 0] := ⟨fun w => ⟨.agg #[.int .u64 0, .int .u64 0, .int .u32 0, .int .u8 0, .int .u8 0, .int .u8 0, .int .u8 0, .nilFunc, .pointer none, .int .i32 0, .int .i32 0], by kernel_rfl, by kernel_rfl⟩⟩
instance : TZeroV PP 153 (.agg #[.int .u64 0, .int .u64 0, .int .u32 0, .int .u8 0, .int .u8 0, .int .u8 0, .int .u8 0, .nilFunc, .pointer none, .int .i32 0, .int .i32 0]) := ⟨fun w => by kernel_rfl⟩
instance : TStruct PP 153 [.int .u64 0, .int .u64 0, .int .u32 0, .int .u8 0, .int .u8 0, .int .u8 0, .int .u8 0, .nilFunc, .pointer none, .int .i32 0, .int .i32 0] [(0, 1), (1, 1), (2, 1), (3, 1), (4, 1), (5, 1), (6, 1), (7, 1), (8, 1), (9, 1), (10, 1)] := ⟨⟨_, by rw [PP_def]; exact Tryd.underlying153, fun w => by kernel_rfl⟩, fun w => ⟨.agg #[.int .u64 0, .int .u64 0, .int .u32 0, .int .u8 0, .int .u8 0, .int .u8 0, .int .u8 0, .nilFunc, .pointer none, .int .i32 0, .int .i32 0], by kernel_rfl, by kernel_rfl⟩⟩
instance : TField PP 153 0 0 := ⟨fun b o w => by kernel_rfl⟩
instance : TPart PP 153 0 false 0 1 := part_lemma (ft := 12) (by rw [PP_def]; exact Tryd.underlying153) rfl rfl rfl
instance : TField PP 153 1 1 := ⟨fun b o w => by kernel_rfl⟩
instance : TPart PP 153 1 false 1 1 := part_lemma (ft := 12) (by rw [PP_def]; exact Tryd.underlying153) rfl rfl rfl
instance : TField PP 153 2 2 := ⟨fun b o w => by kernel_rfl⟩
instance : TPart PP 153 2 false 2 1 := part_lemma (ft := 62) (by rw [PP_def]; exact Tryd.underlying153) rfl rfl rfl
instance : TField PP 153 3 3 := ⟨fun b o w => by kernel_rfl⟩
instance : TPart PP 153 3 false 3 1 := part_lemma (ft := 146) (by rw [PP_def]; exact Tryd.underlying153) rfl rfl rfl
instance : TField PP 153 4 4 := ⟨fun b o w => by kernel_rfl⟩
instance : TPart PP 153 4 false 4 1 := part_lemma (ft := 5) (by rw [PP_def]; exact Tryd.underlying153) rfl rfl rfl
instance : TField PP 153 5 5 := ⟨fun b o w => by kernel_rfl⟩
instance : TPart PP 153 5 false 5 1 := part_lemma (ft := 5) (by rw [PP_def]; exact Tryd.underlying153) rfl rfl rfl
instance : TField PP 153 6 6 := ⟨fun b o w => by kernel_rfl⟩
instance : TPart PP 153 6 false 6 1 := part_lemma (ft := 147) (by rw [PP_def]; exact Tryd.underlying153) rfl rfl rfl
instance : TField PP 153 7 7 := ⟨fun b o w => by kernel_rfl⟩
instance : TPart PP 153 7 false 7 1 := part_lemma (ft := 148) (by rw [PP_def]; exact Tryd.underlying153) rfl rfl rfl
instance : TField PP 153 8 8 := ⟨fun b o w => by kernel_rfl⟩
instance : TPart PP 153 8 false 8 1 := part_lemma (ft := 149) (by rw [PP_def]; exact Tryd.underlying153) rfl rfl rfl
instance : TField PP 153 9 9 := ⟨fun b o w => by kernel_rfl⟩
instance : TPart PP 153 9 false 9 1 := part_lemma (ft := 150) (by rw [PP_def]; exact Tryd.underlying153) rfl rfl rfl
instance : TField PP 153 10 10 := ⟨fun b o w => by kernel_rfl⟩
instance : TPart PP 153 10 false 10 1 := part_lemma (ft := 151) (by rw [PP_def]; exact Tryd.underlying153) rfl rfl rfl
instance : TShape PP 154 false 1 := ⟨fun w => by kernel_rfl, fun w => by kernel_rfl⟩
instance : TInfo PP 154 8 := ⟨fun w => ⟨Tryd.t154, by rw [PP_def]; exact Tryd.typeInfo154 w, rfl⟩⟩
instance : TZero PP 154 [.pointer none] := ⟨fun w => ⟨.pointer none, by kernel_rfl, by kernel_rfl⟩⟩
instance : TZeroV PP 154 (.pointer none) := ⟨fun w => by kernel_rfl⟩
theorem en2 : Enters PP 2 := fun args w => by rw [PP_def]; exact Tryd.call2 args w
theorem fn2 : PP.funcs[2]? = some Tryd.f2 := by rw [PP_def]; exact Tryd.func2
theorem en3 : Enters PP 3 := fun args w => by rw [PP_def]; exact Tryd.call3 args w
theorem fn3 : PP.funcs[3]? = some Tryd.f3 := by rw [PP_def]; exact Tryd.func3
theorem en4 : Enters PP 4 := fun args w => by rw [PP_def]; exact Tryd.call4 args w
theorem fn4 : PP.funcs[4]? = some Tryd.f4 := by rw [PP_def]; exact Tryd.func4
theorem en5 : Enters PP 5 := fun args w => by rw [PP_def]; exact Tryd.call5 args w
theorem fn5 : PP.funcs[5]? = some Tryd.f5 := by rw [PP_def]; exact Tryd.func5
theorem en6 : Enters PP 6 := fun args w => by rw [PP_def]; exact Tryd.call6 args w
theorem fn6 : PP.funcs[6]? = some Tryd.f6 := by rw [PP_def]; exact Tryd.func6
theorem en7 : Enters PP 7 := fun args w => by rw [PP_def]; exact Tryd.call7 args w
theorem fn7 : PP.funcs[7]? = some Tryd.f7 := by rw [PP_def]; exact Tryd.func7
theorem en8 : Enters PP 8 := fun args w => by rw [PP_def]; exact Tryd.call8 args w
theorem fn8 : PP.funcs[8]? = some Tryd.f8 := by rw [PP_def]; exact Tryd.func8
theorem en9 : Enters PP 9 := fun args w => by rw [PP_def]; exact Tryd.call9 args w
theorem fn9 : PP.funcs[9]? = some Tryd.f9 := by rw [PP_def]; exact Tryd.func9
theorem en10 : Enters PP 10 := fun args w => by rw [PP_def]; exact Tryd.call10 args w
theorem fn10 : PP.funcs[10]? = some Tryd.f10 := by rw [PP_def]; exact Tryd.func10
theorem en11 : Enters PP 11 := fun args w => by rw [PP_def]; exact Tryd.call11 args w
theorem fn11 : PP.funcs[11]? = some Tryd.f11 := by rw [PP_def]; exact Tryd.func11
theorem en12 : Enters PP 12 := fun args w => by rw [PP_def]; exact Tryd.call12 args w
theorem fn12 : PP.funcs[12]? = some Tryd.f12 := by rw [PP_def]; exact Tryd.func12
theorem en13 : Enters PP 13 := fun args w => by rw [PP_def]; exact Tryd.call13 args w
theorem fn13 : PP.funcs[13]? = some Tryd.f13 := by rw [PP_def]; exact Tryd.func13
theorem en14 : Enters PP 14 := fun args w => by rw [PP_def]; exact Tryd.call14 args w
theorem fn14 : PP.funcs[14]? = some Tryd.f14 := by rw [PP_def]; exact Tryd.func14
theorem en15 : Enters PP 15 := fun args w => by rw [PP_def]; exact Tryd.call15 args w
theorem fn15 : PP.funcs[15]? = some Tryd.f15 := by rw [PP_def]; exact Tryd.func15
theorem en16 : Enters PP 16 := fun args w => by rw [PP_def]; exact Tryd.call16 args w
theorem fn16 : PP.funcs[16]? = some Tryd.f16 := by rw [PP_def]; exact Tryd.func16
theorem en17 : Enters PP 17 := fun args w => by rw [PP_def]; exact Tryd.call17 args w
theorem fn17 : PP.funcs[17]? = some Tryd.f17 := by rw [PP_def]; exact Tryd.func17
theorem en18 : Enters PP 18 := fun args w => by rw [PP_def]; exact Tryd.call18 args w
theorem fn18 : PP.funcs[18]? = some Tryd.f18 := by rw [PP_def]; exact Tryd.func18
theorem en19 : Enters PP 19 := fun args w => by rw [PP_def]; exact Tryd.call19 args w
theorem fn19 : PP.funcs[19]? = some Tryd.f19 := by rw [PP_def]; exact Tryd.func19
theorem en20 : Enters PP 20 := fun args w => by rw [PP_def]; exact Tryd.call20 args w
theorem fn20 : PP.funcs[20]? = some Tryd.f20 := by rw [PP_def]; exact Tryd.func20
theorem en21 : Enters PP 21 := fun args w => by rw [PP_def]; exact Tryd.call21 args w
theorem fn21 : PP.funcs[21]? = some Tryd.f21 := by rw [PP_def]; exact Tryd.func21
theorem en22 : Enters PP 22 := fun args w => by rw [PP_def]; exact Tryd.call22 args w
theorem fn22 : PP.funcs[22]? = some Tryd.f22 := by rw [PP_def]; exact Tryd.func22
theorem en23 : Enters PP 23 := fun args w => by rw [PP_def]; exact Tryd.call23 args w
theorem fn23 : PP.funcs[23]? = some Tryd.f23 := by rw [PP_def]; exact Tryd.func23
theorem en24 : Enters PP 24 := fun args w => by rw [PP_def]; exact Tryd.call24 args w
theorem fn24 : PP.funcs[24]? = some Tryd.f24 := by rw [PP_def]; exact Tryd.func24
theorem en25 : Enters PP 25 := fun args w => by rw [PP_def]; exact Tryd.call25 args w
theorem fn25 : PP.funcs[25]? = some Tryd.f25 := by rw [PP_def]; exact Tryd.func25
theorem en26 : Enters PP 26 := fun args w => by rw [PP_def]; exact Tryd.call26 args w
theorem fn26 : PP.funcs[26]? = some Tryd.f26 := by rw [PP_def]; exact Tryd.func26
theorem en27 : Enters PP 27 := fun args w => by rw [PP_def]; exact Tryd.call27 args w
theorem fn27 : PP.funcs[27]? = some Tryd.f27 := by rw [PP_def]; exact Tryd.func27
theorem en28 : Enters PP 28 := fun args w => by rw [PP_def]; exact Tryd.call28 args w
theorem fn28 : PP.funcs[28]? = some Tryd.f28 := by rw [PP_def]; exact Tryd.func28
theorem en29 : Enters PP 29 := fun args w => by rw [PP_def]; exact Tryd.call29 args w
theorem fn29 : PP.funcs[29]? = some Tryd.f29 := by rw [PP_def]; exact Tryd.func29
theorem en30 : Enters PP 30 := fun args w => by rw [PP_def]; exact Tryd.call30 args w
theorem fn30 : PP.funcs[30]? = some Tryd.f30 := by rw [PP_def]; exact Tryd.func30
theorem en31 : Enters PP 31 := fun args w => by rw [PP_def]; exact Tryd.call31 args w
theorem fn31 : PP.funcs[31]? = some Tryd.f31 := by rw [PP_def]; exact Tryd.func31
theorem en32 : Enters PP 32 := fun args w => by rw [PP_def]; exact Tryd.call32 args w
theorem fn32 : PP.funcs[32]? = some Tryd.f32 := by rw [PP_def]; exact Tryd.func32
theorem en33 : Enters PP 33 := fun args w => by rw [PP_def]; exact Tryd.call33 args w
theorem fn33 : PP.funcs[33]? = some Tryd.f33 := by rw [PP_def]; exact Tryd.func33
theorem en34 : Enters PP 34 := fun args w => by rw [PP_def]; exact Tryd.call34 args w
theorem fn34 : PP.funcs[34]? = some Tryd.f34 := by rw [PP_def]; exact Tryd.func34
theorem en35 : Enters PP 35 := fun args w => by rw [PP_def]; exact Tryd.call35 args w
theorem fn35 : PP.funcs[35]? = some Tryd.f35 := by rw [PP_def]; exact Tryd.func35
theorem en36 : Enters PP 36 := fun args w => by rw [PP_def]; exact Tryd.call36 args w
theorem fn36 : PP.funcs[36]? = some Tryd.f36 := by rw [PP_def]; exact Tryd.func36
theorem en37 : Enters PP 37 := fun args w => by rw [PP_def]; exact Tryd.call37 args w
theorem fn37 : PP.funcs[37]? = some Tryd.f37 := by rw [PP_def]; exact Tryd.func37
theorem en38 : Enters PP 38 := fun args w => by rw [PP_def]; exact Tryd.call38 args w
theorem fn38 : PP.funcs[38]? = some Tryd.f38 := by rw [PP_def]; exact Tryd.func38
theorem en39 : Enters PP 39 := fun args w => by rw [PP_def]; exact Tryd.call39 args w
theorem fn39 : PP.funcs[39]? = some Tryd.f39 := by rw [PP_def]; exact Tryd.func39
theorem en40 : Enters PP 40 := fun args w => by rw [PP_def]; exact Tryd.call40 args w
theorem fn40 : PP.funcs[40]? = some Tryd.f40 := by rw [PP_def]; exact Tryd.func40
theorem en41 : Enters PP 41 := fun args w => by rw [PP_def]; exact Tryd.call41 args w
theorem fn41 : PP.funcs[41]? = some Tryd.f41 := by rw [PP_def]; exact Tryd.func41
theorem en42 : Enters PP 42 := fun args w => by rw [PP_def]; exact Tryd.call42 args w
theorem fn42 : PP.funcs[42]? = some Tryd.f42 := by rw [PP_def]; exact Tryd.func42
theorem en43 : Enters PP 43 := fun args w => by rw [PP_def]; exact Tryd.call43 args w
theorem fn43 : PP.funcs[43]? = some Tryd.f43 := by rw [PP_def]; exact Tryd.func43
theorem en44 : Enters PP 44 := fun args w => by rw [PP_def]; exact Tryd.call44 args w
theorem fn44 : PP.funcs[44]? = some Tryd.f44 := by rw [PP_def]; exact Tryd.func44
theorem en45 : Enters PP 45 := fun args w => by rw [PP_def]; exact Tryd.call45 args w
theorem fn45 : PP.funcs[45]? = some Tryd.f45 := by rw [PP_def]; exact Tryd.func45
theorem en46 : Enters PP 46 := fun args w => by rw [PP_def]; exact Tryd.call46 args w
theorem fn46 : PP.funcs[46]? = some Tryd.f46 := by rw [PP_def]; exact Tryd.func46
theorem en47 : Enters PP 47 := fun args w => by rw [PP_def]; exact Tryd.call47 args w
theorem fn47 : PP.funcs[47]? = some Tryd.f47 := by rw [PP_def]; exact Tryd.func47
theorem en48 : Enters PP 48 := fun args w => by rw [PP_def]; exact Tryd.call48 args w
theorem fn48 : PP.funcs[48]? = some Tryd.f48 := by rw [PP_def]; exact Tryd.func48
theorem en49 : Enters PP 49 := fun args w => by rw [PP_def]; exact Tryd.call49 args w
theorem fn49 : PP.funcs[49]? = some Tryd.f49 := by rw [PP_def]; exact Tryd.func49
theorem en50 : Enters PP 50 := fun args w => by rw [PP_def]; exact Tryd.call50 args w
theorem fn50 : PP.funcs[50]? = some Tryd.f50 := by rw [PP_def]; exact Tryd.func50
theorem en51 : Enters PP 51 := fun args w => by rw [PP_def]; exact Tryd.call51 args w
theorem fn51 : PP.funcs[51]? = some Tryd.f51 := by rw [PP_def]; exact Tryd.func51
theorem en52 : Enters PP 52 := fun args w => by rw [PP_def]; exact Tryd.call52 args w
theorem fn52 : PP.funcs[52]? = some Tryd.f52 := by rw [PP_def]; exact Tryd.func52
theorem en53 : Enters PP 53 := fun args w => by rw [PP_def]; exact Tryd.call53 args w
theorem fn53 : PP.funcs[53]? = some Tryd.f53 := by rw [PP_def]; exact Tryd.func53
theorem en54 : Enters PP 54 := fun args w => by rw [PP_def]; exact Tryd.call54 args w
theorem fn54 : PP.funcs[54]? = some Tryd.f54 := by rw [PP_def]; exact Tryd.func54
theorem en55 : Enters PP 55 := fun args w => by rw [PP_def]; exact Tryd.call55 args w
theorem fn55 : PP.funcs[55]? = some Tryd.f55 := by rw [PP_def]; exact Tryd.func55
theorem en56 : Enters PP 56 := fun args w => by rw [PP_def]; exact Tryd.call56 args w
theorem fn56 : PP.funcs[56]? = some Tryd.f56 := by rw [PP_def]; exact Tryd.func56
theorem en57 : Enters PP 57 := fun args w => by rw [PP_def]; exact Tryd.call57 args w
theorem fn57 : PP.funcs[57]? = some Tryd.f57 := by rw [PP_def]; exact Tryd.func57
theorem en58 : Enters PP 58 := fun args w => by rw [PP_def]; exact Tryd.call58 args w
theorem fn58 : PP.funcs[58]? = some Tryd.f58 := by rw [PP_def]; exact Tryd.func58
theorem en59 : Enters PP 59 := fun args w => by rw [PP_def]; exact Tryd.call59 args w
theorem fn59 : PP.funcs[59]? = some Tryd.f59 := by rw [PP_def]; exact Tryd.func59
theorem en60 : Enters PP 60 := fun args w => by rw [PP_def]; exact Tryd.call60 args w
theorem fn60 : PP.funcs[60]? = some Tryd.f60 := by rw [PP_def]; exact Tryd.func60
theorem en61 : Enters PP 61 := fun args w => by rw [PP_def]; exact Tryd.call61 args w
theorem fn61 : PP.funcs[61]? = some Tryd.f61 := by rw [PP_def]; exact Tryd.func61
theorem en62 : Enters PP 62 := fun args w => by rw [PP_def]; exact Tryd.call62 args w
theorem fn62 : PP.funcs[62]? = some Tryd.f62 := by rw [PP_def]; exact Tryd.func62
theorem en63 : Enters PP 63 := fun args w => by rw [PP_def]; exact Tryd.call63 args w
theorem fn63 : PP.funcs[63]? = some Tryd.f63 := by rw [PP_def]; exact Tryd.func63
theorem en64 : Enters PP 64 := fun args w => by rw [PP_def]; exact Tryd.call64 args w
theorem fn64 : PP.funcs[64]? = some Tryd.f64 := by rw [PP_def]; exact Tryd.func64
theorem en65 : Enters PP 65 := fun args w => by rw [PP_def]; exact Tryd.call65 args w
theorem fn65 : PP.funcs[65]? = some Tryd.f65 := by rw [PP_def]; exact Tryd.func65
theorem en66 : Enters PP 66 := fun args w => by rw [PP_def]; exact Tryd.call66 args w
theorem fn66 : PP.funcs[66]? = some Tryd.f66 := by rw [PP_def]; exact Tryd.func66
theorem en67 : Enters PP 67 := fun args w => by rw [PP_def]; exact Tryd.call67 args w
theorem fn67 : PP.funcs[67]? = some Tryd.f67 := by rw [PP_def]; exact Tryd.func67
theorem en68 : Enters PP 68 := fun args w => by rw [PP_def]; exact Tryd.call68 args w
theorem fn68 : PP.funcs[68]? = some Tryd.f68 := by rw [PP_def]; exact Tryd.func68
theorem en69 : Enters PP 69 := fun args w => by rw [PP_def]; exact Tryd.call69 args w
theorem fn69 : PP.funcs[69]? = some Tryd.f69 := by rw [PP_def]; exact Tryd.func69
theorem en70 : Enters PP 70 := fun args w => by rw [PP_def]; exact Tryd.call70 args w
theorem fn70 : PP.funcs[70]? = some Tryd.f70 := by rw [PP_def]; exact Tryd.func70
theorem en71 : Enters PP 71 := fun args w => by rw [PP_def]; exact Tryd.call71 args w
theorem fn71 : PP.funcs[71]? = some Tryd.f71 := by rw [PP_def]; exact Tryd.func71
theorem en72 : Enters PP 72 := fun args w => by rw [PP_def]; exact Tryd.call72 args w
theorem fn72 : PP.funcs[72]? = some Tryd.f72 := by rw [PP_def]; exact Tryd.func72
theorem en73 : Enters PP 73 := fun args w => by rw [PP_def]; exact Tryd.call73 args w
theorem fn73 : PP.funcs[73]? = some Tryd.f73 := by rw [PP_def]; exact Tryd.func73
theorem en74 : Enters PP 74 := fun args w => by rw [PP_def]; exact Tryd.call74 args w
theorem fn74 : PP.funcs[74]? = some Tryd.f74 := by rw [PP_def]; exact Tryd.func74
theorem en75 : Enters PP 75 := fun args w => by rw [PP_def]; exact Tryd.call75 args w
theorem fn75 : PP.funcs[75]? = some Tryd.f75 := by rw [PP_def]; exact Tryd.func75
theorem en76 : Enters PP 76 := fun args w => by rw [PP_def]; exact Tryd.call76 args w
theorem fn76 : PP.funcs[76]? = some Tryd.f76 := by rw [PP_def]; exact Tryd.func76
theorem en77 : Enters PP 77 := fun args w => by rw [PP_def]; exact Tryd.call77 args w
theorem fn77 : PP.funcs[77]? = some Tryd.f77 := by rw [PP_def]; exact Tryd.func77
theorem en78 : Enters PP 78 := fun args w => by rw [PP_def]; exact Tryd.call78 args w
theorem fn78 : PP.funcs[78]? = some Tryd.f78 := by rw [PP_def]; exact Tryd.func78
theorem en98 : Enters PP 98 := fun args w => by rw [PP_def]; exact Tryd.call98 args w
theorem fn98 : PP.funcs[98]? = some Tryd.f98 := by rw [PP_def]; exact Tryd.func98
end Go.Proofs.YtilnknokgflkjaaDoor

/- The walks of package space: each function against the plain model. -/
namespace Go.Proofs.YtilnknokgflkjaaDoor
open Go.Vc Sim

def SpaceParts (p : Nat) (s : Sp) (i : Nat × Nat × Option Addr × Nat) : List Asn :=
  [pt p (.cells #[.map (some i.1), .map (some i.2.1), .slice i.2.2.1 s.puts.length i.2.2.2, .int .i64 s.need, .bool s.ended] 71 (0, 0)),
   pt i.1 (mapI (knM s.kn)), pt i.2.1 (mapI (rdM s.rd)), SlA 103 2 i.2.2.1 s.puts.length i.2.2.2 (flat s.puts)]
def SpaceA (p : Nat) (s : Sp) : Asn := fun h => ∃ i, Stars (SpaceParts p s i) h
abbrev spP (p : Nat) : Value := .pointer (some ⟨p, 0, none⟩)

theorem ended_spec (w0 : World) (p : Nat) (s : Sp) : FnE PP w0 [] 40 [spP p] [SpaceA p s] (.bool s.ended) [SpaceA p s] := by
  refine fn_of_run en40 fn40 rfl rfl rfl ?_
  refine run_open [0] (SpaceParts p s) rfl (fun _ h => h) ?_
  rintro ⟨bk, br, a, cap⟩
  repeat' (first | refine zck ?_ | refine zcp (by kernel_rfl) ?_ | refine zcq PP_mixed (by kernel_rfl) (by kernel_rfl) ?_ | refine zcm ?_ | refine zcl ?_ | refine zcn ?_ | refine zco ?_ | refine zcs rfl ?_ | (refine zap rfl ?_; first | ((with_reducible refine zct ?_); first | refine zaj rfl ?_ | refine zak rfl ?_ | refine zal rfl ?_ | refine zam rfl rfl (fun _ => ?_) (fun _ => ?_)) | ((with_reducible refine zcu ?_); refine zan rfl ?_) | ((with_reducible refine zcv ?_); refine zan rfl ?_) | ((with_reducible refine zcw ?_); first | refine zaa 0 rfl rfl rfl ?_ | refine zaa 1 rfl rfl rfl ?_ | refine zaa 2 rfl rfl rfl ?_ | refine zaa 3 rfl rfl rfl ?_ | refine zaa 4 rfl rfl rfl ?_ | refine zaa 5 rfl rfl rfl ?_ | refine zab 0 rfl rfl rfl ?_ | refine zab 1 rfl rfl rfl ?_ | refine zab 2 rfl rfl rfl ?_ | refine zab 3 rfl rfl rfl ?_ | refine zab 4 rfl rfl rfl ?_ | refine zab 5 rfl rfl rfl ?_) | ((with_reducible refine zcy ?_); refine zao rfl ?_) | ((with_reducible refine zda ?_); first | refine zbo rfl rfl ?_ | refine zaz rfl rfl ?_ | refine zbb rfl rfl ?_) | ((with_reducible refine zdc ?_); first | refine zbu rfl ?_ | refine zbv rfl ?_ | refine zbw rfl rfl rfl ?_) | ((with_reducible refine zde ?_); refine zan rfl ?_)) | refine zch ?_ | refine zci rfl ?_ | refine zcj rfl ?_)
  refine run_close1 (A := SpaceA p s) [0, 0, 0, 0] rfl (fun _ h => ⟨(_, _, _, _), h⟩) ?_
  refine ret_tmp1 rfl ⟨rfl, rfl⟩

theorem mark_spec (w0 : World) (p : Nat) (s : Sp) : FnE PP w0 [] 26 [spP p] [SpaceA p s] (.int .i64 s.puts.length) [SpaceA p s] := by
  refine fn_of_run en26 fn26 rfl rfl rfl ?_
  refine run_open [0] (SpaceParts p s) rfl (fun _ h => h) ?_
  rintro ⟨bk, br, a, cap⟩
  repeat' (first | refine zck ?_ | refine zcp (by kernel_rfl) ?_ | refine zcq PP_mixed (by kernel_rfl) (by kernel_rfl) ?_ | refine zcm ?_ | refine zcl ?_ | refine zcn ?_ | refine zco ?_ | refine zcs rfl ?_ | (refine zap rfl ?_; first | ((with_reducible refine zcu ?_); refine zan rfl ?_) | ((with_reducible refine zcv ?_); refine zan rfl ?_) | ((with_reducible refine zcw ?_); first | refine zaa 0 rfl rfl rfl ?_ | refine zaa 1 rfl rfl rfl ?_ | refine zaa 2 rfl rfl rfl ?_ | refine zaa 3 rfl rfl rfl ?_ | refine zaa 4 rfl rfl rfl ?_ | refine zaa 5 rfl rfl rfl ?_ | refine zab 0 rfl rfl rfl ?_ | refine zab 1 rfl rfl rfl ?_ | refine zab 2 rfl rfl rfl ?_ | refine zab 3 rfl rfl rfl ?_ | refine zab 4 rfl rfl rfl ?_ | refine zab 5 rfl rfl rfl ?_) | ((with_reducible refine zcx ?_); refine zce rfl ?_) | ((with_reducible refine zcy ?_); refine zao rfl ?_) | ((with_reducible refine zda ?_); first | refine zbo rfl rfl ?_ | refine zaz rfl rfl ?_ | refine zbb rfl rfl ?_) | ((with_reducible refine zde ?_); refine zan rfl ?_)) | refine zch ?_ | refine zci rfl ?_ | refine zcj rfl ?_)
  refine run_close1 (A := SpaceA p s) [0, 0, 0, 0] rfl (fun _ h => ⟨(_, _, _, _), h⟩) ?_
  refine ret_tmp1 rfl ⟨rfl, rfl⟩

theorem reads_spec (w0 : World) (p : Nat) (s : Sp) (a : Int) : FnE PP w0 [] 45 [spP p, .int .i64 a] [SpaceA p s] (.bool (s.reads a).1) [SpaceA p (s.reads a).2] := by
  refine fn_of_run en45 fn45 rfl rfl rfl ?_
  repeat' (first | refine zck ?_ | refine zcp (by kernel_rfl) ?_ | refine zcq PP_mixed (by kernel_rfl) (by kernel_rfl) ?_ | refine zcm ?_ | refine zcl ?_ | refine zcn ?_ | refine zco ?_ | refine zcs rfl ?_ | (refine zap rfl ?_; first | ((with_reducible refine zcu ?_); refine zan rfl ?_) | ((with_reducible refine zcv ?_); refine zan rfl ?_) | ((with_reducible refine zcw ?_); first | refine zaa 0 rfl rfl rfl ?_ | refine zaa 1 rfl rfl rfl ?_ | refine zaa 2 rfl rfl rfl ?_ | refine zaa 3 rfl rfl rfl ?_ | refine zaa 4 rfl rfl rfl ?_ | refine zaa 5 rfl rfl rfl ?_ | refine zab 0 rfl rfl rfl ?_ | refine zab 1 rfl rfl rfl ?_ | refine zab 2 rfl rfl rfl ?_ | refine zab 3 rfl rfl rfl ?_ | refine zab 4 rfl rfl rfl ?_ | refine zab 5 rfl rfl rfl ?_) | ((with_reducible refine zcx ?_); refine zah [0] (ended_spec w0 _ _) rfl rfl rfl sub_nil rfl ?_) | ((with_reducible refine zcy ?_); refine zao rfl ?_) | ((with_reducible refine zcz ?_); refine zan rfl ?_) | ((with_reducible refine zdb ?_); first | refine zby rfl ?_ | refine zbx rfl ?_) | ((with_reducible refine zdd ?_); first | refine zae 0 rfl rfl rfl rfl rfl rfl rfl ?_ | refine zae 1 rfl rfl rfl rfl rfl rfl rfl ?_ | refine zae 2 rfl rfl rfl rfl rfl rfl rfl ?_ | refine zae 3 rfl rfl rfl rfl rfl rfl rfl ?_ | refine zae 4 rfl rfl rfl rfl rfl rfl rfl ?_ | refine zae 5 rfl rfl rfl rfl rfl rfl rfl ?_) | ((with_reducible refine zde ?_); refine zan rfl ?_) | ((with_reducible refine zdh ?_); refine zar (fun nb => ?_))) | refine zch ?_ | refine zci rfl ?_ | refine zcj rfl ?_)
  refine run_condV rfl (fun hE => ?_) (fun hE => ?_)
  · repeat' (first | refine zck ?_ | refine zcp (by kernel_rfl) ?_ | refine zcq PP_mixed (by kernel_rfl) (by kernel_rfl) ?_ | refine zcm ?_ | refine zcl ?_ | refine zcn ?_ | refine zco ?_ | refine zcs rfl ?_ | (refine zap rfl ?_; first | ((with_reducible refine zcu ?_); refine zan rfl ?_) | ((with_reducible refine zcv ?_); refine zan rfl ?_) | ((with_reducible refine zcw ?_); first | refine zaa 0 rfl rfl rfl ?_ | refine zaa 1 rfl rfl rfl ?_ | refine zaa 2 rfl rfl rfl ?_ | refine zaa 3 rfl rfl rfl ?_ | refine zaa 4 rfl rfl rfl ?_ | refine zaa 5 rfl rfl rfl ?_ | refine zab 0 rfl rfl rfl ?_ | refine zab 1 rfl rfl rfl ?_ | refine zab 2 rfl rfl rfl ?_ | refine zab 3 rfl rfl rfl ?_ | refine zab 4 rfl rfl rfl ?_ | refine zab 5 rfl rfl rfl ?_) | ((with_reducible refine zcy ?_); refine zao rfl ?_) | ((with_reducible refine zcz ?_); refine zan rfl ?_) | ((with_reducible refine zdb ?_); first | refine zby rfl ?_ | refine zbx rfl ?_) | ((with_reducible refine zdd ?_); first | refine zae 0 rfl rfl rfl rfl rfl rfl rfl ?_ | refine zae 1 rfl rfl rfl rfl rfl rfl rfl ?_ | refine zae 2 rfl rfl rfl rfl rfl rfl rfl ?_ | refine zae 3 rfl rfl rfl rfl rfl rfl rfl ?_ | refine zae 4 rfl rfl rfl rfl rfl rfl rfl ?_ | refine zae 5 rfl rfl rfl rfl rfl rfl rfl ?_) | ((with_reducible refine zde ?_); refine zan rfl ?_) | ((with_reducible refine zdh ?_); refine zar (fun nb => ?_))) | refine zch ?_ | refine zci rfl ?_ | refine zcj rfl ?_)
    refine ret_tmp1 rfl ?_
    have e : s.reads a = (false, s) := by simp [Sp.reads, hE]
    rw [e]; exact ⟨rfl, rfl⟩
  · refine run_open [0] (SpaceParts p s) rfl (fun _ h => h) ?_
    rintro ⟨bk, br, sa, cap⟩
    cases hk : lookW s.kn a with
    | none =>
      have hl : Vc.look (knM s.kn) a = none := by rw [look_knM, hk]; rfl
      repeat' (first | refine zck ?_ | refine zcp (by kernel_rfl) ?_ | refine zcq PP_mixed (by kernel_rfl) (by kernel_rfl) ?_ | refine zcm ?_ | refine zcl ?_ | refine zcn ?_ | refine zco ?_ | refine zcs rfl ?_ | (refine zap rfl ?_; first | refine reg_lookupOk 1 rfl rfl rfl hl ?_ | ((with_reducible refine zcu ?_); refine zan rfl ?_) | ((with_reducible refine zcv ?_); refine zan rfl ?_) | ((with_reducible refine zcw ?_); first | refine zaa 0 rfl rfl rfl ?_ | refine zaa 1 rfl rfl rfl ?_ | refine zaa 2 rfl rfl rfl ?_ | refine zaa 3 rfl rfl rfl ?_ | refine zaa 4 rfl rfl rfl ?_ | refine zaa 5 rfl rfl rfl ?_ | refine zab 0 rfl rfl rfl ?_ | refine zab 1 rfl rfl rfl ?_ | refine zab 2 rfl rfl rfl ?_ | refine zab 3 rfl rfl rfl ?_ | refine zab 4 rfl rfl rfl ?_ | refine zab 5 rfl rfl rfl ?_) | ((with_reducible refine zcy ?_); refine zao rfl ?_) | ((with_reducible refine zcz ?_); refine zan rfl ?_) | ((with_reducible refine zdb ?_); first | refine zby rfl ?_ | refine zbx rfl ?_) | ((with_reducible refine zdd ?_); first | refine zae 0 rfl rfl rfl rfl rfl rfl rfl ?_ | refine zae 1 rfl rfl rfl rfl rfl rfl rfl ?_ | refine zae 2 rfl rfl rfl rfl rfl rfl rfl ?_ | refine zae 3 rfl rfl rfl rfl rfl rfl rfl ?_ | refine zae 4 rfl rfl rfl rfl rfl rfl rfl ?_ | refine zae 5 rfl rfl rfl rfl rfl rfl rfl ?_) | ((with_reducible refine zde ?_); refine zan rfl ?_) | ((with_reducible refine zdh ?_); refine zar (fun nb => ?_))) | refine zch ?_ | refine zci rfl ?_ | refine zcj rfl ?_)
      have e : s.reads a = (false, { s with ended := true, need := a }) := by simp [Sp.reads, hE, hk]
      rw [e]
      refine run_close1 (A := SpaceA p { s with ended := true, need := a }) [0, 0, 0, 0] rfl (fun _ h => ⟨(_, _, _, _), h⟩) ?_
      refine ret_tmp1 rfl ⟨rfl, rfl⟩
    | some wd =>
      have hl : Vc.look (knM s.kn) a = some (wordV wd) := by rw [look_knM, hk]; rfl
      repeat' (first | refine zck ?_ | refine zcp (by kernel_rfl) ?_ | refine zcq PP_mixed (by kernel_rfl) (by kernel_rfl) ?_ | refine zcm ?_ | refine zcl ?_ | refine zcn ?_ | refine zco ?_ | refine zcs rfl ?_ | (refine zap rfl ?_; first | refine reg_lookupOk 1 rfl rfl rfl hl ?_ | refine reg_mapUpdate 2 rfl rfl rfl rfl rfl ?_ | ((with_reducible refine zcu ?_); refine zan rfl ?_) | ((with_reducible refine zcv ?_); refine zan rfl ?_) | ((with_reducible refine zcw ?_); first | refine zaa 0 rfl rfl rfl ?_ | refine zaa 1 rfl rfl rfl ?_ | refine zaa 2 rfl rfl rfl ?_ | refine zaa 3 rfl rfl rfl ?_ | refine zaa 4 rfl rfl rfl ?_ | refine zaa 5 rfl rfl rfl ?_ | refine zab 0 rfl rfl rfl ?_ | refine zab 1 rfl rfl rfl ?_ | refine zab 2 rfl rfl rfl ?_ | refine zab 3 rfl rfl rfl ?_ | refine zab 4 rfl rfl rfl ?_ | refine zab 5 rfl rfl rfl ?_) | ((with_reducible refine zcy ?_); refine zao rfl ?_) | ((with_reducible refine zcz ?_); refine zan rfl ?_) | ((with_reducible refine zdb ?_); first | refine zby rfl ?_ | refine zbx rfl ?_) | ((with_reducible refine zdd ?_); first | refine zae 0 rfl rfl rfl rfl rfl rfl rfl ?_ | refine zae 1 rfl rfl rfl rfl rfl rfl rfl ?_ | refine zae 2 rfl rfl rfl rfl rfl rfl rfl ?_ | refine zae 3 rfl rfl rfl rfl rfl rfl rfl ?_ | refine zae 4 rfl rfl rfl rfl rfl rfl rfl ?_ | refine zae 5 rfl rfl rfl rfl rfl rfl rfl ?_) | ((with_reducible refine zde ?_); refine zan rfl ?_) | ((with_reducible refine zdh ?_); refine zar (fun nb => ?_))) | refine zch ?_ | refine zci rfl ?_ | refine zcj rfl ?_)
      have e : s.reads a = (true, { s with rd := insI s.rd a }) := by simp [Sp.reads, hE, hk]
      rw [e]
      refine run_close1 (A := SpaceA p { s with rd := insI s.rd a }) [0, 0, 0, 0] rfl (fun _ h => ⟨(bk, br, sa, cap), by unfold SpaceParts; rw [← ins_rdM]; exact h⟩) ?_
      refine ret_tmp1 rfl ⟨rfl, rfl⟩

end Go.Proofs.YtilnknokgflkjaaDoor

namespace Go.Proofs.YtilnknokgflkjaaDoor
open Go.Vc Sim

theorem last_spec (w0 : World) (p : Nat) (s : Sp) (x : Int) (hlen : s.puts.length ≤ 1099511627776) : FnE PP w0 [] 50 [spP p, .int .i64 x] [SpaceA p s] (.int .i64 (lastI s.puts x)) [SpaceA p s] := by
  refine fn_of_run en50 fn50 rfl rfl rfl ?_
  refine run_open [0] (SpaceParts p s) rfl (fun _ h => h) ?_
  rintro ⟨bk, br, sa, cap⟩
  repeat' (first | refine zck ?_ | refine zcp (by kernel_rfl) ?_ | refine zcq PP_mixed (by kernel_rfl) (by kernel_rfl) ?_ | refine zcm ?_ | refine zcl ?_ | refine zcn ?_ | refine zco ?_ | refine zcs rfl ?_ | (refine zap rfl ?_; first | ((with_reducible refine zcu ?_); refine zan rfl ?_) | ((with_reducible refine zcv ?_); refine zan rfl ?_) | ((with_reducible refine zcw ?_); first | refine zaa 0 rfl rfl rfl ?_ | refine zaa 1 rfl rfl rfl ?_ | refine zaa 2 rfl rfl rfl ?_ | refine zaa 3 rfl rfl rfl ?_ | refine zaa 4 rfl rfl rfl ?_ | refine zaa 5 rfl rfl rfl ?_ | refine zab 0 rfl rfl rfl ?_ | refine zab 1 rfl rfl rfl ?_ | refine zab 2 rfl rfl rfl ?_ | refine zab 3 rfl rfl rfl ?_ | refine zab 4 rfl rfl rfl ?_ | refine zab 5 rfl rfl rfl ?_) | ((with_reducible refine zcx ?_); refine zce rfl ?_) | ((with_reducible refine zcy ?_); refine zao rfl ?_) | ((with_reducible refine zda ?_); first | refine zav rfl rfl (by omega) ?_ | refine zbo rfl rfl ?_ | refine zbt rfl rfl ?_ | refine zaz rfl rfl ?_ | refine zbb rfl rfl ?_) | ((with_reducible refine zde ?_); refine zan rfl ?_) | ((with_reducible refine zdf ?_); first | refine zas rfl rfl (by omega) ?_ | refine zat rfl rfl (by omega) ?_)) | refine zch ?_ | refine zci rfl ?_ | refine zcj rfl ?_)
  refine run_loop (S := Nat) (fun k => [(0, spP p), (1, .int .i64 x), (5, .int .i64 ((k : Int) - 1))])
    (fun k Γ => Γ = SpaceParts p s (bk, br, sa, cap) ∧ k ≤ s.puts.length ∧ ∀ j, k ≤ j → j < s.puts.length → ∀ p, s.puts[j]? = some p → p.1 ≠ x)
    (fun k => k) s.puts.length ⟨rfl, rfl, rfl, trivial⟩ ⟨rfl, Nat.le_refl _, fun j h1 h2 => absurd h2 (by omega)⟩ ?_
  rintro k Γ junk ⟨rfl, hk, hno⟩
  repeat' (first | refine zck ?_ | refine zcp (by kernel_rfl) ?_ | refine zcq PP_mixed (by kernel_rfl) (by kernel_rfl) ?_ | refine zcm ?_ | refine zcl ?_ | refine zcn ?_ | refine zco ?_ | refine zcs rfl ?_ | (refine zap rfl ?_; first | ((with_reducible refine zcu ?_); refine zan rfl ?_) | ((with_reducible refine zcv ?_); refine zan rfl ?_) | ((with_reducible refine zcw ?_); first | refine zaa 0 rfl rfl rfl ?_ | refine zaa 1 rfl rfl rfl ?_ | refine zaa 2 rfl rfl rfl ?_ | refine zaa 3 rfl rfl rfl ?_ | refine zaa 4 rfl rfl rfl ?_ | refine zaa 5 rfl rfl rfl ?_ | refine zab 0 rfl rfl rfl ?_ | refine zab 1 rfl rfl rfl ?_ | refine zab 2 rfl rfl rfl ?_ | refine zab 3 rfl rfl rfl ?_ | refine zab 4 rfl rfl rfl ?_ | refine zab 5 rfl rfl rfl ?_) | ((with_reducible refine zcx ?_); refine zce rfl ?_) | ((with_reducible refine zcy ?_); refine zao rfl ?_) | ((with_reducible refine zda ?_); first | refine zav rfl rfl (by omega) ?_ | refine zbo rfl rfl ?_ | refine zbt rfl rfl ?_ | refine zaz rfl rfl ?_ | refine zbb rfl rfl ?_) | ((with_reducible refine zde ?_); refine zan rfl ?_) | ((with_reducible refine zdf ?_); first | refine zas rfl rfl (by omega) ?_ | refine zat rfl rfl (by omega) ?_)) | refine zch ?_ | refine zci rfl ?_ | refine zcj rfl ?_)
  refine run_cond rfl (fun hc => ?_) (fun hc => ?_)
  · have hc : (0 : Int) ≤ (k : Int) - 1 := by simpa using hc
    refine run_sl_cases 3 rfl ?_ ?_
    · intro h1 h2 h3 h4; omega
    · intro nb h1 h2 h3
      subst h1
      obtain ⟨k, rfl⟩ : ∃ m, k = m + 1 := ⟨k - 1, by omega⟩
      have hlt : k < s.puts.length := by omega
      obtain ⟨q, hq⟩ : ∃ q, s.puts[k]? = some q := ⟨_, List.getElem?_eq_getElem hlt⟩
      have hr : ∀ o, o = k * 2 → rd false 1 (flat s.puts) o = some (.int .i64 q.1) := by
        intro o ho; subst ho; exact (flat_get _ _ _ hq).1
      repeat' (first | refine zck ?_ | refine zcp (by kernel_rfl) ?_ | refine zcq PP_mixed (by kernel_rfl) (by kernel_rfl) ?_ | refine zcm ?_ | refine zcl ?_ | refine zcn ?_ | refine zco ?_ | refine zcs rfl ?_ | (refine zap rfl ?_; first | refine zag 3 rfl rfl (hr _ (by omega)) (by intro h; cases h) ?_ | ((with_reducible refine zcu ?_); refine zan rfl ?_) | ((with_reducible refine zcv ?_); refine zan rfl ?_) | ((with_reducible refine zcw ?_); first | refine zaa 0 rfl rfl rfl ?_ | refine zaa 1 rfl rfl rfl ?_ | refine zaa 2 rfl rfl rfl ?_ | refine zaa 3 rfl rfl rfl ?_ | refine zaa 4 rfl rfl rfl ?_ | refine zaa 5 rfl rfl rfl ?_ | refine zab 0 rfl rfl rfl ?_ | refine zab 1 rfl rfl rfl ?_ | refine zab 2 rfl rfl rfl ?_ | refine zab 3 rfl rfl rfl ?_ | refine zab 4 rfl rfl rfl ?_ | refine zab 5 rfl rfl rfl ?_) | ((with_reducible refine zcx ?_); refine zce rfl ?_) | ((with_reducible refine zcy ?_); refine zao rfl ?_) | ((with_reducible refine zda ?_); first | refine zav rfl rfl (by omega) ?_ | refine zbo rfl rfl ?_ | refine zbt rfl rfl ?_ | refine zaz rfl rfl ?_ | refine zbb rfl rfl ?_) | ((with_reducible refine zde ?_); refine zan rfl ?_) | ((with_reducible refine zdf ?_); first | refine zas rfl rfl (by omega) ?_ | refine zat rfl rfl (by omega) ?_)) | refine zch ?_ | refine zci rfl ?_ | refine zcj rfl ?_)
      refine run_condV rfl (fun hE => ?_) (fun hE => ?_)
      · have hE : q.1 = x := by simpa using hE
        repeat' (first | refine zck ?_ | refine zcp (by kernel_rfl) ?_ | refine zcq PP_mixed (by kernel_rfl) (by kernel_rfl) ?_ | refine zcm ?_ | refine zcl ?_ | refine zcn ?_ | refine zco ?_ | refine zcs rfl ?_ | (refine zap rfl ?_; first | ((with_reducible refine zcu ?_); refine zan rfl ?_) | ((with_reducible refine zcv ?_); refine zan rfl ?_) | ((with_reducible refine zcw ?_); first | refine zaa 0 rfl rfl rfl ?_ | refine zaa 1 rfl rfl rfl ?_ | refine zaa 2 rfl rfl rfl ?_ | refine zaa 3 rfl rfl rfl ?_ | refine zaa 4 rfl rfl rfl ?_ | refine zaa 5 rfl rfl rfl ?_ | refine zab 0 rfl rfl rfl ?_ | refine zab 1 rfl rfl rfl ?_ | refine zab 2 rfl rfl rfl ?_ | refine zab 3 rfl rfl rfl ?_ | refine zab 4 rfl rfl rfl ?_ | refine zab 5 rfl rfl rfl ?_) | ((with_reducible refine zcx ?_); refine zce rfl ?_) | ((with_reducible refine zcy ?_); refine zao rfl ?_) | ((with_reducible refine zda ?_); first | refine zav rfl rfl (by omega) ?_ | refine zbo rfl rfl ?_ | refine zbt rfl rfl ?_ | refine zaz rfl rfl ?_ | refine zbb rfl rfl ?_) | ((with_reducible refine zde ?_); refine zan rfl ?_) | ((with_reducible refine zdf ?_); first | refine zas rfl rfl (by omega) ?_ | refine zat rfl rfl (by omega) ?_)) | refine zch ?_ | refine zci rfl ?_ | refine zcj rfl ?_)
        refine run_close1 (A := SpaceA p s) [0, 0, 0, 0] rfl (fun _ h => ⟨(_, _, _, _), h⟩) ?_
        refine qret1 (fun _ _ h => h) rfl ⟨int_eq ?_, rfl⟩
        rw [lastI_spec s.puts x (k + 1) hk hno]
        simp only [lastI.go, hq, Option.map_some, hE, if_true]
        omega
      · have hE : q.1 ≠ x := by simpa using hE
        repeat' (first | refine zck ?_ | refine zcp (by kernel_rfl) ?_ | refine zcq PP_mixed (by kernel_rfl) (by kernel_rfl) ?_ | refine zcm ?_ | refine zcl ?_ | refine zcn ?_ | refine zco ?_ | refine zcs rfl ?_ | (refine zap rfl ?_; first | ((with_reducible refine zcu ?_); refine zan rfl ?_) | ((with_reducible refine zcv ?_); refine zan rfl ?_) | ((with_reducible refine zcw ?_); first | refine zaa 0 rfl rfl rfl ?_ | refine zaa 1 rfl rfl rfl ?_ | refine zaa 2 rfl rfl rfl ?_ | refine zaa 3 rfl rfl rfl ?_ | refine zaa 4 rfl rfl rfl ?_ | refine zaa 5 rfl rfl rfl ?_ | refine zab 0 rfl rfl rfl ?_ | refine zab 1 rfl rfl rfl ?_ | refine zab 2 rfl rfl rfl ?_ | refine zab 3 rfl rfl rfl ?_ | refine zab 4 rfl rfl rfl ?_ | refine zab 5 rfl rfl rfl ?_) | ((with_reducible refine zcx ?_); refine zce rfl ?_) | ((with_reducible refine zcy ?_); refine zao rfl ?_) | ((with_reducible refine zda ?_); first | refine zav rfl rfl (by omega) ?_ | refine zbo rfl rfl ?_ | refine zbt rfl rfl ?_ | refine zaz rfl rfl ?_ | refine zbb rfl rfl ?_) | ((with_reducible refine zde ?_); refine zan rfl ?_) | ((with_reducible refine zdf ?_); first | refine zas rfl rfl (by omega) ?_ | refine zat rfl rfl (by omega) ?_)) | refine zch ?_ | refine zci rfl ?_ | refine zcj rfl ?_)
        refine cut_end ⟨rfl, k, ⟨rfl, rfl, int_eq (by omega), trivial⟩, ⟨rfl, by omega, ?_⟩, by omega⟩
        intro j h1 h2 p hp
        by_cases hj : j = k
        · subst hj; rw [hq] at hp; cases hp; exact hE
        · exact hno j (by omega) h2 p hp
  · have hc : ¬ (0 : Int) ≤ (k : Int) - 1 := by simpa using hc
    have hk0 : k = 0 := by omega
    subst hk0
    repeat' (first | refine zck ?_ | refine zcp (by kernel_rfl) ?_ | refine zcq PP_mixed (by kernel_rfl) (by kernel_rfl) ?_ | refine zcm ?_ | refine zcl ?_ | refine zcn ?_ | refine zco ?_ | refine zcs rfl ?_ | (refine zap rfl ?_; first | ((with_reducible refine zcu ?_); refine zan rfl ?_) | ((with_reducible refine zcv ?_); refine zan rfl ?_) | ((with_reducible refine zcw ?_); first | refine zaa 0 rfl rfl rfl ?_ | refine zaa 1 rfl rfl rfl ?_ | refine zaa 2 rfl rfl rfl ?_ | refine zaa 3 rfl rfl rfl ?_ | refine zaa 4 rfl rfl rfl ?_ | refine zaa 5 rfl rfl rfl ?_ | refine zab 0 rfl rfl rfl ?_ | refine zab 1 rfl rfl rfl ?_ | refine zab 2 rfl rfl rfl ?_ | refine zab 3 rfl rfl rfl ?_ | refine zab 4 rfl rfl rfl ?_ | refine zab 5 rfl rfl rfl ?_) | ((with_reducible refine zcx ?_); refine zce rfl ?_) | ((with_reducible refine zcy ?_); refine zao rfl ?_) | ((with_reducible refine zda ?_); first | refine zav rfl rfl (by omega) ?_ | refine zbo rfl rfl ?_ | refine zbt rfl rfl ?_ | refine zaz rfl rfl ?_ | refine zbb rfl rfl ?_) | ((with_reducible refine zde ?_); refine zan rfl ?_) | ((with_reducible refine zdf ?_); first | refine zas rfl rfl (by omega) ?_ | refine zat rfl rfl (by omega) ?_)) | refine zch ?_ | refine zci rfl ?_ | refine zcj rfl ?_)
    refine cut_exit rfl rfl ?_
    repeat' (first | refine zck ?_ | refine zcp (by kernel_rfl) ?_ | refine zcq PP_mixed (by kernel_rfl) (by kernel_rfl) ?_ | refine zcm ?_ | refine zcl ?_ | refine zcn ?_ | refine zco ?_ | refine zcs rfl ?_ | (refine zap rfl ?_; first | ((with_reducible refine zcu ?_); refine zan rfl ?_) | ((with_reducible refine zcv ?_); refine zan rfl ?_) | ((with_reducible refine zcw ?_); first | refine zaa 0 rfl rfl rfl ?_ | refine zaa 1 rfl rfl rfl ?_ | refine zaa 2 rfl rfl rfl ?_ | refine zaa 3 rfl rfl rfl ?_ | refine zaa 4 rfl rfl rfl ?_ | refine zaa 5 rfl rfl rfl ?_ | refine zab 0 rfl rfl rfl ?_ | refine zab 1 rfl rfl rfl ?_ | refine zab 2 rfl rfl rfl ?_ | refine zab 3 rfl rfl rfl ?_ | refine zab 4 rfl rfl rfl ?_ | refine zab 5 rfl rfl rfl ?_) | ((with_reducible refine zcx ?_); refine zce rfl ?_) | ((with_reducible refine zcy ?_); refine zao rfl ?_) | ((with_reducible refine zda ?_); first | refine zav rfl rfl (by omega) ?_ | refine zbo rfl rfl ?_ | refine zbt rfl rfl ?_ | refine zaz rfl rfl ?_ | refine zbb rfl rfl ?_) | ((with_reducible refine zde ?_); refine zan rfl ?_) | ((with_reducible refine zdf ?_); first | refine zas rfl rfl (by omega) ?_ | refine zat rfl rfl (by omega) ?_)) | refine zch ?_ | refine zci rfl ?_ | refine zcj rfl ?_)
    refine run_close1 (A := SpaceA p s) [0, 0, 0, 0] rfl (fun _ h => ⟨(_, _, _, _), h⟩) ?_
    refine ret_tmp1 rfl ⟨int_eq ?_, rfl⟩
    rw [lastI_spec s.puts x 0 hk hno]; rfl
end Go.Proofs.YtilnknokgflkjaaDoor

namespace Go.Proofs.YtilnknokgflkjaaDoor
open Go.Vc Sim

theorem value_spec (w0 : World) (p : Nat) (s : Sp) (x : Int) (hlen : s.puts.length ≤ 1099511627776) : FnE PP w0 [] 42 [spP p, .int .i64 x] [SpaceA p s] (.tuple #[.int .i64 (s.value x).1, .bool (s.value x).2]) [SpaceA p s] := by
  refine fn_of_run en42 fn42 rfl rfl rfl ?_
  rcases lastI_lastV s.puts x with ⟨h1, h2⟩ | ⟨j, q, h1, hq, h2, h3⟩
  · repeat' (first | refine zck ?_ | refine zcp (by kernel_rfl) ?_ | refine zcq PP_mixed (by kernel_rfl) (by kernel_rfl) ?_ | refine zcm ?_ | refine zcl ?_ | refine zcn ?_ | refine zco ?_ | refine zcs rfl ?_ | (refine zap rfl ?_; first | ((with_reducible refine zcu ?_); refine zan rfl ?_) | ((with_reducible refine zcv ?_); refine zan rfl ?_) | ((with_reducible refine zcw ?_); first | refine zaa 0 rfl rfl rfl ?_ | refine zaa 1 rfl rfl rfl ?_ | refine zaa 2 rfl rfl rfl ?_ | refine zaa 3 rfl rfl rfl ?_ | refine zaa 4 rfl rfl rfl ?_ | refine zaa 5 rfl rfl rfl ?_ | refine zab 0 rfl rfl rfl ?_ | refine zab 1 rfl rfl rfl ?_ | refine zab 2 rfl rfl rfl ?_ | refine zab 3 rfl rfl rfl ?_ | refine zab 4 rfl rfl rfl ?_ | refine zab 5 rfl rfl rfl ?_) | ((with_reducible refine zcx ?_); refine zah [0] (last_spec w0 p s x hlen) rfl rfl rfl sub_nil rfl ?_) | ((with_reducible refine zcy ?_); refine zao rfl ?_) | ((with_reducible refine zda ?_); refine zbt rfl rfl ?_) | ((with_reducible refine zde ?_); refine zan rfl ?_) | ((with_reducible refine zdf ?_); first | refine zas rfl rfl (by omega) ?_ | refine zat rfl rfl (by omega) ?_)) | refine zch ?_ | refine zci rfl ?_ | refine zcj rfl ?_)
    refine zcj (by rw [h2]; rfl) ?_
    refine run_open [0] (SpaceParts p s) rfl (fun _ h => h) ?_
    rintro ⟨bk, br, sa, cap⟩
    cases hk : lookW s.kn x with
    | none =>
      have hl : Vc.look (knM s.kn) x = none := by rw [look_knM, hk]; rfl
      repeat' (first | refine zck ?_ | refine zcp (by kernel_rfl) ?_ | refine zcq PP_mixed (by kernel_rfl) (by kernel_rfl) ?_ | refine zcm ?_ | refine zcl ?_ | refine zcn ?_ | refine zco ?_ | refine zcs rfl ?_ | (refine zap rfl ?_; first | refine reg_lookup1 1 rfl rfl rfl hl ?_ | refine reg_fieldV rfl rfl ?_ | ((with_reducible refine zcu ?_); refine zan rfl ?_) | ((with_reducible refine zcv ?_); refine zan rfl ?_) | ((with_reducible refine zcw ?_); first | refine zaa 0 rfl rfl rfl ?_ | refine zaa 1 rfl rfl rfl ?_ | refine zaa 2 rfl rfl rfl ?_ | refine zaa 3 rfl rfl rfl ?_ | refine zaa 4 rfl rfl rfl ?_ | refine zaa 5 rfl rfl rfl ?_ | refine zab 0 rfl rfl rfl ?_ | refine zab 1 rfl rfl rfl ?_ | refine zab 2 rfl rfl rfl ?_ | refine zab 3 rfl rfl rfl ?_ | refine zab 4 rfl rfl rfl ?_ | refine zab 5 rfl rfl rfl ?_) | ((with_reducible refine zcy ?_); refine zao rfl ?_) | ((with_reducible refine zda ?_); refine zbt rfl rfl ?_) | ((with_reducible refine zde ?_); refine zan rfl ?_) | ((with_reducible refine zdf ?_); first | refine zas rfl rfl (by omega) ?_ | refine zat rfl rfl (by omega) ?_)) | refine zch ?_ | refine zci rfl ?_ | refine zcj rfl ?_)
      have e : s.value x = (0, false) := by simp [Sp.value, h1, hk]
      rw [e]
      refine run_close1 (A := SpaceA p s) [0, 0, 0, 0] rfl (fun _ h => ⟨(_, _, _, _), h⟩) ?_
      refine ret_tmp2 rfl ⟨rfl, rfl⟩
    | some wd =>
      have hl : Vc.look (knM s.kn) x = some (wordV wd) := by rw [look_knM, hk]; rfl
      repeat' (first | refine zck ?_ | refine zcp (by kernel_rfl) ?_ | refine zcq PP_mixed (by kernel_rfl) (by kernel_rfl) ?_ | refine zcm ?_ | refine zcl ?_ | refine zcn ?_ | refine zco ?_ | refine zcs rfl ?_ | (refine zap rfl ?_; first | refine reg_lookup1 1 rfl rfl rfl hl ?_ | refine reg_fieldV rfl rfl ?_ | ((with_reducible refine zcu ?_); refine zan rfl ?_) | ((with_reducible refine zcv ?_); refine zan rfl ?_) | ((with_reducible refine zcw ?_); first | refine zaa 0 rfl rfl rfl ?_ | refine zaa 1 rfl rfl rfl ?_ | refine zaa 2 rfl rfl rfl ?_ | refine zaa 3 rfl rfl rfl ?_ | refine zaa 4 rfl rfl rfl ?_ | refine zaa 5 rfl rfl rfl ?_ | refine zab 0 rfl rfl rfl ?_ | refine zab 1 rfl rfl rfl ?_ | refine zab 2 rfl rfl rfl ?_ | refine zab 3 rfl rfl rfl ?_ | refine zab 4 rfl rfl rfl ?_ | refine zab 5 rfl rfl rfl ?_) | ((with_reducible refine zcy ?_); refine zao rfl ?_) | ((with_reducible refine zda ?_); refine zbt rfl rfl ?_) | ((with_reducible refine zde ?_); refine zan rfl ?_) | ((with_reducible refine zdf ?_); first | refine zas rfl rfl (by omega) ?_ | refine zat rfl rfl (by omega) ?_)) | refine zch ?_ | refine zci rfl ?_ | refine zcj rfl ?_)
      have e : s.value x = (wd.val, false) := by simp [Sp.value, h1, hk]
      rw [e]
      refine run_close1 (A := SpaceA p s) [0, 0, 0, 0] rfl (fun _ h => ⟨(_, _, _, _), h⟩) ?_
      refine ret_tmp2 rfl ⟨rfl, rfl⟩
  · have hr : ∀ o, o = j * 2 + 1 → rd false 1 (flat s.puts) o = some (.int .i64 q.2) := by
      intro o ho; subst ho; exact (flat_get _ _ _ hq).2
    repeat' (first | refine zck ?_ | refine zcp (by kernel_rfl) ?_ | refine zcq PP_mixed (by kernel_rfl) (by kernel_rfl) ?_ | refine zcm ?_ | refine zcl ?_ | refine zcn ?_ | refine zco ?_ | refine zcs rfl ?_ | (refine zap rfl ?_; first | ((with_reducible refine zcu ?_); refine zan rfl ?_) | ((with_reducible refine zcv ?_); refine zan rfl ?_) | ((with_reducible refine zcw ?_); first | refine zaa 0 rfl rfl rfl ?_ | refine zaa 1 rfl rfl rfl ?_ | refine zaa 2 rfl rfl rfl ?_ | refine zaa 3 rfl rfl rfl ?_ | refine zaa 4 rfl rfl rfl ?_ | refine zaa 5 rfl rfl rfl ?_ | refine zab 0 rfl rfl rfl ?_ | refine zab 1 rfl rfl rfl ?_ | refine zab 2 rfl rfl rfl ?_ | refine zab 3 rfl rfl rfl ?_ | refine zab 4 rfl rfl rfl ?_ | refine zab 5 rfl rfl rfl ?_) | ((with_reducible refine zcx ?_); refine zah [0] (last_spec w0 p s x hlen) rfl rfl rfl sub_nil rfl ?_) | ((with_reducible refine zcy ?_); refine zao rfl ?_) | ((with_reducible refine zda ?_); refine zbt rfl rfl ?_) | ((with_reducible refine zde ?_); refine zan rfl ?_) | ((with_reducible refine zdf ?_); first | refine zas rfl rfl (by omega) ?_ | refine zat rfl rfl (by omega) ?_)) | refine zch ?_ | refine zci rfl ?_ | refine zcj rfl ?_)
    refine zci (by rw [h3]; exact bool_eq (by simp)) ?_
    refine run_open [0] (SpaceParts p s) rfl (fun _ h => h) ?_
    rintro ⟨bk, br, sa, cap⟩
    refine run_sl_cases 3 rfl (fun _ h => absurd h (by omega)) ?_
    intro nb e1 e2 e3
    subst e1
    repeat' (first | refine zck ?_ | refine zcp (by kernel_rfl) ?_ | refine zcq PP_mixed (by kernel_rfl) (by kernel_rfl) ?_ | refine zcm ?_ | refine zcl ?_ | refine zcn ?_ | refine zco ?_ | refine zcs rfl ?_ | (refine zap rfl ?_; first | refine zag 3 rfl rfl (hr _ (by omega)) (by intro h; cases h) ?_ | ((with_reducible refine zcu ?_); refine zan rfl ?_) | ((with_reducible refine zcv ?_); refine zan rfl ?_) | ((with_reducible refine zcw ?_); first | refine zaa 0 rfl rfl rfl ?_ | refine zaa 1 rfl rfl rfl ?_ | refine zaa 2 rfl rfl rfl ?_ | refine zaa 3 rfl rfl rfl ?_ | refine zaa 4 rfl rfl rfl ?_ | refine zaa 5 rfl rfl rfl ?_ | refine zab 0 rfl rfl rfl ?_ | refine zab 1 rfl rfl rfl ?_ | refine zab 2 rfl rfl rfl ?_ | refine zab 3 rfl rfl rfl ?_ | refine zab 4 rfl rfl rfl ?_ | refine zab 5 rfl rfl rfl ?_) | ((with_reducible refine zcy ?_); refine zao rfl ?_) | ((with_reducible refine zda ?_); refine zbt rfl rfl ?_) | ((with_reducible refine zde ?_); refine zan rfl ?_) | ((with_reducible refine zdf ?_); first | refine zas rfl rfl (by omega) ?_ | refine zat rfl rfl (by omega) ?_)) | refine zch ?_ | refine zci rfl ?_ | refine zcj rfl ?_)
    have e : s.value x = (q.2, true) := by simp [Sp.value, h2]
    rw [e]
    refine run_close1 (A := SpaceA p s) [0, 0, 0, 0] rfl (fun _ h => ⟨(_, _, _, _), h⟩) ?_
    refine ret_tmp2 rfl ⟨rfl, rfl⟩

theorem reads_puts (s : Sp) (x : Int) : (s.reads x).2.puts = s.puts := by unfold Sp.reads; split; rfl; split <;> rfl

theorem get_spec (w0 : World) (p : Nat) (s : Sp) (x : Int) (hlen : s.puts.length ≤ 1099511627776) : FnE PP w0 [] 28 [spP p, .int .i64 x] [SpaceA p s] (.int .i64 (s.get x).1) [SpaceA p (s.get x).2] := by
  refine fn_of_run en28 fn28 rfl rfl rfl ?_
  repeat' (first | refine zck ?_ | refine zcp (by kernel_rfl) ?_ | refine zcq PP_mixed (by kernel_rfl) (by kernel_rfl) ?_ | refine zcm ?_ | refine zcl ?_ | refine zcn ?_ | refine zco ?_ | refine zcs rfl ?_ | (refine zap rfl ?_; first | ((with_reducible refine zcu ?_); refine zan rfl ?_) | ((with_reducible refine zcv ?_); refine zan rfl ?_) | ((with_reducible refine zcx ?_); refine zah [0] (reads_spec w0 p s x) rfl rfl rfl sub_nil rfl ?_) | ((with_reducible refine zcz ?_); refine zan rfl ?_) | ((with_reducible refine zdb ?_); first | refine zby rfl ?_ | refine zbx rfl ?_)) | refine zch ?_ | refine zci rfl ?_ | refine zcj rfl ?_)
  refine run_condV rfl (fun hE => ?_) (fun hE => ?_)
  · have hE : (s.reads x).1 = false := by simpa using hE
    repeat' (first | refine zck ?_ | refine zcp (by kernel_rfl) ?_ | refine zcq PP_mixed (by kernel_rfl) (by kernel_rfl) ?_ | refine zcm ?_ | refine zcl ?_ | refine zcn ?_ | refine zco ?_ | refine zcs rfl ?_ | (refine zap rfl ?_; first | ((with_reducible refine zcu ?_); refine zan rfl ?_) | ((with_reducible refine zcv ?_); refine zan rfl ?_) | ((with_reducible refine zcz ?_); refine zan rfl ?_) | ((with_reducible refine zdb ?_); first | refine zby rfl ?_ | refine zbx rfl ?_)) | refine zch ?_ | refine zci rfl ?_ | refine zcj rfl ?_)
    have e : s.get x = (0, (s.reads x).2) := by simp [Sp.get, hE]
    rw [e]
    refine ret_tmp1 rfl ⟨rfl, rfl⟩
  · have hE : (s.reads x).1 = true := by simpa using hE
    repeat' (first | refine zck ?_ | refine zcp (by kernel_rfl) ?_ | refine zcq PP_mixed (by kernel_rfl) (by kernel_rfl) ?_ | refine zcm ?_ | refine zcl ?_ | refine zcn ?_ | refine zco ?_ | refine zcs rfl ?_ | (refine zap rfl ?_; first | ((with_reducible refine zcu ?_); refine zan rfl ?_) | ((with_reducible refine zcv ?_); refine zan rfl ?_) | ((with_reducible refine zcx ?_); refine zah [0] (value_spec w0 p (s.reads x).2 x (by rw [reads_puts]; exact hlen)) rfl rfl rfl sub_nil rfl ?_) | ((with_reducible refine zcz ?_); refine zan rfl ?_) | ((with_reducible refine zdb ?_); first | refine zby rfl ?_ | refine zbx rfl ?_)) | refine zch ?_ | refine zci rfl ?_ | refine zcj rfl ?_)
    have e : s.get x = (((s.reads x).2.value x).1, (s.reads x).2) := by simp [Sp.get, hE]
    rw [e]
    refine ret_tmp1 rfl ⟨rfl, rfl⟩

theorem put_spec (w0 : World) (p : Nat) (s : Sp) (x v : Int) (hlen : s.puts.length ≤ 1099511627776) : FnE PP w0 [] 31 [spP p, .int .i64 x, .int .i64 v] [SpaceA p s] (.tuple #[]) [SpaceA p (s.put x v)] := by
  refine fn_of_run en31 fn31 rfl rfl rfl ?_
  repeat' (first | refine zck ?_ | refine zcp (by kernel_rfl) ?_ | refine zcq PP_mixed (by kernel_rfl) (by kernel_rfl) ?_ | refine zcm ?_ | refine zcl ?_ | refine zcn ?_ | refine zco ?_ | refine zcs rfl ?_ | (refine zap rfl ?_; first | ((with_reducible refine zcu ?_); refine zan rfl ?_) | ((with_reducible refine zcw ?_); first | refine zaa 0 rfl rfl rfl ?_ | refine zaa 1 rfl rfl rfl ?_ | refine zaa 2 rfl rfl rfl ?_ | refine zaa 3 rfl rfl rfl ?_ | refine zaa 4 rfl rfl rfl ?_ | refine zaa 5 rfl rfl rfl ?_ | refine zab 0 rfl rfl rfl ?_ | refine zab 1 rfl rfl rfl ?_ | refine zab 2 rfl rfl rfl ?_ | refine zab 3 rfl rfl rfl ?_ | refine zab 4 rfl rfl rfl ?_ | refine zab 5 rfl rfl rfl ?_) | ((with_reducible refine zcx ?_); refine zah [0] (reads_spec w0 p s x) rfl rfl rfl sub_nil rfl ?_) | ((with_reducible refine zcy ?_); refine zao rfl ?_) | ((with_reducible refine zdd ?_); first | refine zae 0 rfl rfl rfl rfl rfl rfl rfl ?_ | refine zae 1 rfl rfl rfl rfl rfl rfl rfl ?_ | refine zae 2 rfl rfl rfl rfl rfl rfl rfl ?_ | refine zae 3 rfl rfl rfl rfl rfl rfl rfl ?_ | refine zae 4 rfl rfl rfl rfl rfl rfl rfl ?_ | refine zae 5 rfl rfl rfl rfl rfl rfl rfl ?_) | ((with_reducible refine zde ?_); refine zan rfl ?_) | refine zcb rfl ?_) | refine zch ?_ | refine zci rfl ?_ | refine zcj rfl ?_)
  refine run_condV rfl (fun hE => ?_) (fun hE => ?_)
  · generalize hs1 : (s.reads x).2 = s1
    have hp1 : s1.puts = s.puts := by rw [← hs1, reads_puts]
    have e : s.put x v = { s1 with puts := s1.puts ++ [(x, v)] } := by simp [Sp.put, hE, hs1, hp1]
    rw [e]
    refine run_open [0] (SpaceParts p s1) rfl (fun _ h => h) ?_
    rintro ⟨bk, br, sa, cap⟩
    repeat' (first | refine zck ?_ | refine zcp (by kernel_rfl) ?_ | refine zcq PP_mixed (by kernel_rfl) (by kernel_rfl) ?_ | refine zcm ?_ | refine zcl ?_ | refine zcn ?_ | refine zco ?_ | refine zcs rfl ?_ | (refine zap rfl ?_; first | refine zcb rfl ?_ | refine reg_buildSlice rfl rfl rfl rfl rfl rfl (fun nb => ?_) | refine reg_append 3 4 rfl rfl rfl rfl rfl rfl rfl rfl (by rw [hp1]; omega) (fun _ _ => rfl) (fun a' cap' => ?_) | ((with_reducible refine zcu ?_); refine zan rfl ?_) | ((with_reducible refine zcw ?_); first | refine zaa 0 rfl rfl rfl ?_ | refine zaa 1 rfl rfl rfl ?_ | refine zaa 2 rfl rfl rfl ?_ | refine zaa 3 rfl rfl rfl ?_ | refine zaa 4 rfl rfl rfl ?_ | refine zaa 5 rfl rfl rfl ?_ | refine zab 0 rfl rfl rfl ?_ | refine zab 1 rfl rfl rfl ?_ | refine zab 2 rfl rfl rfl ?_ | refine zab 3 rfl rfl rfl ?_ | refine zab 4 rfl rfl rfl ?_ | refine zab 5 rfl rfl rfl ?_) | ((with_reducible refine zcy ?_); refine zao rfl ?_) | ((with_reducible refine zdd ?_); first | refine zae 0 rfl rfl rfl rfl rfl rfl rfl ?_ | refine zae 1 rfl rfl rfl rfl rfl rfl rfl ?_ | refine zae 2 rfl rfl rfl rfl rfl rfl rfl ?_ | refine zae 3 rfl rfl rfl rfl rfl rfl rfl ?_ | refine zae 4 rfl rfl rfl rfl rfl rfl rfl ?_ | refine zae 5 rfl rfl rfl rfl rfl rfl rfl ?_) | ((with_reducible refine zde ?_); refine zan rfl ?_) | refine zcb rfl ?_) | refine zch ?_ | refine zci rfl ?_ | refine zcj rfl ?_)
    refine run_close1 (A := SpaceA p { s1 with puts := s1.puts ++ [(x, v)] }) [0, 0, 0, 0] rfl (fun _ h => ⟨(bk, br, a', cap'), by unfold SpaceParts; rw [flat_append, List.length_append]; exact h⟩) ?_
    exact end_tmp0 rfl ⟨rfl, rfl⟩
  · have e : s.put x v = (s.reads x).2 := by simp [Sp.put, hE]
    rw [e]
    repeat' (first | refine zck ?_ | refine zcp (by kernel_rfl) ?_ | refine zcq PP_mixed (by kernel_rfl) (by kernel_rfl) ?_ | refine zcm ?_ | refine zcl ?_ | refine zcn ?_ | refine zco ?_ | refine zcs rfl ?_ | (refine zap rfl ?_; first | ((with_reducible refine zcu ?_); refine zan rfl ?_) | ((with_reducible refine zcw ?_); first | refine zaa 0 rfl rfl rfl ?_ | refine zaa 1 rfl rfl rfl ?_ | refine zaa 2 rfl rfl rfl ?_ | refine zaa 3 rfl rfl rfl ?_ | refine zaa 4 rfl rfl rfl ?_ | refine zaa 5 rfl rfl rfl ?_ | refine zab 0 rfl rfl rfl ?_ | refine zab 1 rfl rfl rfl ?_ | refine zab 2 rfl rfl rfl ?_ | refine zab 3 rfl rfl rfl ?_ | refine zab 4 rfl rfl rfl ?_ | refine zab 5 rfl rfl rfl ?_) | ((with_reducible refine zcy ?_); refine zao rfl ?_) | ((with_reducible refine zdd ?_); first | refine zae 0 rfl rfl rfl rfl rfl rfl rfl ?_ | refine zae 1 rfl rfl rfl rfl rfl rfl rfl ?_ | refine zae 2 rfl rfl rfl rfl rfl rfl rfl ?_ | refine zae 3 rfl rfl rfl rfl rfl rfl rfl ?_ | refine zae 4 rfl rfl rfl rfl rfl rfl rfl ?_ | refine zae 5 rfl rfl rfl rfl rfl rfl rfl ?_) | ((with_reducible refine zde ?_); refine zan rfl ?_) | refine zcb rfl ?_) | refine zch ?_ | refine zci rfl ?_ | refine zcj rfl ?_)
    exact end_tmp0 rfl ⟨rfl, rfl⟩

theorem back_spec (w0 : World) (p : Nat) (s : Sp) (m : Int) : FnE PP w0 [] 44 [spP p, .int .i64 m] [SpaceA p s] (.tuple #[]) [SpaceA p (s.back m)] := by
  refine fn_of_run en44 fn44 rfl rfl rfl ?_
  obtain ⟨kn, rd, puts, need, ended⟩ := s
  generalize hs : (⟨kn, rd, puts, need, ended⟩ : Sp) = s
  cases ended with
  | true =>
    have e : s.back m = s := by rw [← hs]; simp [Sp.back]
    rw [e, ← hs]
    repeat' (first | refine zck ?_ | refine zcp (by kernel_rfl) ?_ | refine zcq PP_mixed (by kernel_rfl) (by kernel_rfl) ?_ | refine zcm ?_ | refine zcl ?_ | refine zcn ?_ | refine zco ?_ | refine zcs rfl ?_ | (refine zap rfl ?_; first | ((with_reducible refine zct ?_); first | refine zaj rfl ?_ | refine zak rfl ?_ | refine zal rfl ?_ | refine zam rfl rfl (fun _ => ?_) (fun _ => ?_)) | ((with_reducible refine zcu ?_); refine zan rfl ?_) | ((with_reducible refine zcw ?_); first | refine zaa 0 rfl rfl rfl ?_ | refine zaa 1 rfl rfl rfl ?_ | refine zaa 2 rfl rfl rfl ?_ | refine zaa 3 rfl rfl rfl ?_ | refine zaa 4 rfl rfl rfl ?_ | refine zaa 5 rfl rfl rfl ?_ | refine zab 0 rfl rfl rfl ?_ | refine zab 1 rfl rfl rfl ?_ | refine zab 2 rfl rfl rfl ?_ | refine zab 3 rfl rfl rfl ?_ | refine zab 4 rfl rfl rfl ?_ | refine zab 5 rfl rfl rfl ?_) | ((with_reducible refine zcx ?_); first | refine zah [0] (ended_spec w0 p _) rfl rfl rfl sub_nil rfl ?_ | refine zce rfl ?_) | ((with_reducible refine zcy ?_); refine zao rfl ?_) | ((with_reducible refine zda ?_); first | refine zbr rfl rfl ?_ | refine zbt rfl rfl ?_) | ((with_reducible refine zdb ?_); first | refine zby rfl ?_ | refine zbx rfl ?_) | ((with_reducible refine zdc ?_); first | refine zbu rfl ?_ | refine zbv rfl ?_ | refine zbw rfl rfl rfl ?_) | ((with_reducible refine zdd ?_); first | refine zae 0 rfl rfl rfl rfl rfl rfl rfl ?_ | refine zae 1 rfl rfl rfl rfl rfl rfl rfl ?_ | refine zae 2 rfl rfl rfl rfl rfl rfl rfl ?_ | refine zae 3 rfl rfl rfl rfl rfl rfl rfl ?_ | refine zae 4 rfl rfl rfl rfl rfl rfl rfl ?_ | refine zae 5 rfl rfl rfl rfl rfl rfl rfl ?_) | ((with_reducible refine zde ?_); refine zan rfl ?_)) | refine zch ?_ | refine zci rfl ?_ | refine zcj rfl ?_)
    exact end_tmp0 rfl ⟨rfl, rfl⟩
  | false =>
    by_cases h0 : 0 ≤ m
    · have d0 : decide (0 ≤ m) = true := decide_eq_true h0
      by_cases h1 : m ≤ puts.length
      · have d1 : decide (m ≤ (puts.length : Int)) = true := decide_eq_true h1
        have e : s.back m = ⟨kn, rd, puts.take m.toNat, need, false⟩ := by rw [← hs]; simp [Sp.back, h0, h1]
        rw [e, ← hs]
        repeat' (first | refine zck ?_ | refine zcp (by kernel_rfl) ?_ | refine zcq PP_mixed (by kernel_rfl) (by kernel_rfl) ?_ | refine zcm ?_ | refine zcl ?_ | refine zcn ?_ | refine zco ?_ | refine zcs rfl ?_ | (refine zap rfl ?_; first | (refine zbt rfl rfl ?_; rw [d0]) | ((with_reducible refine zct ?_); first | refine zaj rfl ?_ | refine zak rfl ?_ | refine zal rfl ?_ | refine zam rfl rfl (fun _ => ?_) (fun _ => ?_)) | ((with_reducible refine zcu ?_); refine zan rfl ?_) | ((with_reducible refine zcw ?_); first | refine zaa 0 rfl rfl rfl ?_ | refine zaa 1 rfl rfl rfl ?_ | refine zaa 2 rfl rfl rfl ?_ | refine zaa 3 rfl rfl rfl ?_ | refine zaa 4 rfl rfl rfl ?_ | refine zaa 5 rfl rfl rfl ?_ | refine zab 0 rfl rfl rfl ?_ | refine zab 1 rfl rfl rfl ?_ | refine zab 2 rfl rfl rfl ?_ | refine zab 3 rfl rfl rfl ?_ | refine zab 4 rfl rfl rfl ?_ | refine zab 5 rfl rfl rfl ?_) | ((with_reducible refine zcx ?_); first | refine zah [0] (ended_spec w0 p _) rfl rfl rfl sub_nil rfl ?_ | refine zce rfl ?_) | ((with_reducible refine zcy ?_); refine zao rfl ?_) | ((with_reducible refine zda ?_); first | refine zbr rfl rfl ?_ | refine zbt rfl rfl ?_) | ((with_reducible refine zdb ?_); first | refine zby rfl ?_ | refine zbx rfl ?_) | ((with_reducible refine zdc ?_); first | refine zbu rfl ?_ | refine zbv rfl ?_ | refine zbw rfl rfl rfl ?_) | ((with_reducible refine zdd ?_); first | refine zae 0 rfl rfl rfl rfl rfl rfl rfl ?_ | refine zae 1 rfl rfl rfl rfl rfl rfl rfl ?_ | refine zae 2 rfl rfl rfl rfl rfl rfl rfl ?_ | refine zae 3 rfl rfl rfl rfl rfl rfl rfl ?_ | refine zae 4 rfl rfl rfl rfl rfl rfl rfl ?_ | refine zae 5 rfl rfl rfl rfl rfl rfl rfl ?_) | ((with_reducible refine zde ?_); refine zan rfl ?_)) | refine zch ?_ | refine zci rfl ?_ | refine zcj rfl ?_)
        refine reg_open [0] (SpaceParts p ⟨kn, rd, puts, need, false⟩) rfl rfl (fun _ h => h) ?_
        rintro ⟨bk, br, sa, cap⟩
        refine reg_know rfl (sl_know 3 rfl) (fun hcap => ?_)
        have hcap2 : puts.length ≤ cap := hcap.2
        repeat' (first | refine zck ?_ | refine zcp (by kernel_rfl) ?_ | refine zcq PP_mixed (by kernel_rfl) (by kernel_rfl) ?_ | refine zcm ?_ | refine zcl ?_ | refine zcn ?_ | refine zco ?_ | refine zcs rfl ?_ | (refine zap rfl ?_; first | (refine zbr rfl rfl ?_; rw [d1]) | refine reg_slice3 rfl rfl rfl (h' := m) (m' := m) ⟨h0, Int.le_refl _, Int.le_trans h1 (Int.ofNat_le.2 hcap2)⟩ ?_ | ((with_reducible refine zct ?_); first | refine zaj rfl ?_ | refine zak rfl ?_ | refine zal rfl ?_ | refine zam rfl rfl (fun _ => ?_) (fun _ => ?_)) | ((with_reducible refine zcu ?_); refine zan rfl ?_) | ((with_reducible refine zcw ?_); first | refine zaa 0 rfl rfl rfl ?_ | refine zaa 1 rfl rfl rfl ?_ | refine zaa 2 rfl rfl rfl ?_ | refine zaa 3 rfl rfl rfl ?_ | refine zaa 4 rfl rfl rfl ?_ | refine zaa 5 rfl rfl rfl ?_ | refine zab 0 rfl rfl rfl ?_ | refine zab 1 rfl rfl rfl ?_ | refine zab 2 rfl rfl rfl ?_ | refine zab 3 rfl rfl rfl ?_ | refine zab 4 rfl rfl rfl ?_ | refine zab 5 rfl rfl rfl ?_) | ((with_reducible refine zcx ?_); refine zce rfl ?_) | ((with_reducible refine zcy ?_); refine zao rfl ?_) | ((with_reducible refine zda ?_); first | refine zbr rfl rfl ?_ | refine zbt rfl rfl ?_) | ((with_reducible refine zdb ?_); first | refine zby rfl ?_ | refine zbx rfl ?_) | ((with_reducible refine zdc ?_); first | refine zbu rfl ?_ | refine zbv rfl ?_ | refine zbw rfl rfl rfl ?_) | ((with_reducible refine zdd ?_); first | refine zae 0 rfl rfl rfl rfl rfl rfl rfl ?_ | refine zae 1 rfl rfl rfl rfl rfl rfl rfl ?_ | refine zae 2 rfl rfl rfl rfl rfl rfl rfl ?_ | refine zae 3 rfl rfl rfl rfl rfl rfl rfl ?_ | refine zae 4 rfl rfl rfl rfl rfl rfl rfl ?_ | refine zae 5 rfl rfl rfl rfl rfl rfl rfl ?_) | ((with_reducible refine zde ?_); refine zan rfl ?_)) | refine zch ?_ | refine zci rfl ?_ | refine zcj rfl ?_)
        refine run_exch 3 (SlA 103 2 sa m.toNat m.toNat ((flat puts).take (m.toNat * 2))) rfl (fun g hg => SlA_cut hg (by show m.toNat ≤ puts.length; omega)) rfl ?_
        have hl : (puts.take m.toNat).length = m.toNat := by rw [List.length_take]; omega
        refine run_close1 (A := SpaceA p ⟨kn, rd, puts.take m.toNat, need, false⟩) [0, 0, 0, 0] rfl (fun _ h => ⟨(bk, br, sa, m.toNat), by unfold SpaceParts; rw [hl, ← flat_take]; exact h⟩) ?_
        exact end_tmp0 rfl ⟨rfl, rfl⟩
      · have d1 : decide (m ≤ (puts.length : Int)) = false := decide_eq_false h1
        have e : s.back m = s := by rw [← hs]; simp [Sp.back, h1]
        rw [e, ← hs]
        repeat' (first | refine zck ?_ | refine zcp (by kernel_rfl) ?_ | refine zcq PP_mixed (by kernel_rfl) (by kernel_rfl) ?_ | refine zcm ?_ | refine zcl ?_ | refine zcn ?_ | refine zco ?_ | refine zcs rfl ?_ | (refine zap rfl ?_; first | (refine zbt rfl rfl ?_; rw [d0]) | ((with_reducible refine zct ?_); first | refine zaj rfl ?_ | refine zak rfl ?_ | refine zal rfl ?_ | refine zam rfl rfl (fun _ => ?_) (fun _ => ?_)) | ((with_reducible refine zcu ?_); refine zan rfl ?_) | ((with_reducible refine zcw ?_); first | refine zaa 0 rfl rfl rfl ?_ | refine zaa 1 rfl rfl rfl ?_ | refine zaa 2 rfl rfl rfl ?_ | refine zaa 3 rfl rfl rfl ?_ | refine zaa 4 rfl rfl rfl ?_ | refine zaa 5 rfl rfl rfl ?_ | refine zab 0 rfl rfl rfl ?_ | refine zab 1 rfl rfl rfl ?_ | refine zab 2 rfl rfl rfl ?_ | refine zab 3 rfl rfl rfl ?_ | refine zab 4 rfl rfl rfl ?_ | refine zab 5 rfl rfl rfl ?_) | ((with_reducible refine zcx ?_); first | refine zah [0] (ended_spec w0 p _) rfl rfl rfl sub_nil rfl ?_ | refine zce rfl ?_) | ((with_reducible refine zcy ?_); refine zao rfl ?_) | ((with_reducible refine zda ?_); first | refine zbr rfl rfl ?_ | refine zbt rfl rfl ?_) | ((with_reducible refine zdb ?_); first | refine zby rfl ?_ | refine zbx rfl ?_) | ((with_reducible refine zdc ?_); first | refine zbu rfl ?_ | refine zbv rfl ?_ | refine zbw rfl rfl rfl ?_) | ((with_reducible refine zdd ?_); first | refine zae 0 rfl rfl rfl rfl rfl rfl rfl ?_ | refine zae 1 rfl rfl rfl rfl rfl rfl rfl ?_ | refine zae 2 rfl rfl rfl rfl rfl rfl rfl ?_ | refine zae 3 rfl rfl rfl rfl rfl rfl rfl ?_ | refine zae 4 rfl rfl rfl rfl rfl rfl rfl ?_ | refine zae 5 rfl rfl rfl rfl rfl rfl rfl ?_) | ((with_reducible refine zde ?_); refine zan rfl ?_)) | refine zch ?_ | refine zci rfl ?_ | refine zcj rfl ?_)
        refine reg_open [0] (SpaceParts p ⟨kn, rd, puts, need, false⟩) rfl rfl (fun _ h => h) ?_
        rintro ⟨bk, br, sa, cap⟩
        repeat' (first | refine zck ?_ | refine zcp (by kernel_rfl) ?_ | refine zcq PP_mixed (by kernel_rfl) (by kernel_rfl) ?_ | refine zcm ?_ | refine zcl ?_ | refine zcn ?_ | refine zco ?_ | refine zcs rfl ?_ | (refine zap rfl ?_; first | (refine zbr rfl rfl ?_; rw [d1]) | ((with_reducible refine zct ?_); first | refine zaj rfl ?_ | refine zak rfl ?_ | refine zal rfl ?_ | refine zam rfl rfl (fun _ => ?_) (fun _ => ?_)) | ((with_reducible refine zcu ?_); refine zan rfl ?_) | ((with_reducible refine zcw ?_); first | refine zaa 0 rfl rfl rfl ?_ | refine zaa 1 rfl rfl rfl ?_ | refine zaa 2 rfl rfl rfl ?_ | refine zaa 3 rfl rfl rfl ?_ | refine zaa 4 rfl rfl rfl ?_ | refine zaa 5 rfl rfl rfl ?_ | refine zab 0 rfl rfl rfl ?_ | refine zab 1 rfl rfl rfl ?_ | refine zab 2 rfl rfl rfl ?_ | refine zab 3 rfl rfl rfl ?_ | refine zab 4 rfl rfl rfl ?_ | refine zab 5 rfl rfl rfl ?_) | ((with_reducible refine zcx ?_); refine zce rfl ?_) | ((with_reducible refine zcy ?_); refine zao rfl ?_) | ((with_reducible refine zda ?_); first | refine zbr rfl rfl ?_ | refine zbt rfl rfl ?_) | ((with_reducible refine zdb ?_); first | refine zby rfl ?_ | refine zbx rfl ?_) | ((with_reducible refine zdc ?_); first | refine zbu rfl ?_ | refine zbv rfl ?_ | refine zbw rfl rfl rfl ?_) | ((with_reducible refine zdd ?_); first | refine zae 0 rfl rfl rfl rfl rfl rfl rfl ?_ | refine zae 1 rfl rfl rfl rfl rfl rfl rfl ?_ | refine zae 2 rfl rfl rfl rfl rfl rfl rfl ?_ | refine zae 3 rfl rfl rfl rfl rfl rfl rfl ?_ | refine zae 4 rfl rfl rfl rfl rfl rfl rfl ?_ | refine zae 5 rfl rfl rfl rfl rfl rfl rfl ?_) | ((with_reducible refine zde ?_); refine zan rfl ?_)) | refine zch ?_ | refine zci rfl ?_ | refine zcj rfl ?_)
        refine run_close1 (A := SpaceA p ⟨kn, rd, puts, need, false⟩) [0, 0, 0, 0] rfl (fun _ h => ⟨(bk, br, sa, cap), h⟩) ?_
        exact end_tmp0 rfl ⟨rfl, rfl⟩
    · have d0 : decide (0 ≤ m) = false := decide_eq_false h0
      have e : s.back m = s := by rw [← hs]; simp [Sp.back, h0]
      rw [e, ← hs]
      repeat' (first | refine zck ?_ | refine zcp (by kernel_rfl) ?_ | refine zcq PP_mixed (by kernel_rfl) (by kernel_rfl) ?_ | refine zcm ?_ | refine zcl ?_ | refine zcn ?_ | refine zco ?_ | refine zcs rfl ?_ | (refine zap rfl ?_; first | (refine zbt rfl rfl ?_; rw [d0]) | ((with_reducible refine zct ?_); first | refine zaj rfl ?_ | refine zak rfl ?_ | refine zal rfl ?_ | refine zam rfl rfl (fun _ => ?_) (fun _ => ?_)) | ((with_reducible refine zcu ?_); refine zan rfl ?_) | ((with_reducible refine zcw ?_); first | refine zaa 0 rfl rfl rfl ?_ | refine zaa 1 rfl rfl rfl ?_ | refine zaa 2 rfl rfl rfl ?_ | refine zaa 3 rfl rfl rfl ?_ | refine zaa 4 rfl rfl rfl ?_ | refine zaa 5 rfl rfl rfl ?_ | refine zab 0 rfl rfl rfl ?_ | refine zab 1 rfl rfl rfl ?_ | refine zab 2 rfl rfl rfl ?_ | refine zab 3 rfl rfl rfl ?_ | refine zab 4 rfl rfl rfl ?_ | refine zab 5 rfl rfl rfl ?_) | ((with_reducible refine zcx ?_); first | refine zah [0] (ended_spec w0 p _) rfl rfl rfl sub_nil rfl ?_ | refine zce rfl ?_) | ((with_reducible refine zcy ?_); refine zao rfl ?_) | ((with_reducible refine zda ?_); first | refine zbr rfl rfl ?_ | refine zbt rfl rfl ?_) | ((with_reducible refine zdb ?_); first | refine zby rfl ?_ | refine zbx rfl ?_) | ((with_reducible refine zdc ?_); first | refine zbu rfl ?_ | refine zbv rfl ?_ | refine zbw rfl rfl rfl ?_) | ((with_reducible refine zdd ?_); first | refine zae 0 rfl rfl rfl rfl rfl rfl rfl ?_ | refine zae 1 rfl rfl rfl rfl rfl rfl rfl ?_ | refine zae 2 rfl rfl rfl rfl rfl rfl rfl ?_ | refine zae 3 rfl rfl rfl rfl rfl rfl rfl ?_ | refine zae 4 rfl rfl rfl rfl rfl rfl rfl ?_ | refine zae 5 rfl rfl rfl rfl rfl rfl rfl ?_) | ((with_reducible refine zde ?_); refine zan rfl ?_)) | refine zch ?_ | refine zci rfl ?_ | refine zcj rfl ?_)
      exact end_tmp0 rfl ⟨rfl, rfl⟩
end Go.Proofs.YtilnknokgflkjaaDoor

/- Words, and the views of them: plain facts. -/
namespace Sim
open Go Go.Vc
def wk : Nat → List Int → List (Int × Wd)
  | _, [] => []
  | i, v :: r => ((i : Int), ⟨v, 0, 0⟩) :: wk (i + 1) r
theorem wk_length : ∀ (i : Nat) (l : List Int), (wk i l).length = l.length
  | _, [] => rfl
  | i, v :: r => by simp [wk, wk_length (i + 1) r]
theorem wk_get : ∀ (i : Nat) (l : List Int) (q : Nat), (wk i l)[q]? = (l[q]?).map fun v => (((i + q : Nat) : Int), ⟨v, 0, 0⟩)
  | _, [], q => by simp [wk]
  | i, v :: r, 0 => by simp [wk]
  | i, v :: r, q + 1 => by
    simp only [wk, List.getElem?_cons_succ, wk_get (i + 1) r q]
    congr 1; funext v; congr 2; omega
theorem wk_snoc : ∀ (i : Nat) (l : List Int) (v : Int), wk i (l ++ [v]) = wk i l ++ [(((i + l.length : Nat) : Int), ⟨v, 0, 0⟩)]
  | i, [], v => by simp [wk]
  | i, u :: r, v => by
    simp only [List.cons_append, wk, wk_snoc (i + 1) r v, List.length_cons]
    congr 4; omega
theorem lookW_wk : ∀ (i : Nat) (l : List Int) (a : Int), lookW (wk i l) a = if (i : Int) ≤ a ∧ a < i + l.length then (l[(a - i).toNat]?).map fun v => ⟨v, 0, 0⟩ else none
  | i, [], a => by simp [wk, lookW]
  | i, v :: r, a => by
    simp only [wk, lookW, lookW_wk (i + 1) r a]
    by_cases h : (i : Int) = a
    · subst h; simp; omega
    · rw [if_neg h]
      by_cases h2 : (i : Int) ≤ a ∧ a < i + ((v :: r).length : Nat)
      · rw [if_pos h2, if_pos (by simp only [List.length_cons] at h2; omega)]
        obtain ⟨k, hk⟩ : ∃ k : Nat, a = i + 1 + k := ⟨(a - i - 1).toNat, by omega⟩
        subst hk
        have e1 : ((i : Int) + 1 + k - ((i + 1 : Nat) : Int)).toNat = k := by omega
        have e2 : ((i : Int) + 1 + k - (i : Int)).toNat = k + 1 := by omega
        rw [e1, e2]; rfl
      · rw [if_neg h2, if_neg (by simp only [List.length_cons] at h2; omega)]
def insW : List (Int × Wd) → Int → Wd → List (Int × Wd)
  | [], x, u => [(x, u)]
  | (a, w) :: r, x, u => if a = x then (a, u) :: r else (a, w) :: insW r x u
theorem ins_knM : ∀ (l : List (Int × Wd)) (a : Int) (w : Wd), ins (knM l) a (wordV w) = knM (insW l a w)
  | [], _, _ => rfl
  | (b, u) :: r, a, w => by
    simp only [knM, ins, insW]
    by_cases h : b = a <;> simp [h, knM, ins_knM r a w]
theorem look_insW : ∀ (l : List (Int × Wd)) (a x : Int) (w : Wd), lookW (insW l a w) x = if a = x then some w else lookW l x
  | [], a, x, w => by simp [insW, lookW]
  | (b, u) :: r, a, x, w => by
    simp only [insW]
    by_cases h : b = a
    · subst h; by_cases h2 : b = x <;> simp [lookW, h2]
    · simp only [if_neg h, lookW, look_insW r a x w]
      by_cases h2 : b = x
      · subst h2; simp [Ne.symm h]
      · simp [h2]
theorem insW_none : ∀ (l : List (Int × Wd)) (a : Int) (w : Wd), lookW l a = none → insW l a w = l ++ [(a, w)]
  | [], _, _, _ => rfl
  | (b, u) :: r, a, w, h => by
    simp only [lookW] at h
    split at h
    · cases h
    · rename_i hb
      simp [insW, hb, insW_none r a w h]
theorem knM_length : ∀ (l : List (Int × Wd)), (knM l).length = l.length
  | [] => rfl
  | (_, _) :: r => by simp [knM, knM_length r]
theorem knM_get : ∀ (l : List (Int × Wd)) (q : Nat), (knM l)[q]? = (l[q]?).map fun p => (p.1, wordV p.2)
  | [], q => by simp [knM]
  | (a, w) :: r, 0 => by simp [knM]
  | (a, w) :: r, q + 1 => by simp only [knM, List.getElem?_cons_succ, knM_get r q]
theorem lookW_mem : ∀ (l : List (Int × Wd)) (a : Int) (w : Wd), lookW l a = some w → ∃ q : Nat, l[q]? = some (a, w)
  | [], a, w, h => by simp [lookW] at h
  | (b, u) :: r, a, w, h => by
    simp only [lookW] at h
    split at h
    · rename_i hb; subst hb; cases h; exact ⟨0, rfl⟩
    · obtain ⟨q, hq⟩ := lookW_mem r a w h; exact ⟨q + 1, hq⟩
end Sim

/- The walks of Known and New. -/
namespace Go.Proofs.YtilnknokgflkjaaDoor
open Go.Vc Sim
set_option maxHeartbeats 4000000

def intL' (l : List Int) : List Value := l.map (Value.int .i64)
/-- Words.Known: `vb` holds the words, and is shared. -/
theorem known_spec (w0 : World) (vb cap : Nat) (l : List Int) (spare : List Value) (T : TypeId) (fr : Nat × Nat) (hlen : l.length ≤ 1000) :
    Vc.Fn PP w0 [(vb, .cells (List.toArray (intL' l ++ spare)) T fr)] 10 [.agg #[.slice (some ⟨vb, 0, none⟩) l.length cap]] []
      (fun v Γ => ∃ mb, v = .map (some mb) ∧ Γ = [pt mb (mapI (knM (wk 0 l)))]) := by
  refine fn_of_run en10 fn10 rfl rfl rfl ?_
  repeat (first | refine zck ?_ | refine zcl ?_ | refine zcm ?_ | refine zcn ?_)
  first | refine zcp (by kernel_rfl) ?_ | refine zcq PP_mixed (by kernel_rfl) (by kernel_rfl) ?_
  repeat' (refine zap rfl ?_; first | ((with_reducible refine zcu ?_); refine zan rfl ?_) | ((with_reducible refine zcv ?_); refine zan rfl ?_) | ((with_reducible refine zcw ?_); first | refine zaa 0 rfl rfl rfl ?_ | refine zaa 1 rfl rfl rfl ?_ | refine zaa 2 rfl rfl rfl ?_ | refine zaa 3 rfl rfl rfl ?_ | refine zaa 4 rfl rfl rfl ?_ | refine zaa 5 rfl rfl rfl ?_ | refine zab 0 rfl rfl rfl ?_ | refine zab 1 rfl rfl rfl ?_ | refine zab 2 rfl rfl rfl ?_ | refine zab 3 rfl rfl rfl ?_ | refine zab 4 rfl rfl rfl ?_ | refine zab 5 rfl rfl rfl ?_) | ((with_reducible refine zcx ?_); refine zce rfl ?_) | ((with_reducible refine zcy ?_); refine zao rfl ?_) | ((with_reducible refine zda ?_); first | refine zau rfl rfl (by omega) ?_ | refine zbq rfl rfl ?_) | ((with_reducible refine zdf ?_); first | refine zas rfl rfl (by omega) ?_ | refine zat rfl rfl (by omega) ?_) | ((with_reducible refine zdg ?_); first | refine zaq (cs := [_]) rfl (fun nb => ?_) | refine zaq (cs := [_, _]) rfl (fun nb => ?_) | refine zaq (cs := [_, _, _]) rfl (fun nb => ?_) | refine zaq (cs := [_, _, _, _]) rfl (fun nb => ?_) | refine zaq (cs := [_, _, _, _, _]) rfl (fun nb => ?_) | refine zaq (cs := [_, _, _, _, _, _]) rfl (fun nb => ?_) | refine zaq (cs := [_, _, _, _, _, _, _]) rfl (fun nb => ?_) | refine zaq (cs := [_, _, _, _, _, _, _, _]) rfl (fun nb => ?_)) | refine zcc (fun nb => ?_) | refine zcb rfl ?_)
  all_goals refine zch ?_
  all_goals repeat (first | refine zck ?_ | refine zcl ?_ | refine zcm ?_ | refine zcn ?_)
  refine run_share [0] rfl ?_
  repeat (first | refine zck ?_ | refine zcl ?_ | refine zcm ?_ | refine zcn ?_)
  first | refine zcp (by kernel_rfl) ?_ | refine zcq PP_mixed (by kernel_rfl) (by kernel_rfl) ?_
  repeat' (refine zap rfl ?_; first | ((with_reducible refine zcu ?_); refine zan rfl ?_) | ((with_reducible refine zcv ?_); refine zan rfl ?_) | ((with_reducible refine zcw ?_); first | refine zaa 0 rfl rfl rfl ?_ | refine zaa 1 rfl rfl rfl ?_ | refine zaa 2 rfl rfl rfl ?_ | refine zaa 3 rfl rfl rfl ?_ | refine zaa 4 rfl rfl rfl ?_ | refine zaa 5 rfl rfl rfl ?_ | refine zab 0 rfl rfl rfl ?_ | refine zab 1 rfl rfl rfl ?_ | refine zab 2 rfl rfl rfl ?_ | refine zab 3 rfl rfl rfl ?_ | refine zab 4 rfl rfl rfl ?_ | refine zab 5 rfl rfl rfl ?_) | ((with_reducible refine zcx ?_); refine zce rfl ?_) | ((with_reducible refine zcy ?_); refine zao rfl ?_) | ((with_reducible refine zda ?_); first | refine zau rfl rfl (by omega) ?_ | refine zbq rfl rfl ?_) | ((with_reducible refine zdf ?_); first | refine zas rfl rfl (by omega) ?_ | refine zat rfl rfl (by omega) ?_) | ((with_reducible refine zdg ?_); first | refine zaq (cs := [_]) rfl (fun nb => ?_) | refine zaq (cs := [_, _]) rfl (fun nb => ?_) | refine zaq (cs := [_, _, _]) rfl (fun nb => ?_) | refine zaq (cs := [_, _, _, _]) rfl (fun nb => ?_) | refine zaq (cs := [_, _, _, _, _]) rfl (fun nb => ?_) | refine zaq (cs := [_, _, _, _, _, _]) rfl (fun nb => ?_) | refine zaq (cs := [_, _, _, _, _, _, _]) rfl (fun nb => ?_) | refine zaq (cs := [_, _, _, _, _, _, _, _]) rfl (fun nb => ?_)) | refine zcc (fun nb => ?_) | refine zcb rfl ?_)
  all_goals refine zch ?_
  all_goals repeat (first | refine zck ?_ | refine zcl ?_ | refine zcm ?_ | refine zcn ?_)
  rename_i b1
  revert nb; intro mb
  repeat (first | refine zck ?_ | refine zcl ?_ | refine zcm ?_ | refine zcn ?_)
  first | refine zcp (by kernel_rfl) ?_ | refine zcq PP_mixed (by kernel_rfl) (by kernel_rfl) ?_
  repeat' (refine zap rfl ?_; first | ((with_reducible refine zcu ?_); refine zan rfl ?_) | ((with_reducible refine zcv ?_); refine zan rfl ?_) | ((with_reducible refine zcw ?_); first | refine zaa 0 rfl rfl rfl ?_ | refine zaa 1 rfl rfl rfl ?_ | refine zaa 2 rfl rfl rfl ?_ | refine zaa 3 rfl rfl rfl ?_ | refine zaa 4 rfl rfl rfl ?_ | refine zaa 5 rfl rfl rfl ?_ | refine zab 0 rfl rfl rfl ?_ | refine zab 1 rfl rfl rfl ?_ | refine zab 2 rfl rfl rfl ?_ | refine zab 3 rfl rfl rfl ?_ | refine zab 4 rfl rfl rfl ?_ | refine zab 5 rfl rfl rfl ?_) | ((with_reducible refine zcx ?_); refine zce rfl ?_) | ((with_reducible refine zcy ?_); refine zao rfl ?_) | ((with_reducible refine zda ?_); first | refine zau rfl rfl (by omega) ?_ | refine zbq rfl rfl ?_) | ((with_reducible refine zdf ?_); first | refine zas rfl rfl (by omega) ?_ | refine zat rfl rfl (by omega) ?_) | ((with_reducible refine zdg ?_); first | refine zaq (cs := [_]) rfl (fun nb => ?_) | refine zaq (cs := [_, _]) rfl (fun nb => ?_) | refine zaq (cs := [_, _, _]) rfl (fun nb => ?_) | refine zaq (cs := [_, _, _, _]) rfl (fun nb => ?_) | refine zaq (cs := [_, _, _, _, _]) rfl (fun nb => ?_) | refine zaq (cs := [_, _, _, _, _, _]) rfl (fun nb => ?_) | refine zaq (cs := [_, _, _, _, _, _, _]) rfl (fun nb => ?_) | refine zaq (cs := [_, _, _, _, _, _, _, _]) rfl (fun nb => ?_)) | refine zcc (fun nb => ?_) | refine zcb rfl ?_)
  all_goals refine zch ?_
  all_goals repeat (first | refine zck ?_ | refine zcl ?_ | refine zcm ?_ | refine zcn ?_)
  refine run_loop (S := Nat) (fun i => [(1, .pointer (some ⟨b1, 0, none⟩)), (3, .map (some mb)), (4, .int .i64 (i : Int))])
    (fun i Γ => Γ = [pt mb (mapI (knM (wk 0 (l.take i))))] ∧ i ≤ l.length) (fun i => l.length - i) 0 ⟨rfl, rfl, rfl, trivial⟩ ⟨rfl, Nat.zero_le _⟩ ?_
  rintro i Γ junk ⟨rfl, hi⟩
  by_cases hlt : i < l.length
  · repeat (first | refine zck ?_ | refine zcl ?_ | refine zcm ?_ | refine zcn ?_)
    first | refine zcp (by kernel_rfl) ?_ | refine zcq PP_mixed (by kernel_rfl) (by kernel_rfl) ?_
    repeat' (refine zap rfl ?_; first | ((with_reducible refine zcu ?_); refine zan rfl ?_) | ((with_reducible refine zcv ?_); refine zan rfl ?_) | ((with_reducible refine zcw ?_); first | refine zaa 0 rfl rfl rfl ?_ | refine zaa 1 rfl rfl rfl ?_ | refine zaa 2 rfl rfl rfl ?_ | refine zaa 3 rfl rfl rfl ?_ | refine zaa 4 rfl rfl rfl ?_ | refine zaa 5 rfl rfl rfl ?_ | refine zab 0 rfl rfl rfl ?_ | refine zab 1 rfl rfl rfl ?_ | refine zab 2 rfl rfl rfl ?_ | refine zab 3 rfl rfl rfl ?_ | refine zab 4 rfl rfl rfl ?_ | refine zab 5 rfl rfl rfl ?_) | ((with_reducible refine zcx ?_); refine zce rfl ?_) | ((with_reducible refine zcy ?_); refine zao rfl ?_) | ((with_reducible refine zda ?_); first | refine zau rfl rfl (by omega) ?_ | refine zbq rfl rfl ?_) | ((with_reducible refine zdf ?_); first | refine zas rfl rfl (by omega) ?_ | refine zat rfl rfl (by omega) ?_) | ((with_reducible refine zdg ?_); first | refine zaq (cs := [_]) rfl (fun nb => ?_) | refine zaq (cs := [_, _]) rfl (fun nb => ?_) | refine zaq (cs := [_, _, _]) rfl (fun nb => ?_) | refine zaq (cs := [_, _, _, _]) rfl (fun nb => ?_) | refine zaq (cs := [_, _, _, _, _]) rfl (fun nb => ?_) | refine zaq (cs := [_, _, _, _, _, _]) rfl (fun nb => ?_) | refine zaq (cs := [_, _, _, _, _, _, _]) rfl (fun nb => ?_) | refine zaq (cs := [_, _, _, _, _, _, _, _]) rfl (fun nb => ?_)) | refine zcc (fun nb => ?_) | refine zcb rfl ?_)
    all_goals refine zch ?_
    all_goals repeat (first | refine zck ?_ | refine zcl ?_ | refine zcm ?_ | refine zcn ?_)
    refine zci (bool_eq (decide_eq_true (by omega))) ?_
    repeat (first | refine zck ?_ | refine zcl ?_ | refine zcm ?_ | refine zcn ?_ | refine zco ?_)
    have hv : l[i]? = some l[i] := List.getElem?_eq_getElem hlt
    have hr : ∀ o, o = i → rd false 1 (intL' l ++ spare) o = some (.int .i64 l[i]) := by
      intro o ho; subst ho
      exact rd_append (by show nth (intL' l) o = _; rw [nth_eq, intL', List.getElem?_map, hv]; rfl) (by intro h; cases h)
    have hnone : lookW (wk 0 (l.take i)) (i : Int) = none := by rw [lookW_wk]; rw [if_neg]; simp; omega
    have hins : ins (knM (wk 0 (l.take i))) (i : Int) (.agg #[.int .i64 l[i], .int .u32 0, .int .u32 0]) = knM (wk 0 (l.take (i + 1))) := by
      rw [show (Value.agg #[.int .i64 l[i], .int .u32 0, .int .u32 0]) = wordV ⟨l[i], 0, 0⟩ from rfl, ins_knM, insW_none _ _ _ hnone, List.take_succ_eq_append_getElem hlt, wk_snoc]
      congr 3; simp; omega
    repeat' (first | refine zck ?_ | refine zcp (by kernel_rfl) ?_ | refine zcq PP_mixed (by kernel_rfl) (by kernel_rfl) ?_ | refine zcm ?_ | refine zcl ?_ | refine zcn ?_ | refine zco ?_ | refine zcs rfl ?_ | (refine zap rfl ?_; first | refine zaa 1 rfl rfl (hr _ (by omega)) ?_ | refine zcb rfl ?_ | refine reg_mapUpdate 0 rfl rfl rfl rfl rfl ?_ | ((with_reducible refine zcu ?_); refine zan rfl ?_) | ((with_reducible refine zcv ?_); refine zan rfl ?_) | ((with_reducible refine zcw ?_); first | refine zaa 0 rfl rfl rfl ?_ | refine zaa 1 rfl rfl rfl ?_ | refine zaa 2 rfl rfl rfl ?_ | refine zaa 3 rfl rfl rfl ?_ | refine zaa 4 rfl rfl rfl ?_ | refine zaa 5 rfl rfl rfl ?_ | refine zab 0 rfl rfl rfl ?_ | refine zab 1 rfl rfl rfl ?_ | refine zab 2 rfl rfl rfl ?_ | refine zab 3 rfl rfl rfl ?_ | refine zab 4 rfl rfl rfl ?_ | refine zab 5 rfl rfl rfl ?_) | ((with_reducible refine zcx ?_); refine zce rfl ?_) | ((with_reducible refine zcy ?_); refine zao rfl ?_) | ((with_reducible refine zda ?_); first | refine zau rfl rfl (by omega) ?_ | refine zbq rfl rfl ?_) | ((with_reducible refine zdf ?_); first | refine zas rfl rfl (by omega) ?_ | refine zat rfl rfl (by omega) ?_) | ((with_reducible refine zdg ?_); first | refine zaq (cs := [_]) rfl (fun nb => ?_) | refine zaq (cs := [_, _]) rfl (fun nb => ?_) | refine zaq (cs := [_, _, _]) rfl (fun nb => ?_) | refine zaq (cs := [_, _, _, _]) rfl (fun nb => ?_) | refine zaq (cs := [_, _, _, _, _]) rfl (fun nb => ?_) | refine zaq (cs := [_, _, _, _, _, _]) rfl (fun nb => ?_) | refine zaq (cs := [_, _, _, _, _, _, _]) rfl (fun nb => ?_) | refine zaq (cs := [_, _, _, _, _, _, _, _]) rfl (fun nb => ?_)) | refine zcc (fun nb => ?_) | refine zcb rfl ?_) | refine zch ?_ | refine zci rfl ?_ | refine zcj rfl ?_)
    refine cut_end ⟨rfl, i + 1, ⟨rfl, rfl, int_eq (by omega), trivial⟩, ⟨?_, hlt⟩, by omega⟩
    rw [← hins]; rfl
  · have hi2 : i = l.length := by omega
    subst hi2
    repeat (first | refine zck ?_ | refine zcl ?_ | refine zcm ?_ | refine zcn ?_)
    first | refine zcp (by kernel_rfl) ?_ | refine zcq PP_mixed (by kernel_rfl) (by kernel_rfl) ?_
    repeat' (refine zap rfl ?_; first | ((with_reducible refine zcu ?_); refine zan rfl ?_) | ((with_reducible refine zcv ?_); refine zan rfl ?_) | ((with_reducible refine zcw ?_); first | refine zaa 0 rfl rfl rfl ?_ | refine zaa 1 rfl rfl rfl ?_ | refine zaa 2 rfl rfl rfl ?_ | refine zaa 3 rfl rfl rfl ?_ | refine zaa 4 rfl rfl rfl ?_ | refine zaa 5 rfl rfl rfl ?_ | refine zab 0 rfl rfl rfl ?_ | refine zab 1 rfl rfl rfl ?_ | refine zab 2 rfl rfl rfl ?_ | refine zab 3 rfl rfl rfl ?_ | refine zab 4 rfl rfl rfl ?_ | refine zab 5 rfl rfl rfl ?_) | ((with_reducible refine zcx ?_); refine zce rfl ?_) | ((with_reducible refine zcy ?_); refine zao rfl ?_) | ((with_reducible refine zda ?_); first | refine zau rfl rfl (by omega) ?_ | refine zbq rfl rfl ?_) | ((with_reducible refine zdf ?_); first | refine zas rfl rfl (by omega) ?_ | refine zat rfl rfl (by omega) ?_) | ((with_reducible refine zdg ?_); first | refine zaq (cs := [_]) rfl (fun nb => ?_) | refine zaq (cs := [_, _]) rfl (fun nb => ?_) | refine zaq (cs := [_, _, _]) rfl (fun nb => ?_) | refine zaq (cs := [_, _, _, _]) rfl (fun nb => ?_) | refine zaq (cs := [_, _, _, _, _]) rfl (fun nb => ?_) | refine zaq (cs := [_, _, _, _, _, _]) rfl (fun nb => ?_) | refine zaq (cs := [_, _, _, _, _, _, _]) rfl (fun nb => ?_) | refine zaq (cs := [_, _, _, _, _, _, _, _]) rfl (fun nb => ?_)) | refine zcc (fun nb => ?_) | refine zcb rfl ?_)
    all_goals refine zch ?_
    all_goals repeat (first | refine zck ?_ | refine zcl ?_ | refine zcm ?_ | refine zcn ?_)
    refine zcj (bool_eq (decide_eq_false (by omega))) ?_
    repeat (first | refine zck ?_ | refine zcl ?_ | refine zcm ?_ | refine zcn ?_ | refine zco ?_)
    refine cut_exit rfl rfl ?_
    repeat' (first | refine zck ?_ | refine zcp (by kernel_rfl) ?_ | refine zcq PP_mixed (by kernel_rfl) (by kernel_rfl) ?_ | refine zcm ?_ | refine zcl ?_ | refine zcn ?_ | refine zco ?_ | refine zcs rfl ?_ | (refine zap rfl ?_; first | ((with_reducible refine zcu ?_); refine zan rfl ?_) | ((with_reducible refine zcv ?_); refine zan rfl ?_) | ((with_reducible refine zcw ?_); first | refine zaa 0 rfl rfl rfl ?_ | refine zaa 1 rfl rfl rfl ?_ | refine zaa 2 rfl rfl rfl ?_ | refine zaa 3 rfl rfl rfl ?_ | refine zaa 4 rfl rfl rfl ?_ | refine zaa 5 rfl rfl rfl ?_ | refine zab 0 rfl rfl rfl ?_ | refine zab 1 rfl rfl rfl ?_ | refine zab 2 rfl rfl rfl ?_ | refine zab 3 rfl rfl rfl ?_ | refine zab 4 rfl rfl rfl ?_ | refine zab 5 rfl rfl rfl ?_) | ((with_reducible refine zcx ?_); refine zce rfl ?_) | ((with_reducible refine zcy ?_); refine zao rfl ?_) | ((with_reducible refine zda ?_); first | refine zau rfl rfl (by omega) ?_ | refine zbq rfl rfl ?_) | ((with_reducible refine zdf ?_); first | refine zas rfl rfl (by omega) ?_ | refine zat rfl rfl (by omega) ?_) | ((with_reducible refine zdg ?_); first | refine zaq (cs := [_]) rfl (fun nb => ?_) | refine zaq (cs := [_, _]) rfl (fun nb => ?_) | refine zaq (cs := [_, _, _]) rfl (fun nb => ?_) | refine zaq (cs := [_, _, _, _]) rfl (fun nb => ?_) | refine zaq (cs := [_, _, _, _, _]) rfl (fun nb => ?_) | refine zaq (cs := [_, _, _, _, _, _]) rfl (fun nb => ?_) | refine zaq (cs := [_, _, _, _, _, _, _]) rfl (fun nb => ?_) | refine zaq (cs := [_, _, _, _, _, _, _, _]) rfl (fun nb => ?_)) | refine zcc (fun nb => ?_) | refine zcb rfl ?_) | refine zch ?_ | refine zci rfl ?_ | refine zcj rfl ?_)
    refine ret_tmp1 rfl ⟨mb, rfl, ?_⟩
    rw [List.take_length]
end Go.Proofs.YtilnknokgflkjaaDoor

/- The walk of space.New. -/
namespace Go.Proofs.YtilnknokgflkjaaDoor
open Go.Vc Sim
set_option maxHeartbeats 4000000

def cnt : Nat → List Nat → Nat
  | 0, _ => 0
  | n + 1, s => cnt n s + if n ∈ s then 0 else 1
theorem cnt_more (q : Nat) (s : List Nat) (hs : q ∉ s) : ∀ n, (n ≤ q → cnt n (s ++ [q]) = cnt n s) ∧ (q < n → cnt n (s ++ [q]) + 1 = cnt n s)
  | 0 => ⟨fun _ => rfl, fun h => absurd h (by omega)⟩
  | n + 1 => by
    obtain ⟨h1, h2⟩ := cnt_more q s hs n
    simp only [cnt]
    refine ⟨fun h => ?_, fun h => ?_⟩
    · have hne : n ≠ q := by omega
      rw [h1 (by omega)]; simp [hne]
    · by_cases e : q = n
      · subst e; rw [h1 (Nat.le_refl _)]; simp [hs]
      · have := h2 (by omega)
        have e2 : (n ∈ s ++ [q]) = (n ∈ s) := by simp; intro h; omega
        simp only [e2]; omega

theorem new_spec (w0 : World) (kb : Nat) (kn : List (Int × Wd)) (hkn : ∀ (q : Nat) a w, kn[q]? = some (a, w) → lookW kn a = some w ∧ w.ref = 0) :
    Vc.Fn PP w0 [] 9 [.map (some kb)] [pt kb (mapI (knM kn))]
      (fun v Γ => ∃ p kn', v = spP p ∧ Γ = [SpaceA p ⟨kn', [], [], 0, false⟩] ∧ ∀ a, lookW kn' a = lookW kn a) := by
  refine fn_of_run en9 fn9 rfl rfl rfl ?_
  repeat (first | refine zck ?_ | refine zcl ?_ | refine zcm ?_ | refine zcn ?_)
  first | refine zcp (by kernel_rfl) ?_ | refine zcq PP_mixed (by kernel_rfl) (by kernel_rfl) ?_
  repeat' (refine zap rfl ?_; first | ((with_reducible refine zcu ?_); refine zan rfl ?_) | ((with_reducible refine zcv ?_); refine zan rfl ?_) | ((with_reducible refine zcw ?_); first | refine zaa 0 rfl rfl rfl ?_ | refine zaa 1 rfl rfl rfl ?_ | refine zaa 2 rfl rfl rfl ?_ | refine zaa 3 rfl rfl rfl ?_ | refine zaa 4 rfl rfl rfl ?_ | refine zaa 5 rfl rfl rfl ?_ | refine zab 0 rfl rfl rfl ?_ | refine zab 1 rfl rfl rfl ?_ | refine zab 2 rfl rfl rfl ?_ | refine zab 3 rfl rfl rfl ?_ | refine zab 4 rfl rfl rfl ?_ | refine zab 5 rfl rfl rfl ?_) | ((with_reducible refine zcy ?_); refine zao rfl ?_) | ((with_reducible refine zcz ?_); refine zan rfl ?_) | ((with_reducible refine zda ?_); first | refine zbo rfl rfl ?_ | refine zaz rfl rfl ?_ | refine zbb rfl rfl ?_) | ((with_reducible refine zdd ?_); first | refine zae 0 rfl rfl rfl rfl rfl rfl rfl ?_ | refine zae 1 rfl rfl rfl rfl rfl rfl rfl ?_ | refine zae 2 rfl rfl rfl rfl rfl rfl rfl ?_ | refine zae 3 rfl rfl rfl rfl rfl rfl rfl ?_ | refine zae 4 rfl rfl rfl rfl rfl rfl rfl ?_ | refine zae 5 rfl rfl rfl rfl rfl rfl rfl ?_) | ((with_reducible refine zde ?_); refine zan rfl ?_) | ((with_reducible refine zdg ?_); first | refine zaq (cs := [_]) rfl (fun nb => ?_) | refine zaq (cs := [_, _]) rfl (fun nb => ?_) | refine zaq (cs := [_, _, _]) rfl (fun nb => ?_) | refine zaq (cs := [_, _, _, _]) rfl (fun nb => ?_) | refine zaq (cs := [_, _, _, _, _]) rfl (fun nb => ?_) | refine zaq (cs := [_, _, _, _, _, _]) rfl (fun nb => ?_) | refine zaq (cs := [_, _, _, _, _, _, _]) rfl (fun nb => ?_) | refine zaq (cs := [_, _, _, _, _, _, _, _]) rfl (fun nb => ?_)) | ((with_reducible refine zdh ?_); refine zar (fun nb => ?_)) | refine zcc (fun nb => ?_) | refine zcb rfl ?_)
  all_goals refine zch ?_
  all_goals repeat (first | refine zck ?_ | refine zcl ?_ | refine zcm ?_ | refine zcn ?_)
  repeat (first | refine zck ?_ | refine zcl ?_ | refine zcm ?_ | refine zcn ?_)
  first | refine zcp (by kernel_rfl) ?_ | refine zcq PP_mixed (by kernel_rfl) (by kernel_rfl) ?_
  repeat' (refine zap rfl ?_; first | ((with_reducible refine zcu ?_); refine zan rfl ?_) | ((with_reducible refine zcv ?_); refine zan rfl ?_) | ((with_reducible refine zcw ?_); first | refine zaa 0 rfl rfl rfl ?_ | refine zaa 1 rfl rfl rfl ?_ | refine zaa 2 rfl rfl rfl ?_ | refine zaa 3 rfl rfl rfl ?_ | refine zaa 4 rfl rfl rfl ?_ | refine zaa 5 rfl rfl rfl ?_ | refine zab 0 rfl rfl rfl ?_ | refine zab 1 rfl rfl rfl ?_ | refine zab 2 rfl rfl rfl ?_ | refine zab 3 rfl rfl rfl ?_ | refine zab 4 rfl rfl rfl ?_ | refine zab 5 rfl rfl rfl ?_) | ((with_reducible refine zcy ?_); refine zao rfl ?_) | ((with_reducible refine zcz ?_); refine zan rfl ?_) | ((with_reducible refine zda ?_); first | refine zbo rfl rfl ?_ | refine zaz rfl rfl ?_ | refine zbb rfl rfl ?_) | ((with_reducible refine zdd ?_); first | refine zae 0 rfl rfl rfl rfl rfl rfl rfl ?_ | refine zae 1 rfl rfl rfl rfl rfl rfl rfl ?_ | refine zae 2 rfl rfl rfl rfl rfl rfl rfl ?_ | refine zae 3 rfl rfl rfl rfl rfl rfl rfl ?_ | refine zae 4 rfl rfl rfl rfl rfl rfl rfl ?_ | refine zae 5 rfl rfl rfl rfl rfl rfl rfl ?_) | ((with_reducible refine zde ?_); refine zan rfl ?_) | ((with_reducible refine zdg ?_); first | refine zaq (cs := [_]) rfl (fun nb => ?_) | refine zaq (cs := [_, _]) rfl (fun nb => ?_) | refine zaq (cs := [_, _, _]) rfl (fun nb => ?_) | refine zaq (cs := [_, _, _, _]) rfl (fun nb => ?_) | refine zaq (cs := [_, _, _, _, _]) rfl (fun nb => ?_) | refine zaq (cs := [_, _, _, _, _, _]) rfl (fun nb => ?_) | refine zaq (cs := [_, _, _, _, _, _, _]) rfl (fun nb => ?_) | refine zaq (cs := [_, _, _, _, _, _, _, _]) rfl (fun nb => ?_)) | ((with_reducible refine zdh ?_); refine zar (fun nb => ?_)) | refine zcc (fun nb => ?_) | refine zcb rfl ?_)
  all_goals refine zch ?_
  all_goals repeat (first | refine zck ?_ | refine zcl ?_ | refine zcm ?_ | refine zcn ?_)
  rename_i m1 m2
  revert nb; intro p
  refine run_share_keep [3] rfl ?_
  repeat (first | refine zck ?_ | refine zcl ?_ | refine zcm ?_ | refine zcn ?_)
  first | refine zcp (by kernel_rfl) ?_ | refine zcq PP_mixed (by kernel_rfl) (by kernel_rfl) ?_
  repeat' (refine zap rfl ?_; first | refine reg_range 0 rfl rfl (fun nb => ?_) | ((with_reducible refine zcu ?_); refine zan rfl ?_) | ((with_reducible refine zcv ?_); refine zan rfl ?_) | ((with_reducible refine zcw ?_); first | refine zaa 0 rfl rfl rfl ?_ | refine zaa 1 rfl rfl rfl ?_ | refine zaa 2 rfl rfl rfl ?_ | refine zaa 3 rfl rfl rfl ?_ | refine zaa 4 rfl rfl rfl ?_ | refine zaa 5 rfl rfl rfl ?_ | refine zab 0 rfl rfl rfl ?_ | refine zab 1 rfl rfl rfl ?_ | refine zab 2 rfl rfl rfl ?_ | refine zab 3 rfl rfl rfl ?_ | refine zab 4 rfl rfl rfl ?_ | refine zab 5 rfl rfl rfl ?_) | ((with_reducible refine zcy ?_); refine zao rfl ?_) | ((with_reducible refine zcz ?_); refine zan rfl ?_) | ((with_reducible refine zda ?_); first | refine zbo rfl rfl ?_ | refine zaz rfl rfl ?_ | refine zbb rfl rfl ?_) | ((with_reducible refine zdd ?_); first | refine zae 0 rfl rfl rfl rfl rfl rfl rfl ?_ | refine zae 1 rfl rfl rfl rfl rfl rfl rfl ?_ | refine zae 2 rfl rfl rfl rfl rfl rfl rfl ?_ | refine zae 3 rfl rfl rfl rfl rfl rfl rfl ?_ | refine zae 4 rfl rfl rfl rfl rfl rfl rfl ?_ | refine zae 5 rfl rfl rfl rfl rfl rfl rfl ?_) | ((with_reducible refine zde ?_); refine zan rfl ?_) | ((with_reducible refine zdg ?_); first | refine zaq (cs := [_]) rfl (fun nb => ?_) | refine zaq (cs := [_, _]) rfl (fun nb => ?_) | refine zaq (cs := [_, _, _]) rfl (fun nb => ?_) | refine zaq (cs := [_, _, _, _]) rfl (fun nb => ?_) | refine zaq (cs := [_, _, _, _, _]) rfl (fun nb => ?_) | refine zaq (cs := [_, _, _, _, _, _]) rfl (fun nb => ?_) | refine zaq (cs := [_, _, _, _, _, _, _]) rfl (fun nb => ?_) | refine zaq (cs := [_, _, _, _, _, _, _, _]) rfl (fun nb => ?_)) | ((with_reducible refine zdh ?_); refine zar (fun nb => ?_)) | refine zcc (fun nb => ?_) | refine zcb rfl ?_)
  all_goals refine zch ?_
  all_goals repeat (first | refine zck ?_ | refine zcl ?_ | refine zcm ?_ | refine zcn ?_)
  revert nb; intro it
  refine run_loop (S := List (Int × Wd) × List Nat) (fun _ => [(3, spP p), (11, .pointer (some ⟨it, 0, none⟩))])
    (fun st Γ => Γ = [pt kb (mapI (knM kn)), pt m1 (mapI (knM st.1)), pt m2 (mapI []), pt it (iterI kb (knM kn).length st.2 (knM kn).length)] ∧ (∀ q ∈ st.2, ∀ a w, kn[q]? = some (a, w) → lookW st.1 a = some w) ∧ (∀ a w, lookW st.1 a = some w → lookW kn a = some w))
    (fun st => cnt kn.length st.2) ([], []) ⟨rfl, rfl, trivial⟩ ⟨rfl, by simp, by simp [lookW]⟩ ?_
  rintro ⟨kn', seen⟩ Γ junk ⟨rfl, h1, h2⟩
  dsimp only at h1 h2 ⊢
  repeat (first | refine zck ?_ | refine zcl ?_ | refine zcm ?_ | refine zcn ?_ | refine zco ?_)
  refine zcp (by kernel_rfl) ?_
  refine zap rfl ?_
  refine reg_next 3 0 rfl rfl (pt_know 0 rfl) rfl (fun _ => rfl) (fun hall => ?_) (fun q e hq hns => ?_)
  · repeat' (first | refine zck ?_ | refine zcp (by kernel_rfl) ?_ | refine zcq PP_mixed (by kernel_rfl) (by kernel_rfl) ?_ | refine zcm ?_ | refine zcl ?_ | refine zcn ?_ | refine zco ?_ | refine zcs rfl ?_ | (refine zap rfl ?_; first | ((with_reducible refine zcu ?_); refine zan rfl ?_) | ((with_reducible refine zcv ?_); refine zan rfl ?_) | ((with_reducible refine zcw ?_); first | refine zaa 0 rfl rfl rfl ?_ | refine zaa 1 rfl rfl rfl ?_ | refine zaa 2 rfl rfl rfl ?_ | refine zaa 3 rfl rfl rfl ?_ | refine zaa 4 rfl rfl rfl ?_ | refine zaa 5 rfl rfl rfl ?_ | refine zab 0 rfl rfl rfl ?_ | refine zab 1 rfl rfl rfl ?_ | refine zab 2 rfl rfl rfl ?_ | refine zab 3 rfl rfl rfl ?_ | refine zab 4 rfl rfl rfl ?_ | refine zab 5 rfl rfl rfl ?_) | ((with_reducible refine zcy ?_); refine zao rfl ?_) | ((with_reducible refine zcz ?_); refine zan rfl ?_) | ((with_reducible refine zda ?_); first | refine zbo rfl rfl ?_ | refine zaz rfl rfl ?_ | refine zbb rfl rfl ?_) | ((with_reducible refine zdd ?_); first | refine zae 0 rfl rfl rfl rfl rfl rfl rfl ?_ | refine zae 1 rfl rfl rfl rfl rfl rfl rfl ?_ | refine zae 2 rfl rfl rfl rfl rfl rfl rfl ?_ | refine zae 3 rfl rfl rfl rfl rfl rfl rfl ?_ | refine zae 4 rfl rfl rfl rfl rfl rfl rfl ?_ | refine zae 5 rfl rfl rfl rfl rfl rfl rfl ?_) | ((with_reducible refine zde ?_); refine zan rfl ?_) | ((with_reducible refine zdg ?_); first | refine zaq (cs := [_]) rfl (fun nb => ?_) | refine zaq (cs := [_, _]) rfl (fun nb => ?_) | refine zaq (cs := [_, _, _]) rfl (fun nb => ?_) | refine zaq (cs := [_, _, _, _]) rfl (fun nb => ?_) | refine zaq (cs := [_, _, _, _, _]) rfl (fun nb => ?_) | refine zaq (cs := [_, _, _, _, _, _]) rfl (fun nb => ?_) | refine zaq (cs := [_, _, _, _, _, _, _]) rfl (fun nb => ?_) | refine zaq (cs := [_, _, _, _, _, _, _, _]) rfl (fun nb => ?_)) | ((with_reducible refine zdh ?_); refine zar (fun nb => ?_)) | refine zcc (fun nb => ?_) | refine zcb rfl ?_) | refine zch ?_ | refine zci rfl ?_ | refine zcj rfl ?_)
    refine cut_exit rfl rfl ?_
    repeat' (first | refine zck ?_ | refine zcp (by kernel_rfl) ?_ | refine zcq PP_mixed (by kernel_rfl) (by kernel_rfl) ?_ | refine zcm ?_ | refine zcl ?_ | refine zcn ?_ | refine zco ?_ | refine zcs rfl ?_ | (refine zap rfl ?_; first | ((with_reducible refine zcu ?_); refine zan rfl ?_) | ((with_reducible refine zcv ?_); refine zan rfl ?_) | ((with_reducible refine zcw ?_); first | refine zaa 0 rfl rfl rfl ?_ | refine zaa 1 rfl rfl rfl ?_ | refine zaa 2 rfl rfl rfl ?_ | refine zaa 3 rfl rfl rfl ?_ | refine zaa 4 rfl rfl rfl ?_ | refine zaa 5 rfl rfl rfl ?_ | refine zab 0 rfl rfl rfl ?_ | refine zab 1 rfl rfl rfl ?_ | refine zab 2 rfl rfl rfl ?_ | refine zab 3 rfl rfl rfl ?_ | refine zab 4 rfl rfl rfl ?_ | refine zab 5 rfl rfl rfl ?_) | ((with_reducible refine zcy ?_); refine zao rfl ?_) | ((with_reducible refine zcz ?_); refine zan rfl ?_) | ((with_reducible refine zda ?_); first | refine zbo rfl rfl ?_ | refine zaz rfl rfl ?_ | refine zbb rfl rfl ?_) | ((with_reducible refine zdd ?_); first | refine zae 0 rfl rfl rfl rfl rfl rfl rfl ?_ | refine zae 1 rfl rfl rfl rfl rfl rfl rfl ?_ | refine zae 2 rfl rfl rfl rfl rfl rfl rfl ?_ | refine zae 3 rfl rfl rfl rfl rfl rfl rfl ?_ | refine zae 4 rfl rfl rfl rfl rfl rfl rfl ?_ | refine zae 5 rfl rfl rfl rfl rfl rfl rfl ?_) | ((with_reducible refine zde ?_); refine zan rfl ?_) | ((with_reducible refine zdg ?_); first | refine zaq (cs := [_]) rfl (fun nb => ?_) | refine zaq (cs := [_, _]) rfl (fun nb => ?_) | refine zaq (cs := [_, _, _]) rfl (fun nb => ?_) | refine zaq (cs := [_, _, _, _]) rfl (fun nb => ?_) | refine zaq (cs := [_, _, _, _, _]) rfl (fun nb => ?_) | refine zaq (cs := [_, _, _, _, _, _]) rfl (fun nb => ?_) | refine zaq (cs := [_, _, _, _, _, _, _]) rfl (fun nb => ?_) | refine zaq (cs := [_, _, _, _, _, _, _, _]) rfl (fun nb => ?_)) | ((with_reducible refine zdh ?_); refine zar (fun nb => ?_)) | refine zcc (fun nb => ?_) | refine zcb rfl ?_) | refine zch ?_ | refine zci rfl ?_ | refine zcj rfl ?_)
    refine run_nilslice 103 2 ?_
    refine run_ret (leaves_nil (ends_close1 (A := SpaceA p ⟨kn', [], [], 0, false⟩) [5, 1, 1, 2] rfl (fun _ h => ⟨(m1, m2, none, 0), h⟩) (ends_one rfl rfl ⟨rfl, p, kn', rfl, rfl, fun a => ?_⟩)))
    cases hk : lookW kn a with
    | none =>
      cases hk' : lookW kn' a with
      | none => rfl
      | some w => have := h2 a w hk'; rw [hk] at this; cases this
    | some w =>
      obtain ⟨q, hq⟩ := lookW_mem kn a w hk
      have hql := (List.getElem?_eq_some_iff.1 hq).1
      exact h1 q (hall q (by rw [knM_length]; exact hql)) a w hq
  · rw [knM_get] at hq
    obtain ⟨⟨a, w⟩, hq2, rfl⟩ : ∃ aw, kn[q]? = some aw ∧ e = (aw.1, wordV aw.2) := by
      cases h : kn[q]? with
      | none => rw [h] at hq; cases hq
      | some aw => rw [h] at hq; exact ⟨aw, rfl, (Option.some.inj hq).symm⟩
    obtain ⟨hk1, hk2⟩ := hkn q a w hq2
    have hql := (List.getElem?_eq_some_iff.1 hq2).1
    have hq3 : (knM kn)[q]? = some (a, wordV w) := by rw [knM_get, hq2]; rfl
    repeat' (refine zap rfl ?_; first | ((with_reducible refine zcu ?_); refine zan rfl ?_) | ((with_reducible refine zcv ?_); refine zan rfl ?_) | ((with_reducible refine zcw ?_); first | refine zaa 0 rfl rfl rfl ?_ | refine zaa 1 rfl rfl rfl ?_ | refine zaa 2 rfl rfl rfl ?_ | refine zaa 3 rfl rfl rfl ?_ | refine zaa 4 rfl rfl rfl ?_ | refine zaa 5 rfl rfl rfl ?_ | refine zab 0 rfl rfl rfl ?_ | refine zab 1 rfl rfl rfl ?_ | refine zab 2 rfl rfl rfl ?_ | refine zab 3 rfl rfl rfl ?_ | refine zab 4 rfl rfl rfl ?_ | refine zab 5 rfl rfl rfl ?_) | ((with_reducible refine zcy ?_); refine zao rfl ?_) | ((with_reducible refine zcz ?_); refine zan rfl ?_) | ((with_reducible refine zda ?_); first | refine zbo rfl rfl ?_ | refine zaz rfl rfl ?_ | refine zbb rfl rfl ?_) | ((with_reducible refine zdd ?_); first | refine zae 0 rfl rfl rfl rfl rfl rfl rfl ?_ | refine zae 1 rfl rfl rfl rfl rfl rfl rfl ?_ | refine zae 2 rfl rfl rfl rfl rfl rfl rfl ?_ | refine zae 3 rfl rfl rfl rfl rfl rfl rfl ?_ | refine zae 4 rfl rfl rfl rfl rfl rfl rfl ?_ | refine zae 5 rfl rfl rfl rfl rfl rfl rfl ?_) | ((with_reducible refine zde ?_); refine zan rfl ?_) | ((with_reducible refine zdg ?_); first | refine zaq (cs := [_]) rfl (fun nb => ?_) | refine zaq (cs := [_, _]) rfl (fun nb => ?_) | refine zaq (cs := [_, _, _]) rfl (fun nb => ?_) | refine zaq (cs := [_, _, _, _]) rfl (fun nb => ?_) | refine zaq (cs := [_, _, _, _, _]) rfl (fun nb => ?_) | refine zaq (cs := [_, _, _, _, _, _]) rfl (fun nb => ?_) | refine zaq (cs := [_, _, _, _, _, _, _]) rfl (fun nb => ?_) | refine zaq (cs := [_, _, _, _, _, _, _, _]) rfl (fun nb => ?_)) | ((with_reducible refine zdh ?_); refine zar (fun nb => ?_)) | refine zcc (fun nb => ?_) | refine zcb rfl ?_)
    refine zch ?_
    repeat (first | refine zck ?_ | refine zcl ?_ | refine zcm ?_ | refine zcn ?_ | refine zco ?_)
    refine zci rfl ?_
    repeat (first | refine zck ?_ | refine zcl ?_ | refine zcm ?_ | refine zcn ?_ | refine zco ?_)
    repeat (first | refine zck ?_ | refine zcl ?_ | refine zcm ?_ | refine zcn ?_)
    first | refine zcp (by kernel_rfl) ?_ | refine zcq PP_mixed (by kernel_rfl) (by kernel_rfl) ?_
    repeat' (refine zap rfl ?_; first | refine reg_entry 3 rfl rfl (pt_know 0 rfl) hq3 ?_ | ((with_reducible refine zcu ?_); refine zan rfl ?_) | ((with_reducible refine zcv ?_); refine zan rfl ?_) | ((with_reducible refine zcw ?_); first | refine zaa 0 rfl rfl rfl ?_ | refine zaa 1 rfl rfl rfl ?_ | refine zaa 2 rfl rfl rfl ?_ | refine zaa 3 rfl rfl rfl ?_ | refine zaa 4 rfl rfl rfl ?_ | refine zaa 5 rfl rfl rfl ?_ | refine zab 0 rfl rfl rfl ?_ | refine zab 1 rfl rfl rfl ?_ | refine zab 2 rfl rfl rfl ?_ | refine zab 3 rfl rfl rfl ?_ | refine zab 4 rfl rfl rfl ?_ | refine zab 5 rfl rfl rfl ?_) | ((with_reducible refine zcy ?_); refine zao rfl ?_) | ((with_reducible refine zcz ?_); refine zan rfl ?_) | ((with_reducible refine zda ?_); first | refine zbo rfl rfl ?_ | refine zaz rfl rfl ?_ | refine zbb rfl rfl ?_) | ((with_reducible refine zdd ?_); first | refine zae 0 rfl rfl rfl rfl rfl rfl rfl ?_ | refine zae 1 rfl rfl rfl rfl rfl rfl rfl ?_ | refine zae 2 rfl rfl rfl rfl rfl rfl rfl ?_ | refine zae 3 rfl rfl rfl rfl rfl rfl rfl ?_ | refine zae 4 rfl rfl rfl rfl rfl rfl rfl ?_ | refine zae 5 rfl rfl rfl rfl rfl rfl rfl ?_) | ((with_reducible refine zde ?_); refine zan rfl ?_) | ((with_reducible refine zdg ?_); first | refine zaq (cs := [_]) rfl (fun nb => ?_) | refine zaq (cs := [_, _]) rfl (fun nb => ?_) | refine zaq (cs := [_, _, _]) rfl (fun nb => ?_) | refine zaq (cs := [_, _, _, _]) rfl (fun nb => ?_) | refine zaq (cs := [_, _, _, _, _]) rfl (fun nb => ?_) | refine zaq (cs := [_, _, _, _, _, _]) rfl (fun nb => ?_) | refine zaq (cs := [_, _, _, _, _, _, _]) rfl (fun nb => ?_) | refine zaq (cs := [_, _, _, _, _, _, _, _]) rfl (fun nb => ?_)) | ((with_reducible refine zdh ?_); refine zar (fun nb => ?_)) | refine zcc (fun nb => ?_) | refine zcb rfl ?_)
    all_goals refine zch ?_
    all_goals repeat (first | refine zck ?_ | refine zcl ?_ | refine zcm ?_ | refine zcn ?_)
    refine run_share [4] rfl ?_
    repeat (first | refine zck ?_ | refine zcl ?_ | refine zcm ?_ | refine zcn ?_)
    first | refine zcp (by kernel_rfl) ?_ | refine zcq PP_mixed (by kernel_rfl) (by kernel_rfl) ?_
    repeat' (refine zap rfl ?_; first | ((with_reducible refine zcu ?_); refine zan rfl ?_) | ((with_reducible refine zcv ?_); refine zan rfl ?_) | ((with_reducible refine zcw ?_); first | refine zaa 0 rfl rfl rfl ?_ | refine zaa 1 rfl rfl rfl ?_ | refine zaa 2 rfl rfl rfl ?_ | refine zaa 3 rfl rfl rfl ?_ | refine zaa 4 rfl rfl rfl ?_ | refine zaa 5 rfl rfl rfl ?_ | refine zab 0 rfl rfl rfl ?_ | refine zab 1 rfl rfl rfl ?_ | refine zab 2 rfl rfl rfl ?_ | refine zab 3 rfl rfl rfl ?_ | refine zab 4 rfl rfl rfl ?_ | refine zab 5 rfl rfl rfl ?_) | ((with_reducible refine zcy ?_); refine zao rfl ?_) | ((with_reducible refine zcz ?_); refine zan rfl ?_) | ((with_reducible refine zda ?_); first | refine zbo rfl rfl ?_ | refine zaz rfl rfl ?_ | refine zbb rfl rfl ?_) | ((with_reducible refine zdd ?_); first | refine zae 0 rfl rfl rfl rfl rfl rfl rfl ?_ | refine zae 1 rfl rfl rfl rfl rfl rfl rfl ?_ | refine zae 2 rfl rfl rfl rfl rfl rfl rfl ?_ | refine zae 3 rfl rfl rfl rfl rfl rfl rfl ?_ | refine zae 4 rfl rfl rfl rfl rfl rfl rfl ?_ | refine zae 5 rfl rfl rfl rfl rfl rfl rfl ?_) | ((with_reducible refine zde ?_); refine zan rfl ?_) | ((with_reducible refine zdg ?_); first | refine zaq (cs := [_]) rfl (fun nb => ?_) | refine zaq (cs := [_, _]) rfl (fun nb => ?_) | refine zaq (cs := [_, _, _]) rfl (fun nb => ?_) | refine zaq (cs := [_, _, _, _]) rfl (fun nb => ?_) | refine zaq (cs := [_, _, _, _, _]) rfl (fun nb => ?_) | refine zaq (cs := [_, _, _, _, _, _]) rfl (fun nb => ?_) | refine zaq (cs := [_, _, _, _, _, _, _]) rfl (fun nb => ?_) | refine zaq (cs := [_, _, _, _, _, _, _, _]) rfl (fun nb => ?_)) | ((with_reducible refine zdh ?_); refine zar (fun nb => ?_)) | refine zcc (fun nb => ?_) | refine zcb rfl ?_)
    all_goals refine zch ?_
    all_goals repeat (first | refine zck ?_ | refine zcl ?_ | refine zcm ?_ | refine zcn ?_)
    refine zci (bool_eq (decide_eq_true hk2)) ?_
    repeat' (first | refine zck ?_ | refine zcp (by kernel_rfl) ?_ | refine zcq PP_mixed (by kernel_rfl) (by kernel_rfl) ?_ | refine zcm ?_ | refine zcl ?_ | refine zcn ?_ | refine zco ?_ | refine zcs rfl ?_ | (refine zap rfl ?_; first | refine reg_mapUpdate 1 rfl rfl rfl rfl rfl ?_ | ((with_reducible refine zcu ?_); refine zan rfl ?_) | ((with_reducible refine zcv ?_); refine zan rfl ?_) | ((with_reducible refine zcw ?_); first | refine zaa 0 rfl rfl rfl ?_ | refine zaa 1 rfl rfl rfl ?_ | refine zaa 2 rfl rfl rfl ?_ | refine zaa 3 rfl rfl rfl ?_ | refine zaa 4 rfl rfl rfl ?_ | refine zaa 5 rfl rfl rfl ?_ | refine zab 0 rfl rfl rfl ?_ | refine zab 1 rfl rfl rfl ?_ | refine zab 2 rfl rfl rfl ?_ | refine zab 3 rfl rfl rfl ?_ | refine zab 4 rfl rfl rfl ?_ | refine zab 5 rfl rfl rfl ?_) | ((with_reducible refine zcy ?_); refine zao rfl ?_) | ((with_reducible refine zcz ?_); refine zan rfl ?_) | ((with_reducible refine zda ?_); first | refine zbo rfl rfl ?_ | refine zaz rfl rfl ?_ | refine zbb rfl rfl ?_) | ((with_reducible refine zdd ?_); first | refine zae 0 rfl rfl rfl rfl rfl rfl rfl ?_ | refine zae 1 rfl rfl rfl rfl rfl rfl rfl ?_ | refine zae 2 rfl rfl rfl rfl rfl rfl rfl ?_ | refine zae 3 rfl rfl rfl rfl rfl rfl rfl ?_ | refine zae 4 rfl rfl rfl rfl rfl rfl rfl ?_ | refine zae 5 rfl rfl rfl rfl rfl rfl rfl ?_) | ((with_reducible refine zde ?_); refine zan rfl ?_) | ((with_reducible refine zdg ?_); first | refine zaq (cs := [_]) rfl (fun nb => ?_) | refine zaq (cs := [_, _]) rfl (fun nb => ?_) | refine zaq (cs := [_, _, _]) rfl (fun nb => ?_) | refine zaq (cs := [_, _, _, _]) rfl (fun nb => ?_) | refine zaq (cs := [_, _, _, _, _]) rfl (fun nb => ?_) | refine zaq (cs := [_, _, _, _, _, _]) rfl (fun nb => ?_) | refine zaq (cs := [_, _, _, _, _, _, _]) rfl (fun nb => ?_) | refine zaq (cs := [_, _, _, _, _, _, _, _]) rfl (fun nb => ?_)) | ((with_reducible refine zdh ?_); refine zar (fun nb => ?_)) | refine zcc (fun nb => ?_) | refine zcb rfl ?_) | refine zch ?_ | refine zci rfl ?_ | refine zcj rfl ?_)
    refine cut_end ⟨rfl, (insW kn' a w, seen ++ [q]), ⟨rfl, rfl, trivial⟩, ⟨?_, ?_, ?_⟩, ?_⟩
    · show _ = [_, pt m1 (mapI (knM (insW kn' a w))), _, _]
      rw [← ins_knM]; rfl
    · intro q' hq' a' w' h
      rw [look_insW]
      rcases List.mem_append.1 hq' with hq' | hq'
      · have := h1 q' hq' a' w' h
        by_cases e : a = a'
        · subst e; rw [if_pos rfl]
          have := (hkn q' a w' h).1
          rw [hk1] at this; exact this
        · rw [if_neg e]; exact this
      · simp at hq'; subst hq'
        rw [hq2] at h; cases h; rw [if_pos rfl]
    · intro a' w' h
      rw [look_insW] at h
      by_cases e : a = a'
      · subst e; rw [if_pos rfl] at h; cases h; exact hk1
      · rw [if_neg e] at h; exact h2 a' w' h
    · have := (cnt_more q seen hns kn.length).2 hql
      dsimp only; omega
end Go.Proofs.YtilnknokgflkjaaDoor

/- The plain model of package pool. -/
namespace Sim
open Go Go.Vc

def Sm (s : Sp) (j : Nat) : Prop := s.puts.length + j ≤ 1099511627776
theorem Sm.mono {s : Sp} {j i : Nat} (h : Sm s j) (hi : i ≤ j) : Sm s i := by unfold Sm at *; omega
theorem reads_putsL (s : Sp) (x : Int) : (s.reads x).2.puts = s.puts := by unfold Sp.reads; split; rfl; split <;> rfl
theorem sm_get {s : Sp} {j : Nat} {a : Int} (h : Sm s j) : Sm (s.get a).2 j := by
  unfold Sm at *; simp only [Sp.get]; split <;> simpa [reads_putsL] using h
theorem sm_put {s : Sp} {j : Nat} {a v : Int} (h : Sm s (j + 1)) : Sm (s.put a v) j := by
  unfold Sm at *; simp only [Sp.put]; split
  · simp; omega
  · simp only [reads_putsL]; omega
theorem sm_back {s : Sp} {j : Nat} {m : Int} (h : Sm s j) : Sm (s.back m) j := by
  unfold Sm at *; simp only [Sp.back]; split
  · simp; omega
  · exact h

def w64 (x : Int) : Int := IntKind.i64.wrap x

structure Pl where
  root : Int
  frm : Int
  nodes : Int
def Pl.chk (P : Pl) : Int :=
  if P.root < 0 ∨ P.frm < 1 ∨ P.nodes < 0 ∨ 128 < P.nodes then 1 else if 4093 < P.root ∨ 4096 - 8 * P.nodes < P.frm then 1 else if 0 < P.nodes ∧ P.frm < P.root + 3 ∧ P.root < P.frm + 8 * P.nodes then 1 else 0
/-- A pool that is valid. -/
def Pl.Ok (P : Pl) : Prop := P.chk = 0 ∧ 0 ≤ P.root ∧ P.root ≤ 4093 ∧ 1 ≤ P.frm ∧ P.frm ≤ 4096 ∧ 0 ≤ P.nodes ∧ P.nodes ≤ 128
def Pl.node (P : Pl) (a : Int) : Bool := decide (P.frm ≤ a) && decide ((w64 (a - P.frm)).tmod 8 = 0) && decide (w64 ((w64 (a - P.frm)).tdiv 8) < P.nodes)
def Pl.idx (P : Pl) (a : Int) : Int := if P.node a then w64 ((w64 (a - P.frm)).tdiv 8) else 0
def Pl.add (P : Pl) (s : Sp) (c n : Int) : Sp := (s.get (P.root + c)).2.put (P.root + c) (w64 ((s.get (P.root + c)).1 + n))
def Pl.take (P : Pl) (s : Sp) : Int × Int × Sp :=
  if (s.get P.root).1 ≠ 0 then
    if P.node (s.get P.root).1 then
      ((s.get P.root).1, 0, P.add (((s.get P.root).2.get (s.get P.root).1).2.put P.root ((s.get P.root).2.get (s.get P.root).1).1) 2 (-1))
    else (0, 24, (s.get P.root).2)
  else
    if ((s.get P.root).2.get (P.root + 1)).1 < 0 ∨ P.nodes ≤ ((s.get P.root).2.get (P.root + 1)).1 then (0, 9, ((s.get P.root).2.get (P.root + 1)).2)
    else (P.frm + 8 * ((s.get P.root).2.get (P.root + 1)).1, 0, ((s.get P.root).2.get (P.root + 1)).2.put (P.root + 1) (((s.get P.root).2.get (P.root + 1)).1 + 1))
def Pl.give (P : Pl) (s : Sp) (a : Int) : Int × Sp :=
  if P.node a then (0, P.add (((s.get P.root).2.put a (s.get P.root).1).put P.root a) 2 1) else (1, s)
def Pl.left (P : Pl) (s : Sp) : Int × Sp :=
  (max (w64 (w64 ((s.get (P.root + 2)).1 + P.nodes) - ((s.get (P.root + 2)).2.get (P.root + 1)).1)) 0, ((s.get (P.root + 2)).2.get (P.root + 1)).2)
end Sim

/- The walks of package pool. -/
namespace Go.Proofs.YtilnknokgflkjaaDoor
open Go.Vc Sim
def poolV (P : Pl) : Value := .agg #[.int .i64 P.root, .int .i64 P.frm, .int .i64 P.nodes]
theorem getS (w0 : World) (p : Nat) (s : Sp) (x : Int) (h : Sm s 0) : FnE PP w0 [] 28 [spP p, .int .i64 x] [SpaceA p s] (.int .i64 (s.get x).1) [SpaceA p (s.get x).2] := get_spec w0 p s x h
theorem putS (w0 : World) (p : Nat) (s : Sp) (x v : Int) (h : Sm s 0) : FnE PP w0 [] 31 [spP p, .int .i64 x, .int .i64 v] [SpaceA p s] (.tuple #[]) [SpaceA p (s.put x v)] := put_spec w0 p s x v h

theorem check_spec (w0 : World) (P : Pl) (hP : P.Ok) : FnE PP w0 [] 36 [poolV P] [] (.int .i64 0) [] := by
  obtain ⟨h, _⟩ := hP
  refine fn_of_run en36 fn36 rfl rfl rfl ?_
  repeat (first | refine zck ?_ | refine zcl ?_ | refine zcm ?_ | refine zcn ?_)
  first | refine zcp (by kernel_rfl) ?_ | refine zcq PP_mixed (by kernel_rfl) (by kernel_rfl) ?_
  repeat' (refine zap rfl ?_; first | ((with_reducible refine zct ?_); first | refine zaj rfl ?_ | refine zak rfl ?_ | refine zal rfl ?_ | refine zam rfl rfl (fun _ => ?_) (fun _ => ?_)) | ((with_reducible refine zcu ?_); refine zan rfl ?_) | ((with_reducible refine zcv ?_); refine zan rfl ?_) | ((with_reducible refine zcw ?_); first | refine zaa 0 rfl rfl rfl ?_ | refine zaa 1 rfl rfl rfl ?_ | refine zaa 2 rfl rfl rfl ?_ | refine zaa 3 rfl rfl rfl ?_ | refine zaa 4 rfl rfl rfl ?_ | refine zaa 5 rfl rfl rfl ?_ | refine zab 0 rfl rfl rfl ?_ | refine zab 1 rfl rfl rfl ?_ | refine zab 2 rfl rfl rfl ?_ | refine zab 3 rfl rfl rfl ?_ | refine zab 4 rfl rfl rfl ?_ | refine zab 5 rfl rfl rfl ?_) | ((with_reducible refine zcy ?_); refine zao rfl ?_) | ((with_reducible refine zda ?_); first | refine zau rfl rfl (by omega) ?_ | refine zav rfl rfl (by omega) ?_ | refine zaw rfl rfl (by omega) ?_ | refine zbq rfl rfl ?_ | refine zbs rfl rfl ?_) | ((with_reducible refine zdc ?_); first | refine zbu rfl ?_ | refine zbv rfl ?_ | refine zbw rfl rfl rfl ?_) | ((with_reducible refine zdg ?_); first | refine zaq (cs := [_]) rfl (fun nb => ?_) | refine zaq (cs := [_, _]) rfl (fun nb => ?_) | refine zaq (cs := [_, _, _]) rfl (fun nb => ?_) | refine zaq (cs := [_, _, _, _]) rfl (fun nb => ?_) | refine zaq (cs := [_, _, _, _, _]) rfl (fun nb => ?_) | refine zaq (cs := [_, _, _, _, _, _]) rfl (fun nb => ?_) | refine zaq (cs := [_, _, _, _, _, _, _]) rfl (fun nb => ?_) | refine zaq (cs := [_, _, _, _, _, _, _, _]) rfl (fun nb => ?_)))
  all_goals refine zch ?_
  all_goals repeat (first | refine zck ?_ | refine zcl ?_ | refine zcm ?_ | refine zcn ?_)
  refine run_share [0] rfl ?_
  repeat' (first | refine zck ?_ | refine zcp (by kernel_rfl) ?_ | refine zcq PP_mixed (by kernel_rfl) (by kernel_rfl) ?_ | refine zcm ?_ | refine zcl ?_ | refine zcn ?_ | refine zco ?_ | refine zcs rfl ?_ | (refine zap rfl ?_; first | ((with_reducible refine zct ?_); first | refine zaj rfl ?_ | refine zak rfl ?_ | refine zal rfl ?_ | refine zam rfl rfl (fun _ => ?_) (fun _ => ?_)) | ((with_reducible refine zcu ?_); refine zan rfl ?_) | ((with_reducible refine zcv ?_); refine zan rfl ?_) | ((with_reducible refine zcw ?_); first | refine zaa 0 rfl rfl rfl ?_ | refine zaa 1 rfl rfl rfl ?_ | refine zaa 2 rfl rfl rfl ?_ | refine zaa 3 rfl rfl rfl ?_ | refine zaa 4 rfl rfl rfl ?_ | refine zaa 5 rfl rfl rfl ?_ | refine zab 0 rfl rfl rfl ?_ | refine zab 1 rfl rfl rfl ?_ | refine zab 2 rfl rfl rfl ?_ | refine zab 3 rfl rfl rfl ?_ | refine zab 4 rfl rfl rfl ?_ | refine zab 5 rfl rfl rfl ?_) | ((with_reducible refine zcy ?_); refine zao rfl ?_) | ((with_reducible refine zda ?_); first | refine zau rfl rfl (by omega) ?_ | refine zav rfl rfl (by omega) ?_ | refine zaw rfl rfl (by omega) ?_ | refine zbq rfl rfl ?_ | refine zbs rfl rfl ?_) | ((with_reducible refine zdc ?_); first | refine zbu rfl ?_ | refine zbv rfl ?_ | refine zbw rfl rfl rfl ?_) | ((with_reducible refine zdg ?_); first | refine zaq (cs := [_]) rfl (fun nb => ?_) | refine zaq (cs := [_, _]) rfl (fun nb => ?_) | refine zaq (cs := [_, _, _]) rfl (fun nb => ?_) | refine zaq (cs := [_, _, _, _]) rfl (fun nb => ?_) | refine zaq (cs := [_, _, _, _, _]) rfl (fun nb => ?_) | refine zaq (cs := [_, _, _, _, _, _]) rfl (fun nb => ?_) | refine zaq (cs := [_, _, _, _, _, _, _]) rfl (fun nb => ?_) | refine zaq (cs := [_, _, _, _, _, _, _, _]) rfl (fun nb => ?_))) | refine zch ?_ | refine zci rfl ?_ | refine zcj rfl ?_ | refine run_cond rfl (fun _ => ?_) (fun _ => ?_) | refine run_condV rfl (fun _ => ?_) (fun _ => ?_))
  all_goals (refine ret_tmp1 rfl ?_; refine ⟨int_eq ?_, rfl⟩)
  all_goals (unfold Pl.chk at h; split at h <;> try split at h <;> try split at h)
  all_goals omega

theorem node_spec (w0 : World) (P : Pl) (hP : P.Ok) (a : Int) : FnE PP w0 [] 46 [poolV P, .int .i64 a] [] (.tuple #[.int .i64 (P.idx a), .bool (P.node a)]) [] := by
  refine fn_of_run en46 fn46 rfl rfl rfl ?_
  repeat (first | refine zck ?_ | refine zcl ?_ | refine zcm ?_ | refine zcn ?_)
  first | refine zcp (by kernel_rfl) ?_ | refine zcq PP_mixed (by kernel_rfl) (by kernel_rfl) ?_
  repeat' (refine zap rfl ?_; first | ((with_reducible refine zct ?_); first | refine zaj rfl ?_ | refine zak rfl ?_ | refine zal rfl ?_ | refine zam rfl rfl (fun _ => ?_) (fun _ => ?_)) | ((with_reducible refine zcu ?_); refine zan rfl ?_) | ((with_reducible refine zcv ?_); refine zan rfl ?_) | ((with_reducible refine zcw ?_); first | refine zaa 0 rfl rfl rfl ?_ | refine zaa 1 rfl rfl rfl ?_ | refine zaa 2 rfl rfl rfl ?_ | refine zaa 3 rfl rfl rfl ?_ | refine zaa 4 rfl rfl rfl ?_ | refine zaa 5 rfl rfl rfl ?_ | refine zab 0 rfl rfl rfl ?_ | refine zab 1 rfl rfl rfl ?_ | refine zab 2 rfl rfl rfl ?_ | refine zab 3 rfl rfl rfl ?_ | refine zab 4 rfl rfl rfl ?_ | refine zab 5 rfl rfl rfl ?_) | ((with_reducible refine zcy ?_); refine zao rfl ?_) | ((with_reducible refine zda ?_); first | refine zav rfl rfl (by omega) ?_ | refine zbp rfl rfl ?_ | refine zbq rfl rfl ?_ | refine zbt rfl rfl ?_ | refine zax rfl rfl (by omega) ?_ | refine zay rfl rfl (by omega) ?_ | refine zba rfl rfl ?_) | ((with_reducible refine zdc ?_); first | refine zbu rfl ?_ | refine zbv rfl ?_ | refine zbw rfl rfl rfl ?_) | ((with_reducible refine zdg ?_); first | refine zaq (cs := [_]) rfl (fun nb => ?_) | refine zaq (cs := [_, _]) rfl (fun nb => ?_) | refine zaq (cs := [_, _, _]) rfl (fun nb => ?_) | refine zaq (cs := [_, _, _, _]) rfl (fun nb => ?_) | refine zaq (cs := [_, _, _, _, _]) rfl (fun nb => ?_) | refine zaq (cs := [_, _, _, _, _, _]) rfl (fun nb => ?_) | refine zaq (cs := [_, _, _, _, _, _, _]) rfl (fun nb => ?_) | refine zaq (cs := [_, _, _, _, _, _, _, _]) rfl (fun nb => ?_)))
  all_goals refine zch ?_
  all_goals repeat (first | refine zck ?_ | refine zcl ?_ | refine zcm ?_ | refine zcn ?_)
  refine run_share [0] rfl ?_
  repeat' (first | refine zck ?_ | refine zcp (by kernel_rfl) ?_ | refine zcq PP_mixed (by kernel_rfl) (by kernel_rfl) ?_ | refine zcm ?_ | refine zcl ?_ | refine zcn ?_ | refine zco ?_ | refine zcs rfl ?_ | (refine zap rfl ?_; first | refine reg_sub rfl rfl ?_ | refine reg_rem rfl rfl (by decide) ?_ | refine reg_quo rfl rfl (by decide) ?_ | ((with_reducible refine zct ?_); first | refine zaj rfl ?_ | refine zak rfl ?_ | refine zal rfl ?_ | refine zam rfl rfl (fun _ => ?_) (fun _ => ?_)) | ((with_reducible refine zcu ?_); refine zan rfl ?_) | ((with_reducible refine zcv ?_); refine zan rfl ?_) | ((with_reducible refine zcw ?_); first | refine zaa 0 rfl rfl rfl ?_ | refine zaa 1 rfl rfl rfl ?_ | refine zaa 2 rfl rfl rfl ?_ | refine zaa 3 rfl rfl rfl ?_ | refine zaa 4 rfl rfl rfl ?_ | refine zaa 5 rfl rfl rfl ?_ | refine zab 0 rfl rfl rfl ?_ | refine zab 1 rfl rfl rfl ?_ | refine zab 2 rfl rfl rfl ?_ | refine zab 3 rfl rfl rfl ?_ | refine zab 4 rfl rfl rfl ?_ | refine zab 5 rfl rfl rfl ?_) | ((with_reducible refine zcx ?_); refine zah [] (check_spec w0 P hP) rfl rfl rfl sub_nil rfl ?_) | ((with_reducible refine zcy ?_); refine zao rfl ?_) | ((with_reducible refine zda ?_); first | refine zav rfl rfl (by omega) ?_ | refine zbp rfl rfl ?_ | refine zbq rfl rfl ?_ | refine zbt rfl rfl ?_ | refine zax rfl rfl (by omega) ?_ | refine zay rfl rfl (by omega) ?_ | refine zba rfl rfl ?_) | ((with_reducible refine zdc ?_); first | refine zbu rfl ?_ | refine zbv rfl ?_ | refine zbw rfl rfl rfl ?_) | ((with_reducible refine zdg ?_); first | refine zaq (cs := [_]) rfl (fun nb => ?_) | refine zaq (cs := [_, _]) rfl (fun nb => ?_) | refine zaq (cs := [_, _, _]) rfl (fun nb => ?_) | refine zaq (cs := [_, _, _, _]) rfl (fun nb => ?_) | refine zaq (cs := [_, _, _, _, _]) rfl (fun nb => ?_) | refine zaq (cs := [_, _, _, _, _, _]) rfl (fun nb => ?_) | refine zaq (cs := [_, _, _, _, _, _, _]) rfl (fun nb => ?_) | refine zaq (cs := [_, _, _, _, _, _, _, _]) rfl (fun nb => ?_))) | refine zch ?_ | refine zci rfl ?_ | refine zcj rfl ?_ | refine run_cond rfl (fun _ => ?_) (fun _ => ?_) | refine run_condV rfl (fun _ => ?_) (fun _ => ?_))
  all_goals refine ret_tmp2 rfl ⟨?_, rfl⟩
  all_goals refine congrArg Value.tuple (?_ : #[Value.int .i64 _, .bool _] = #[Value.int .i64 _, .bool _])
  all_goals simp_all [Pl.idx, Pl.node, w64, ← Int.not_lt]

theorem add_spec (w0 : World) (p : Nat) (P : Pl) (hP : P.Ok) (s : Sp) (c m : Int) (hc : 0 ≤ c ∧ c ≤ 3) (hsm : Sm s 1) : FnE PP w0 [] 48 [poolV P, spP p, .int .i64 c, .int .i64 m] [SpaceA p s] (.tuple #[]) [SpaceA p (P.add s c m)] := by
  obtain ⟨_, h1, h2, h3, h4, h5, h6⟩ := id hP
  refine fn_of_run en48 fn48 rfl rfl rfl ?_
  repeat (first | refine zck ?_ | refine zcl ?_ | refine zcm ?_ | refine zcn ?_)
  first | refine zcp (by kernel_rfl) ?_ | refine zcq PP_mixed (by kernel_rfl) (by kernel_rfl) ?_
  repeat' (refine zap rfl ?_; first | ((with_reducible refine zcu ?_); refine zan rfl ?_) | ((with_reducible refine zcw ?_); first | refine zaa 0 rfl rfl rfl ?_ | refine zaa 1 rfl rfl rfl ?_ | refine zaa 2 rfl rfl rfl ?_ | refine zaa 3 rfl rfl rfl ?_ | refine zaa 4 rfl rfl rfl ?_ | refine zaa 5 rfl rfl rfl ?_ | refine zab 0 rfl rfl rfl ?_ | refine zab 1 rfl rfl rfl ?_ | refine zab 2 rfl rfl rfl ?_ | refine zab 3 rfl rfl rfl ?_ | refine zab 4 rfl rfl rfl ?_ | refine zab 5 rfl rfl rfl ?_) | ((with_reducible refine zcy ?_); refine zao rfl ?_) | ((with_reducible refine zda ?_); refine zau rfl rfl (by omega) ?_) | ((with_reducible refine zdg ?_); first | refine zaq (cs := [_]) rfl (fun nb => ?_) | refine zaq (cs := [_, _]) rfl (fun nb => ?_) | refine zaq (cs := [_, _, _]) rfl (fun nb => ?_) | refine zaq (cs := [_, _, _, _]) rfl (fun nb => ?_) | refine zaq (cs := [_, _, _, _, _]) rfl (fun nb => ?_) | refine zaq (cs := [_, _, _, _, _, _]) rfl (fun nb => ?_) | refine zaq (cs := [_, _, _, _, _, _, _]) rfl (fun nb => ?_) | refine zaq (cs := [_, _, _, _, _, _, _, _]) rfl (fun nb => ?_)))
  all_goals refine zch ?_
  all_goals repeat (first | refine zck ?_ | refine zcl ?_ | refine zcm ?_ | refine zcn ?_)
  refine run_share [1] rfl ?_
  repeat' (first | refine zck ?_ | refine zcp (by kernel_rfl) ?_ | refine zcq PP_mixed (by kernel_rfl) (by kernel_rfl) ?_ | refine zcm ?_ | refine zcl ?_ | refine zcn ?_ | refine zco ?_ | refine zcs rfl ?_ | (refine zap rfl ?_; first | refine reg_add (t := 2) rfl rfl ?_ | ((with_reducible refine zcu ?_); refine zan rfl ?_) | ((with_reducible refine zcw ?_); first | refine zaa 0 rfl rfl rfl ?_ | refine zaa 1 rfl rfl rfl ?_ | refine zaa 2 rfl rfl rfl ?_ | refine zaa 3 rfl rfl rfl ?_ | refine zaa 4 rfl rfl rfl ?_ | refine zaa 5 rfl rfl rfl ?_ | refine zab 0 rfl rfl rfl ?_ | refine zab 1 rfl rfl rfl ?_ | refine zab 2 rfl rfl rfl ?_ | refine zab 3 rfl rfl rfl ?_ | refine zab 4 rfl rfl rfl ?_ | refine zab 5 rfl rfl rfl ?_) | ((with_reducible refine zcx ?_); first | refine zah [0] (getS w0 p _ _ (by first | exact hsm.mono (by decide) | (repeat (first | refine sm_get ?_ | refine sm_put ?_)); exact hsm.mono (by decide))) rfl rfl rfl sub_nil rfl ?_ | refine zah [0] (putS w0 p _ _ _ (by first | exact hsm.mono (by decide) | (repeat (first | refine sm_get ?_ | refine sm_put ?_)); exact hsm.mono (by decide))) rfl rfl rfl sub_nil rfl ?_) | ((with_reducible refine zcy ?_); refine zao rfl ?_) | ((with_reducible refine zda ?_); refine zau rfl rfl (by omega) ?_) | ((with_reducible refine zdg ?_); first | refine zaq (cs := [_]) rfl (fun nb => ?_) | refine zaq (cs := [_, _]) rfl (fun nb => ?_) | refine zaq (cs := [_, _, _]) rfl (fun nb => ?_) | refine zaq (cs := [_, _, _, _]) rfl (fun nb => ?_) | refine zaq (cs := [_, _, _, _, _]) rfl (fun nb => ?_) | refine zaq (cs := [_, _, _, _, _, _]) rfl (fun nb => ?_) | refine zaq (cs := [_, _, _, _, _, _, _]) rfl (fun nb => ?_) | refine zaq (cs := [_, _, _, _, _, _, _, _]) rfl (fun nb => ?_))) | refine zch ?_ | refine zci rfl ?_ | refine zcj rfl ?_)
  refine end_tmp0 rfl ⟨rfl, rfl⟩
end Go.Proofs.YtilnknokgflkjaaDoor

/- The walks of package pool: Take, Give, Left. -/
namespace Go.Proofs.YtilnknokgflkjaaDoor
open Go.Vc Sim
set_option maxHeartbeats 4000000

theorem give_spec (w0 : World) (p : Nat) (P : Pl) (hP : P.Ok) (s : Sp) (a : Int) (hsm : Sm s 3) : FnE PP w0 [] 35 [poolV P, spP p, .int .i64 a] [SpaceA p s] (.int .i64 (P.give s a).1) [SpaceA p (P.give s a).2] := by
  obtain ⟨_, h1, h2, h3, h4, h5, h6⟩ := id hP
  refine fn_of_run en35 fn35 rfl rfl rfl ?_
  repeat (first | refine zck ?_ | refine zcl ?_ | refine zcm ?_ | refine zcn ?_)
  first | refine zcp (by kernel_rfl) ?_ | refine zcq PP_mixed (by kernel_rfl) (by kernel_rfl) ?_
  repeat' (refine zap rfl ?_; first | ((with_reducible refine zcu ?_); refine zan rfl ?_) | ((with_reducible refine zcv ?_); refine zan rfl ?_) | ((with_reducible refine zcw ?_); first | refine zaa 0 rfl rfl rfl ?_ | refine zaa 1 rfl rfl rfl ?_ | refine zaa 2 rfl rfl rfl ?_ | refine zaa 3 rfl rfl rfl ?_ | refine zaa 4 rfl rfl rfl ?_ | refine zaa 5 rfl rfl rfl ?_ | refine zab 0 rfl rfl rfl ?_ | refine zab 1 rfl rfl rfl ?_ | refine zab 2 rfl rfl rfl ?_ | refine zab 3 rfl rfl rfl ?_ | refine zab 4 rfl rfl rfl ?_ | refine zab 5 rfl rfl rfl ?_) | ((with_reducible refine zcy ?_); refine zao rfl ?_) | ((with_reducible refine zcz ?_); refine zan rfl ?_) | ((with_reducible refine zdb ?_); first | refine zby rfl ?_ | refine zbx rfl ?_) | ((with_reducible refine zdg ?_); first | refine zaq (cs := [_]) rfl (fun nb => ?_) | refine zaq (cs := [_, _]) rfl (fun nb => ?_) | refine zaq (cs := [_, _, _]) rfl (fun nb => ?_) | refine zaq (cs := [_, _, _, _]) rfl (fun nb => ?_) | refine zaq (cs := [_, _, _, _, _]) rfl (fun nb => ?_) | refine zaq (cs := [_, _, _, _, _, _]) rfl (fun nb => ?_) | refine zaq (cs := [_, _, _, _, _, _, _]) rfl (fun nb => ?_) | refine zaq (cs := [_, _, _, _, _, _, _, _]) rfl (fun nb => ?_)))
  all_goals refine zch ?_
  all_goals repeat (first | refine zck ?_ | refine zcl ?_ | refine zcm ?_ | refine zcn ?_)
  refine run_share [1] rfl ?_
  repeat' (first | refine zck ?_ | refine zcp (by kernel_rfl) ?_ | refine zcq PP_mixed (by kernel_rfl) (by kernel_rfl) ?_ | refine zcm ?_ | refine zcl ?_ | refine zcn ?_ | refine zco ?_ | refine zcs rfl ?_ | (refine zap rfl ?_; first | ((with_reducible refine zcu ?_); refine zan rfl ?_) | ((with_reducible refine zcv ?_); refine zan rfl ?_) | ((with_reducible refine zcw ?_); first | refine zaa 0 rfl rfl rfl ?_ | refine zaa 1 rfl rfl rfl ?_ | refine zaa 2 rfl rfl rfl ?_ | refine zaa 3 rfl rfl rfl ?_ | refine zaa 4 rfl rfl rfl ?_ | refine zaa 5 rfl rfl rfl ?_ | refine zab 0 rfl rfl rfl ?_ | refine zab 1 rfl rfl rfl ?_ | refine zab 2 rfl rfl rfl ?_ | refine zab 3 rfl rfl rfl ?_ | refine zab 4 rfl rfl rfl ?_ | refine zab 5 rfl rfl rfl ?_) | ((with_reducible refine zcx ?_); refine zah [] (node_spec w0 P hP _) rfl rfl rfl sub_nil rfl ?_) | ((with_reducible refine zcy ?_); refine zao rfl ?_) | ((with_reducible refine zcz ?_); refine zan rfl ?_) | ((with_reducible refine zdb ?_); first | refine zby rfl ?_ | refine zbx rfl ?_) | ((with_reducible refine zdg ?_); first | refine zaq (cs := [_]) rfl (fun nb => ?_) | refine zaq (cs := [_, _]) rfl (fun nb => ?_) | refine zaq (cs := [_, _, _]) rfl (fun nb => ?_) | refine zaq (cs := [_, _, _, _]) rfl (fun nb => ?_) | refine zaq (cs := [_, _, _, _, _]) rfl (fun nb => ?_) | refine zaq (cs := [_, _, _, _, _, _]) rfl (fun nb => ?_) | refine zaq (cs := [_, _, _, _, _, _, _]) rfl (fun nb => ?_) | refine zaq (cs := [_, _, _, _, _, _, _, _]) rfl (fun nb => ?_))) | refine zch ?_ | refine zci rfl ?_ | refine zcj rfl ?_)
  refine run_condV rfl (fun hE => ?_) (fun hE => ?_)
  · have hE : P.node a = false := by simpa using hE
    repeat' (first | refine zck ?_ | refine zcp (by kernel_rfl) ?_ | refine zcq PP_mixed (by kernel_rfl) (by kernel_rfl) ?_ | refine zcm ?_ | refine zcl ?_ | refine zcn ?_ | refine zco ?_ | refine zcs rfl ?_ | (refine zap rfl ?_; first | ((with_reducible refine zcu ?_); refine zan rfl ?_) | ((with_reducible refine zcv ?_); refine zan rfl ?_) | ((with_reducible refine zcw ?_); first | refine zaa 0 rfl rfl rfl ?_ | refine zaa 1 rfl rfl rfl ?_ | refine zaa 2 rfl rfl rfl ?_ | refine zaa 3 rfl rfl rfl ?_ | refine zaa 4 rfl rfl rfl ?_ | refine zaa 5 rfl rfl rfl ?_ | refine zab 0 rfl rfl rfl ?_ | refine zab 1 rfl rfl rfl ?_ | refine zab 2 rfl rfl rfl ?_ | refine zab 3 rfl rfl rfl ?_ | refine zab 4 rfl rfl rfl ?_ | refine zab 5 rfl rfl rfl ?_) | ((with_reducible refine zcy ?_); refine zao rfl ?_) | ((with_reducible refine zcz ?_); refine zan rfl ?_) | ((with_reducible refine zdb ?_); first | refine zby rfl ?_ | refine zbx rfl ?_) | ((with_reducible refine zdg ?_); first | refine zaq (cs := [_]) rfl (fun nb => ?_) | refine zaq (cs := [_, _]) rfl (fun nb => ?_) | refine zaq (cs := [_, _, _]) rfl (fun nb => ?_) | refine zaq (cs := [_, _, _, _]) rfl (fun nb => ?_) | refine zaq (cs := [_, _, _, _, _]) rfl (fun nb => ?_) | refine zaq (cs := [_, _, _, _, _, _]) rfl (fun nb => ?_) | refine zaq (cs := [_, _, _, _, _, _, _]) rfl (fun nb => ?_) | refine zaq (cs := [_, _, _, _, _, _, _, _]) rfl (fun nb => ?_))) | refine zch ?_ | refine zci rfl ?_ | refine zcj rfl ?_)
    have e : P.give s a = (1, s) := by simp [Pl.give, hE]
    rw [e]
    exact ret_tmp1 rfl ⟨rfl, rfl⟩
  · have hE : P.node a = true := by simpa using hE
    repeat' (first | refine zck ?_ | refine zcp (by kernel_rfl) ?_ | refine zcq PP_mixed (by kernel_rfl) (by kernel_rfl) ?_ | refine zcm ?_ | refine zcl ?_ | refine zcn ?_ | refine zco ?_ | refine zcs rfl ?_ | (refine zap rfl ?_; first | ((with_reducible refine zcu ?_); refine zan rfl ?_) | ((with_reducible refine zcv ?_); refine zan rfl ?_) | ((with_reducible refine zcw ?_); first | refine zaa 0 rfl rfl rfl ?_ | refine zaa 1 rfl rfl rfl ?_ | refine zaa 2 rfl rfl rfl ?_ | refine zaa 3 rfl rfl rfl ?_ | refine zaa 4 rfl rfl rfl ?_ | refine zaa 5 rfl rfl rfl ?_ | refine zab 0 rfl rfl rfl ?_ | refine zab 1 rfl rfl rfl ?_ | refine zab 2 rfl rfl rfl ?_ | refine zab 3 rfl rfl rfl ?_ | refine zab 4 rfl rfl rfl ?_ | refine zab 5 rfl rfl rfl ?_) | ((with_reducible refine zcx ?_); first | refine zah [0] (getS w0 p _ _ (by first | exact hsm.mono (by decide) | (repeat (first | refine sm_get ?_ | refine sm_put ?_)); exact hsm.mono (by decide))) rfl rfl rfl sub_nil rfl ?_ | refine zah [0] (putS w0 p _ _ _ (by first | exact hsm.mono (by decide) | (repeat (first | refine sm_get ?_ | refine sm_put ?_)); exact hsm.mono (by decide))) rfl rfl rfl sub_nil rfl ?_ | refine zah [0] (add_spec w0 p P hP _ _ _ (by decide) (by first | exact hsm.mono (by decide) | (repeat (first | refine sm_get ?_ | refine sm_put ?_)); exact hsm.mono (by decide))) rfl rfl rfl sub_nil rfl ?_) | ((with_reducible refine zcy ?_); refine zao rfl ?_) | ((with_reducible refine zcz ?_); refine zan rfl ?_) | ((with_reducible refine zdb ?_); first | refine zby rfl ?_ | refine zbx rfl ?_) | ((with_reducible refine zdg ?_); first | refine zaq (cs := [_]) rfl (fun nb => ?_) | refine zaq (cs := [_, _]) rfl (fun nb => ?_) | refine zaq (cs := [_, _, _]) rfl (fun nb => ?_) | refine zaq (cs := [_, _, _, _]) rfl (fun nb => ?_) | refine zaq (cs := [_, _, _, _, _]) rfl (fun nb => ?_) | refine zaq (cs := [_, _, _, _, _, _]) rfl (fun nb => ?_) | refine zaq (cs := [_, _, _, _, _, _, _]) rfl (fun nb => ?_) | refine zaq (cs := [_, _, _, _, _, _, _, _]) rfl (fun nb => ?_))) | refine zch ?_ | refine zci rfl ?_ | refine zcj rfl ?_)
    have e : P.give s a = (0, P.add (((s.get P.root).2.put a (s.get P.root).1).put P.root a) 2 1) := by simp [Pl.give, hE]
    rw [e]
    exact ret_tmp1 rfl ⟨rfl, rfl⟩

theorem left_spec (w0 : World) (p : Nat) (P : Pl) (hP : P.Ok) (s : Sp) (hsm : Sm s 0) : FnE PP w0 [] 13 [poolV P, spP p] [SpaceA p s] (.int .i64 (P.left s).1) [SpaceA p (P.left s).2] := by
  obtain ⟨_, h1, h2, h3, h4, h5, h6⟩ := id hP
  refine fn_of_run en13 fn13 rfl rfl rfl ?_
  repeat (first | refine zck ?_ | refine zcl ?_ | refine zcm ?_ | refine zcn ?_)
  first | refine zcp (by kernel_rfl) ?_ | refine zcq PP_mixed (by kernel_rfl) (by kernel_rfl) ?_
  repeat' (refine zap rfl ?_; first | ((with_reducible refine zcu ?_); refine zan rfl ?_) | ((with_reducible refine zcv ?_); refine zan rfl ?_) | ((with_reducible refine zcw ?_); first | refine zaa 0 rfl rfl rfl ?_ | refine zaa 1 rfl rfl rfl ?_ | refine zaa 2 rfl rfl rfl ?_ | refine zaa 3 rfl rfl rfl ?_ | refine zaa 4 rfl rfl rfl ?_ | refine zaa 5 rfl rfl rfl ?_ | refine zab 0 rfl rfl rfl ?_ | refine zab 1 rfl rfl rfl ?_ | refine zab 2 rfl rfl rfl ?_ | refine zab 3 rfl rfl rfl ?_ | refine zab 4 rfl rfl rfl ?_ | refine zab 5 rfl rfl rfl ?_) | ((with_reducible refine zcx ?_); refine zcf rfl rfl ?_) | ((with_reducible refine zcy ?_); refine zao rfl ?_) | ((with_reducible refine zda ?_); first | refine zau rfl rfl (by omega) ?_ | refine zav rfl rfl (by omega) ?_ | refine zbp rfl rfl ?_ | refine zba rfl rfl ?_) | ((with_reducible refine zdg ?_); first | refine zaq (cs := [_]) rfl (fun nb => ?_) | refine zaq (cs := [_, _]) rfl (fun nb => ?_) | refine zaq (cs := [_, _, _]) rfl (fun nb => ?_) | refine zaq (cs := [_, _, _, _]) rfl (fun nb => ?_) | refine zaq (cs := [_, _, _, _, _]) rfl (fun nb => ?_) | refine zaq (cs := [_, _, _, _, _, _]) rfl (fun nb => ?_) | refine zaq (cs := [_, _, _, _, _, _, _]) rfl (fun nb => ?_) | refine zaq (cs := [_, _, _, _, _, _, _, _]) rfl (fun nb => ?_)))
  all_goals refine zch ?_
  all_goals repeat (first | refine zck ?_ | refine zcl ?_ | refine zcm ?_ | refine zcn ?_)
  refine run_share [1] rfl ?_
  repeat' (first | refine zck ?_ | refine zcp (by kernel_rfl) ?_ | refine zcq PP_mixed (by kernel_rfl) (by kernel_rfl) ?_ | refine zcm ?_ | refine zcl ?_ | refine zcn ?_ | refine zco ?_ | refine zcs rfl ?_ | (refine zap rfl ?_; first | refine reg_add (t := 2) rfl rfl ?_ | refine reg_sub (t := 2) rfl rfl ?_ | ((with_reducible refine zcu ?_); refine zan rfl ?_) | ((with_reducible refine zcv ?_); refine zan rfl ?_) | ((with_reducible refine zcw ?_); first | refine zaa 0 rfl rfl rfl ?_ | refine zaa 1 rfl rfl rfl ?_ | refine zaa 2 rfl rfl rfl ?_ | refine zaa 3 rfl rfl rfl ?_ | refine zaa 4 rfl rfl rfl ?_ | refine zaa 5 rfl rfl rfl ?_ | refine zab 0 rfl rfl rfl ?_ | refine zab 1 rfl rfl rfl ?_ | refine zab 2 rfl rfl rfl ?_ | refine zab 3 rfl rfl rfl ?_ | refine zab 4 rfl rfl rfl ?_ | refine zab 5 rfl rfl rfl ?_) | ((with_reducible refine zcx ?_); first | refine zah [] (check_spec w0 P hP) rfl rfl rfl sub_nil rfl ?_ | refine zah [0] (getS w0 p _ _ (by first | exact hsm.mono (by decide) | (repeat (first | refine sm_get ?_ | refine sm_put ?_)); exact hsm.mono (by decide))) rfl rfl rfl sub_nil rfl ?_ | refine zcf rfl rfl ?_) | ((with_reducible refine zcy ?_); refine zao rfl ?_) | ((with_reducible refine zda ?_); first | refine zau rfl rfl (by omega) ?_ | refine zav rfl rfl (by omega) ?_ | refine zbp rfl rfl ?_ | refine zba rfl rfl ?_) | ((with_reducible refine zdg ?_); first | refine zaq (cs := [_]) rfl (fun nb => ?_) | refine zaq (cs := [_, _]) rfl (fun nb => ?_) | refine zaq (cs := [_, _, _]) rfl (fun nb => ?_) | refine zaq (cs := [_, _, _, _]) rfl (fun nb => ?_) | refine zaq (cs := [_, _, _, _, _]) rfl (fun nb => ?_) | refine zaq (cs := [_, _, _, _, _, _]) rfl (fun nb => ?_) | refine zaq (cs := [_, _, _, _, _, _, _]) rfl (fun nb => ?_) | refine zaq (cs := [_, _, _, _, _, _, _, _]) rfl (fun nb => ?_))) | refine zch ?_ | refine zci rfl ?_ | refine zcj rfl ?_)
  refine ret_tmp1 rfl ⟨int_eq ?_, rfl⟩
  simp only [Pl.left, w64]
  omega

theorem take_spec (w0 : World) (p : Nat) (P : Pl) (hP : P.Ok) (s : Sp) (hsm : Sm s 2) : FnE PP w0 [] 47 [poolV P, spP p] [SpaceA p s] (.tuple #[.int .i64 (P.take s).1, .int .i64 (P.take s).2.1]) [SpaceA p (P.take s).2.2] := by
  obtain ⟨_, h1, h2, h3, h4, h5, h6⟩ := id hP
  refine fn_of_run en47 fn47 rfl rfl rfl ?_
  repeat (first | refine zck ?_ | refine zcl ?_ | refine zcm ?_ | refine zcn ?_)
  first | refine zcp (by kernel_rfl) ?_ | refine zcq PP_mixed (by kernel_rfl) (by kernel_rfl) ?_
  repeat' (refine zap rfl ?_; first | ((with_reducible refine zct ?_); first | refine zaj rfl ?_ | refine zak rfl ?_ | refine zal rfl ?_ | refine zam rfl rfl (fun _ => ?_) (fun _ => ?_)) | ((with_reducible refine zcu ?_); refine zan rfl ?_) | ((with_reducible refine zcv ?_); refine zan rfl ?_) | ((with_reducible refine zcw ?_); first | refine zaa 0 rfl rfl rfl ?_ | refine zaa 1 rfl rfl rfl ?_ | refine zaa 2 rfl rfl rfl ?_ | refine zaa 3 rfl rfl rfl ?_ | refine zaa 4 rfl rfl rfl ?_ | refine zaa 5 rfl rfl rfl ?_ | refine zab 0 rfl rfl rfl ?_ | refine zab 1 rfl rfl rfl ?_ | refine zab 2 rfl rfl rfl ?_ | refine zab 3 rfl rfl rfl ?_ | refine zab 4 rfl rfl rfl ?_ | refine zab 5 rfl rfl rfl ?_) | ((with_reducible refine zcy ?_); refine zao rfl ?_) | ((with_reducible refine zcz ?_); refine zan rfl ?_) | ((with_reducible refine zda ?_); first | refine zau rfl rfl (by omega) ?_ | refine zaw rfl rfl (by omega) ?_ | refine zbp rfl rfl ?_ | refine zbq rfl rfl ?_ | refine zbt rfl rfl ?_ | refine zba rfl rfl ?_) | ((with_reducible refine zdb ?_); first | refine zby rfl ?_ | refine zbx rfl ?_) | ((with_reducible refine zdc ?_); first | refine zbu rfl ?_ | refine zbv rfl ?_ | refine zbw rfl rfl rfl ?_) | ((with_reducible refine zdg ?_); first | refine zaq (cs := [_]) rfl (fun nb => ?_) | refine zaq (cs := [_, _]) rfl (fun nb => ?_) | refine zaq (cs := [_, _, _]) rfl (fun nb => ?_) | refine zaq (cs := [_, _, _, _]) rfl (fun nb => ?_) | refine zaq (cs := [_, _, _, _, _]) rfl (fun nb => ?_) | refine zaq (cs := [_, _, _, _, _, _]) rfl (fun nb => ?_) | refine zaq (cs := [_, _, _, _, _, _, _]) rfl (fun nb => ?_) | refine zaq (cs := [_, _, _, _, _, _, _, _]) rfl (fun nb => ?_)))
  all_goals refine zch ?_
  all_goals repeat (first | refine zck ?_ | refine zcl ?_ | refine zcm ?_ | refine zcn ?_)
  refine run_share [1] rfl ?_
  repeat' (first | refine zck ?_ | refine zcp (by kernel_rfl) ?_ | refine zcq PP_mixed (by kernel_rfl) (by kernel_rfl) ?_ | refine zcm ?_ | refine zcl ?_ | refine zcn ?_ | refine zco ?_ | refine zcs rfl ?_ | (refine zap rfl ?_; first | ((with_reducible refine zct ?_); first | refine zaj rfl ?_ | refine zak rfl ?_ | refine zal rfl ?_ | refine zam rfl rfl (fun _ => ?_) (fun _ => ?_)) | ((with_reducible refine zcu ?_); refine zan rfl ?_) | ((with_reducible refine zcv ?_); refine zan rfl ?_) | ((with_reducible refine zcw ?_); first | refine zaa 0 rfl rfl rfl ?_ | refine zaa 1 rfl rfl rfl ?_ | refine zaa 2 rfl rfl rfl ?_ | refine zaa 3 rfl rfl rfl ?_ | refine zaa 4 rfl rfl rfl ?_ | refine zaa 5 rfl rfl rfl ?_ | refine zab 0 rfl rfl rfl ?_ | refine zab 1 rfl rfl rfl ?_ | refine zab 2 rfl rfl rfl ?_ | refine zab 3 rfl rfl rfl ?_ | refine zab 4 rfl rfl rfl ?_ | refine zab 5 rfl rfl rfl ?_) | ((with_reducible refine zcx ?_); first | refine zah [] (check_spec w0 P hP) rfl rfl rfl sub_nil rfl ?_ | refine zah [0] (getS w0 p _ _ (by first | exact hsm.mono (by decide) | (repeat (first | refine sm_get ?_ | refine sm_put ?_)); exact hsm.mono (by decide))) rfl rfl rfl sub_nil rfl ?_ | refine zah [0] (putS w0 p _ _ _ (by first | exact hsm.mono (by decide) | (repeat (first | refine sm_get ?_ | refine sm_put ?_)); exact hsm.mono (by decide))) rfl rfl rfl sub_nil rfl ?_) | ((with_reducible refine zcy ?_); refine zao rfl ?_) | ((with_reducible refine zcz ?_); refine zan rfl ?_) | ((with_reducible refine zda ?_); first | refine zau rfl rfl (by omega) ?_ | refine zaw rfl rfl (by omega) ?_ | refine zbp rfl rfl ?_ | refine zbq rfl rfl ?_ | refine zbt rfl rfl ?_ | refine zba rfl rfl ?_) | ((with_reducible refine zdb ?_); first | refine zby rfl ?_ | refine zbx rfl ?_) | ((with_reducible refine zdc ?_); first | refine zbu rfl ?_ | refine zbv rfl ?_ | refine zbw rfl rfl rfl ?_) | ((with_reducible refine zdg ?_); first | refine zaq (cs := [_]) rfl (fun nb => ?_) | refine zaq (cs := [_, _]) rfl (fun nb => ?_) | refine zaq (cs := [_, _, _]) rfl (fun nb => ?_) | refine zaq (cs := [_, _, _, _]) rfl (fun nb => ?_) | refine zaq (cs := [_, _, _, _, _]) rfl (fun nb => ?_) | refine zaq (cs := [_, _, _, _, _, _]) rfl (fun nb => ?_) | refine zaq (cs := [_, _, _, _, _, _, _]) rfl (fun nb => ?_) | refine zaq (cs := [_, _, _, _, _, _, _, _]) rfl (fun nb => ?_))) | refine zch ?_ | refine zci rfl ?_ | refine zcj rfl ?_)
  refine run_cond rfl (fun hE => ?_) (fun hE => ?_)
  · repeat' (first | refine zck ?_ | refine zcp (by kernel_rfl) ?_ | refine zcq PP_mixed (by kernel_rfl) (by kernel_rfl) ?_ | refine zcm ?_ | refine zcl ?_ | refine zcn ?_ | refine zco ?_ | refine zcs rfl ?_ | (refine zap rfl ?_; first | ((with_reducible refine zct ?_); first | refine zaj rfl ?_ | refine zak rfl ?_ | refine zal rfl ?_ | refine zam rfl rfl (fun _ => ?_) (fun _ => ?_)) | ((with_reducible refine zcu ?_); refine zan rfl ?_) | ((with_reducible refine zcv ?_); refine zan rfl ?_) | ((with_reducible refine zcw ?_); first | refine zaa 0 rfl rfl rfl ?_ | refine zaa 1 rfl rfl rfl ?_ | refine zaa 2 rfl rfl rfl ?_ | refine zaa 3 rfl rfl rfl ?_ | refine zaa 4 rfl rfl rfl ?_ | refine zaa 5 rfl rfl rfl ?_ | refine zab 0 rfl rfl rfl ?_ | refine zab 1 rfl rfl rfl ?_ | refine zab 2 rfl rfl rfl ?_ | refine zab 3 rfl rfl rfl ?_ | refine zab 4 rfl rfl rfl ?_ | refine zab 5 rfl rfl rfl ?_) | ((with_reducible refine zcx ?_); refine zah [] (node_spec w0 P hP _) rfl rfl rfl sub_nil rfl ?_) | ((with_reducible refine zcy ?_); refine zao rfl ?_) | ((with_reducible refine zcz ?_); refine zan rfl ?_) | ((with_reducible refine zda ?_); first | refine zau rfl rfl (by omega) ?_ | refine zaw rfl rfl (by omega) ?_ | refine zbp rfl rfl ?_ | refine zbq rfl rfl ?_ | refine zbt rfl rfl ?_ | refine zba rfl rfl ?_) | ((with_reducible refine zdb ?_); first | refine zby rfl ?_ | refine zbx rfl ?_) | ((with_reducible refine zdc ?_); first | refine zbu rfl ?_ | refine zbv rfl ?_ | refine zbw rfl rfl rfl ?_) | ((with_reducible refine zdg ?_); first | refine zaq (cs := [_]) rfl (fun nb => ?_) | refine zaq (cs := [_, _]) rfl (fun nb => ?_) | refine zaq (cs := [_, _, _]) rfl (fun nb => ?_) | refine zaq (cs := [_, _, _, _]) rfl (fun nb => ?_) | refine zaq (cs := [_, _, _, _, _]) rfl (fun nb => ?_) | refine zaq (cs := [_, _, _, _, _, _]) rfl (fun nb => ?_) | refine zaq (cs := [_, _, _, _, _, _, _]) rfl (fun nb => ?_) | refine zaq (cs := [_, _, _, _, _, _, _, _]) rfl (fun nb => ?_))) | refine zch ?_ | refine zci rfl ?_ | refine zcj rfl ?_)
    refine run_condV rfl (fun hN => ?_) (fun hN => ?_)
    · have hN : P.node (s.get P.root).1 = false := by simpa using hN
      repeat' (first | refine zck ?_ | refine zcp (by kernel_rfl) ?_ | refine zcq PP_mixed (by kernel_rfl) (by kernel_rfl) ?_ | refine zcm ?_ | refine zcl ?_ | refine zcn ?_ | refine zco ?_ | refine zcs rfl ?_ | (refine zap rfl ?_; first | ((with_reducible refine zct ?_); first | refine zaj rfl ?_ | refine zak rfl ?_ | refine zal rfl ?_ | refine zam rfl rfl (fun _ => ?_) (fun _ => ?_)) | ((with_reducible refine zcu ?_); refine zan rfl ?_) | ((with_reducible refine zcv ?_); refine zan rfl ?_) | ((with_reducible refine zcw ?_); first | refine zaa 0 rfl rfl rfl ?_ | refine zaa 1 rfl rfl rfl ?_ | refine zaa 2 rfl rfl rfl ?_ | refine zaa 3 rfl rfl rfl ?_ | refine zaa 4 rfl rfl rfl ?_ | refine zaa 5 rfl rfl rfl ?_ | refine zab 0 rfl rfl rfl ?_ | refine zab 1 rfl rfl rfl ?_ | refine zab 2 rfl rfl rfl ?_ | refine zab 3 rfl rfl rfl ?_ | refine zab 4 rfl rfl rfl ?_ | refine zab 5 rfl rfl rfl ?_) | ((with_reducible refine zcy ?_); refine zao rfl ?_) | ((with_reducible refine zcz ?_); refine zan rfl ?_) | ((with_reducible refine zda ?_); first | refine zau rfl rfl (by omega) ?_ | refine zaw rfl rfl (by omega) ?_ | refine zbp rfl rfl ?_ | refine zbq rfl rfl ?_ | refine zbt rfl rfl ?_ | refine zba rfl rfl ?_) | ((with_reducible refine zdb ?_); first | refine zby rfl ?_ | refine zbx rfl ?_) | ((with_reducible refine zdc ?_); first | refine zbu rfl ?_ | refine zbv rfl ?_ | refine zbw rfl rfl rfl ?_) | ((with_reducible refine zdg ?_); first | refine zaq (cs := [_]) rfl (fun nb => ?_) | refine zaq (cs := [_, _]) rfl (fun nb => ?_) | refine zaq (cs := [_, _, _]) rfl (fun nb => ?_) | refine zaq (cs := [_, _, _, _]) rfl (fun nb => ?_) | refine zaq (cs := [_, _, _, _, _]) rfl (fun nb => ?_) | refine zaq (cs := [_, _, _, _, _, _]) rfl (fun nb => ?_) | refine zaq (cs := [_, _, _, _, _, _, _]) rfl (fun nb => ?_) | refine zaq (cs := [_, _, _, _, _, _, _, _]) rfl (fun nb => ?_))) | refine zch ?_ | refine zci rfl ?_ | refine zcj rfl ?_)
      have e : P.take s = (0, 24, (s.get P.root).2) := by simp [Pl.take, hE, hN]
      rw [e]
      exact ret_tmp2 rfl ⟨rfl, rfl⟩
    · have hN : P.node (s.get P.root).1 = true := by simpa using hN
      repeat' (first | refine zck ?_ | refine zcp (by kernel_rfl) ?_ | refine zcq PP_mixed (by kernel_rfl) (by kernel_rfl) ?_ | refine zcm ?_ | refine zcl ?_ | refine zcn ?_ | refine zco ?_ | refine zcs rfl ?_ | (refine zap rfl ?_; first | ((with_reducible refine zct ?_); first | refine zaj rfl ?_ | refine zak rfl ?_ | refine zal rfl ?_ | refine zam rfl rfl (fun _ => ?_) (fun _ => ?_)) | ((with_reducible refine zcu ?_); refine zan rfl ?_) | ((with_reducible refine zcv ?_); refine zan rfl ?_) | ((with_reducible refine zcw ?_); first | refine zaa 0 rfl rfl rfl ?_ | refine zaa 1 rfl rfl rfl ?_ | refine zaa 2 rfl rfl rfl ?_ | refine zaa 3 rfl rfl rfl ?_ | refine zaa 4 rfl rfl rfl ?_ | refine zaa 5 rfl rfl rfl ?_ | refine zab 0 rfl rfl rfl ?_ | refine zab 1 rfl rfl rfl ?_ | refine zab 2 rfl rfl rfl ?_ | refine zab 3 rfl rfl rfl ?_ | refine zab 4 rfl rfl rfl ?_ | refine zab 5 rfl rfl rfl ?_) | ((with_reducible refine zcx ?_); first | refine zah [0] (getS w0 p _ _ (by first | exact hsm.mono (by decide) | (repeat (first | refine sm_get ?_ | refine sm_put ?_)); exact hsm.mono (by decide))) rfl rfl rfl sub_nil rfl ?_ | refine zah [0] (putS w0 p _ _ _ (by first | exact hsm.mono (by decide) | (repeat (first | refine sm_get ?_ | refine sm_put ?_)); exact hsm.mono (by decide))) rfl rfl rfl sub_nil rfl ?_ | refine zah [0] (add_spec w0 p P hP _ _ _ (by decide) (by first | exact hsm.mono (by decide) | (repeat (first | refine sm_get ?_ | refine sm_put ?_)); exact hsm.mono (by decide))) rfl rfl rfl sub_nil rfl ?_) | ((with_reducible refine zcy ?_); refine zao rfl ?_) | ((with_reducible refine zcz ?_); refine zan rfl ?_) | ((with_reducible refine zda ?_); first | refine zau rfl rfl (by omega) ?_ | refine zaw rfl rfl (by omega) ?_ | refine zbp rfl rfl ?_ | refine zbq rfl rfl ?_ | refine zbt rfl rfl ?_ | refine zba rfl rfl ?_) | ((with_reducible refine zdb ?_); first | refine zby rfl ?_ | refine zbx rfl ?_) | ((with_reducible refine zdc ?_); first | refine zbu rfl ?_ | refine zbv rfl ?_ | refine zbw rfl rfl rfl ?_) | ((with_reducible refine zdg ?_); first | refine zaq (cs := [_]) rfl (fun nb => ?_) | refine zaq (cs := [_, _]) rfl (fun nb => ?_) | refine zaq (cs := [_, _, _]) rfl (fun nb => ?_) | refine zaq (cs := [_, _, _, _]) rfl (fun nb => ?_) | refine zaq (cs := [_, _, _, _, _]) rfl (fun nb => ?_) | refine zaq (cs := [_, _, _, _, _, _]) rfl (fun nb => ?_) | refine zaq (cs := [_, _, _, _, _, _, _]) rfl (fun nb => ?_) | refine zaq (cs := [_, _, _, _, _, _, _, _]) rfl (fun nb => ?_))) | refine zch ?_ | refine zci rfl ?_ | refine zcj rfl ?_)
      have e : P.take s = ((s.get P.root).1, 0, P.add (((s.get P.root).2.get (s.get P.root).1).2.put P.root ((s.get P.root).2.get (s.get P.root).1).1) 2 (-1)) := by simp [Pl.take, hE, hN]
      rw [e]
      exact ret_tmp2 rfl ⟨rfl, rfl⟩
  · repeat' (first | refine zck ?_ | refine zcp (by kernel_rfl) ?_ | refine zcq PP_mixed (by kernel_rfl) (by kernel_rfl) ?_ | refine zcm ?_ | refine zcl ?_ | refine zcn ?_ | refine zco ?_ | refine zcs rfl ?_ | (refine zap rfl ?_; first | ((with_reducible refine zct ?_); first | refine zaj rfl ?_ | refine zak rfl ?_ | refine zal rfl ?_ | refine zam rfl rfl (fun _ => ?_) (fun _ => ?_)) | ((with_reducible refine zcu ?_); refine zan rfl ?_) | ((with_reducible refine zcv ?_); refine zan rfl ?_) | ((with_reducible refine zcw ?_); first | refine zaa 0 rfl rfl rfl ?_ | refine zaa 1 rfl rfl rfl ?_ | refine zaa 2 rfl rfl rfl ?_ | refine zaa 3 rfl rfl rfl ?_ | refine zaa 4 rfl rfl rfl ?_ | refine zaa 5 rfl rfl rfl ?_ | refine zab 0 rfl rfl rfl ?_ | refine zab 1 rfl rfl rfl ?_ | refine zab 2 rfl rfl rfl ?_ | refine zab 3 rfl rfl rfl ?_ | refine zab 4 rfl rfl rfl ?_ | refine zab 5 rfl rfl rfl ?_) | ((with_reducible refine zcx ?_); first | refine zah [0] (getS w0 p _ _ (by first | exact hsm.mono (by decide) | (repeat (first | refine sm_get ?_ | refine sm_put ?_)); exact hsm.mono (by decide))) rfl rfl rfl sub_nil rfl ?_ | refine zah [0] (putS w0 p _ _ _ (by first | exact hsm.mono (by decide) | (repeat (first | refine sm_get ?_ | refine sm_put ?_)); exact hsm.mono (by decide))) rfl rfl rfl sub_nil rfl ?_) | ((with_reducible refine zcy ?_); refine zao rfl ?_) | ((with_reducible refine zcz ?_); refine zan rfl ?_) | ((with_reducible refine zda ?_); first | refine zau rfl rfl (by omega) ?_ | refine zaw rfl rfl (by omega) ?_ | refine zbp rfl rfl ?_ | refine zbq rfl rfl ?_ | refine zbt rfl rfl ?_ | refine zba rfl rfl ?_) | ((with_reducible refine zdb ?_); first | refine zby rfl ?_ | refine zbx rfl ?_) | ((with_reducible refine zdc ?_); first | refine zbu rfl ?_ | refine zbv rfl ?_ | refine zbw rfl rfl rfl ?_) | ((with_reducible refine zdg ?_); first | refine zaq (cs := [_]) rfl (fun nb => ?_) | refine zaq (cs := [_, _]) rfl (fun nb => ?_) | refine zaq (cs := [_, _, _]) rfl (fun nb => ?_) | refine zaq (cs := [_, _, _, _]) rfl (fun nb => ?_) | refine zaq (cs := [_, _, _, _, _]) rfl (fun nb => ?_) | refine zaq (cs := [_, _, _, _, _, _]) rfl (fun nb => ?_) | refine zaq (cs := [_, _, _, _, _, _, _]) rfl (fun nb => ?_) | refine zaq (cs := [_, _, _, _, _, _, _, _]) rfl (fun nb => ?_))) | refine zch ?_ | refine zci rfl ?_ | refine zcj rfl ?_ | refine run_cond rfl (fun _ => ?_) (fun _ => ?_) | refine run_condV rfl (fun _ => ?_) (fun _ => ?_))
    · have e : P.take s = (0, 9, ((s.get P.root).2.get (P.root + 1)).2) := by simp_all [Pl.take]
      rw [e]
      exact ret_tmp2 rfl ⟨rfl, rfl⟩
    · have e : P.take s = (0, 9, ((s.get P.root).2.get (P.root + 1)).2) := by simp_all [Pl.take]
      rw [e]
      exact ret_tmp2 rfl ⟨rfl, rfl⟩
    · have e : P.take s = (P.frm + 8 * ((s.get P.root).2.get (P.root + 1)).1, 0, ((s.get P.root).2.get (P.root + 1)).2.put (P.root + 1) (((s.get P.root).2.get (P.root + 1)).1 + 1)) := by
        unfold Pl.take
        rw [if_neg hE, if_neg (by omega)]
      rw [e]
      exact ret_tmp2 rfl ⟨rfl, rfl⟩
end Go.Proofs.YtilnknokgflkjaaDoor

/- The plain model of package array. -/
namespace Sim
open Go Go.Vc

structure Ar where
  pool : Pl
  root : Int
def Ar.Ok (A : Ar) : Prop := A.pool.Ok ∧ 0 ≤ A.root ∧ A.root ≤ 4096
def pw : Nat → Int
  | 0 => 1
  | 1 => 8
  | 2 => 64
  | 3 => 512
  | _ => 4096
def dep (n : Int) : Nat := if n = 0 then 0 else if n ≤ 8 then 1 else if n ≤ 64 then 2 else if n ≤ 512 then 3 else 4
def dig (i : Int) (d : Nat) : Int := i / pw (d - 1) % 8
theorem pw_pos : ∀ d, 1 ≤ pw d ∧ pw d ≤ 4096
  | 0 => by decide
  | 1 => by decide
  | 2 => by decide
  | 3 => by decide
  | _ + 4 => ⟨by simp [pw], by simp [pw]⟩
theorem dig_bd (i : Int) (d : Nat) : 0 ≤ dig i d ∧ dig i d ≤ 7 := by unfold dig; omega
theorem dep_le (n : Int) : dep n ≤ 4 := by unfold dep; split <;> try split <;> try split <;> try split
                                           all_goals omega

def Ar.many (A : Ar) (s : Sp) : Int × Int × Bool × Sp :=
  if (s.get (A.root + 1)).1 < 0 ∨ 4096 < (s.get (A.root + 1)).1 then ((s.get (A.root + 1)).1, 0, false, (s.get (A.root + 1)).2)
  else ((s.get (A.root + 1)).1, dep (s.get (A.root + 1)).1, decide (((s.get (A.root + 1)).2.get (A.root + 2)).1 = dep (s.get (A.root + 1)).1), ((s.get (A.root + 1)).2.get (A.root + 2)).2)
def Ar.node (A : Ar) (s : Sp) (cell : Int) : Int × Bool × Sp :=
  if (s.get cell).1 ≤ 0 ∨ 4096 < (s.get cell).1 then (0, false, (s.get cell).2) else ((s.get cell).1, A.pool.node (s.get cell).1, (s.get cell).2)
theorem Ar.node_bd (A : Ar) (s : Sp) (cell : Int) : 0 ≤ (A.node s cell).1 ∧ (A.node s cell).1 ≤ 4096 := by
  unfold Ar.node; split
  · simp
  · simp; omega
def Ar.take (A : Ar) (s : Sp) : Int × Int × Sp :=
  if (A.pool.take s).2.1 = 0 then ((A.pool.take s).1, (A.pool.take s).2.1, ((A.pool.take s).2.2.get (A.root + 7)).2.put (A.root + 7) (w64 (((A.pool.take s).2.2.get (A.root + 7)).1 + 1)))
  else ((A.pool.take s).1, (A.pool.take s).2.1, (A.pool.take s).2.2)
/-- The path to an element. -/
def Ar.way (A : Ar) (i : Int) : Nat → Int → Sp → List Int → Option (List Int) × Sp
  | 0, _, s, acc => (some acc, s)
  | d + 1, cell, s, acc =>
    if (A.node s cell).2.1 then A.way i d ((A.node s cell).1 + dig i (d + 1)) (A.node s cell).2.2 (acc ++ [(A.node s cell).1])
    else (none, (A.node s cell).2.2)

theorem sm_add {P : Pl} {s : Sp} {j : Nat} {a v : Int} (h : Sm s (j + 1)) : Sm (P.add s a v) j := sm_put (sm_get h)
theorem sm_poolTake {P : Pl} {s : Sp} {j : Nat} (h : Sm s (j + 2)) : Sm (P.take s).2.2 j := by
  unfold Pl.take
  split
  · split
    · exact sm_add (sm_put (sm_get (sm_get h)))
    · exact (sm_get h).mono (by omega)
  · split
    · exact (sm_get (sm_get h)).mono (by omega)
    · exact (sm_put (sm_get (sm_get h))).mono (by omega)
theorem sm_give {P : Pl} {s : Sp} {j : Nat} {a : Int} (h : Sm s (j + 3)) : Sm (P.give s a).2 j := by
  unfold Pl.give
  split
  · exact sm_add (sm_put (sm_put (sm_get h)))
  · exact h.mono (by omega)
theorem sm_left {P : Pl} {s : Sp} {j : Nat} (h : Sm s j) : Sm (P.left s).2 j := sm_get (sm_get h)
theorem sm_many {A : Ar} {s : Sp} {j : Nat} (h : Sm s j) : Sm (A.many s).2.2.2 j := by
  unfold Ar.many; split
  · exact sm_get h
  · exact sm_get (sm_get h)
theorem sm_node {A : Ar} {s : Sp} {j : Nat} {c : Int} (h : Sm s j) : Sm (A.node s c).2.2 j := by
  unfold Ar.node; split <;> exact sm_get h
theorem sm_take {A : Ar} {s : Sp} {j : Nat} (h : Sm s (j + 3)) : Sm (A.take s).2.2 j := by
  unfold Ar.take; split
  · exact sm_put (sm_get (sm_poolTake h))
  · exact (sm_poolTake h).mono (by omega)
theorem sm_way {A : Ar} {i : Int} : ∀ {d : Nat} {c : Int} {s : Sp} {acc : List Int} {j : Nat}, Sm s j → Sm (A.way i d c s acc).2 j
  | 0, _, _, _, _, h => h
  | d + 1, c, s, acc, j, h => by
    simp only [Ar.way]; split
    · exact sm_way (sm_node h)
    · exact sm_node h
end Sim

