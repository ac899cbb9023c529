import Derived.Test.YtloekplbhknepaaGreatProg
import Derived.Test.YtloekplbhknepaaGreatKitA
import Derived.Test.YtloekplbhknepaaGreatKit
/- Lemmas and walks for the claims of this seat (own work): Sp0 Base Sp1 Sp2 Sp3 Pg0 Pg1 Pl0 Pl1 Po0 Po1. -/
namespace Sim
open Go Go.Vc

structure Wd where
  val : Int
  ver : Int
  ref : Int
  deriving DecidableEq

structure Sp where
  kn : List (Int × Wd)
  rd : List Int
  puts : List (Int × Int)
  need : Int
  ended : Bool

def lookW : List (Int × Wd) → Int → Option Wd
  | [], _ => none
  | (a, w) :: r, x => if a = x then some w else lookW r x
def insI : List Int → Int → List Int
  | [], x => [x]
  | a :: r, x => if a = x then a :: r else a :: insI r x
def lastV : List (Int × Int) → Int → Option Int
  | [], _ => none
  | (a, v) :: r, x => match lastV r x with | some u => some u | none => if a = x then some v else none
def lastI (l : List (Int × Int)) (x : Int) : Int :=
  match l.length with
  | 0 => -1
  | _ => go l.length
where go : Nat → Int
  | 0 => -1
  | k + 1 => if (l[k]?.map (·.1)) = some x then k else go k

def Sp.reads (s : Sp) (a : Int) : Bool × Sp :=
  if s.ended then (false, s) else
  match lookW s.kn a with
  | none => (false, { s with ended := true, need := a })
  | some _ => (true, { s with rd := insI s.rd a })
def Sp.value (s : Sp) (a : Int) : Int × Bool :=
  match lastV s.puts a with
  | some v => (v, true)
  | none => (match lookW s.kn a with | some w => w.val | none => 0, false)
def Sp.get (s : Sp) (a : Int) : Int × Sp := if (s.reads a).1 then (((s.reads a).2.value a).1, (s.reads a).2) else (0, (s.reads a).2)
def Sp.put (s : Sp) (a v : Int) : Sp := if (s.reads a).1 then { (s.reads a).2 with puts := s.puts ++ [(a, v)] } else (s.reads a).2
def Sp.back (s : Sp) (m : Int) : Sp := if s.ended = false ∧ 0 ≤ m ∧ m ≤ s.puts.length then { s with puts := s.puts.take m.toNat } else s

def wordV (w : Wd) : Value := .agg #[.int .i64 w.val, .int .u32 w.ver, .int .u32 w.ref]
def knM : List (Int × Wd) → List (Int × Value)
  | [] => []
  | (a, w) :: r => (a, wordV w) :: knM r
def rdM : List Int → List (Int × Value)
  | [] => []
  | a :: r => (a, .bool true) :: rdM r
def flat : List (Int × Int) → List Value
  | [] => []
  | (a, v) :: r => .int .i64 a :: .int .i64 v :: flat r

theorem look_knM : ∀ (l : List (Int × Wd)) (a : Int), Vc.look (knM l) a = (lookW l a).map wordV
  | [], _ => rfl
  | (b, w) :: r, a => by
    simp only [knM, Vc.look, lookW]
    by_cases h : b = a <;> simp [h, look_knM r a]
theorem ins_rdM : ∀ (l : List Int) (a : Int), ins (rdM l) a (.bool true) = rdM (insI l a)
  | [], _ => rfl
  | b :: r, a => by
    simp only [rdM, ins, insI]
    by_cases h : b = a <;> simp [h, rdM, ins_rdM r a]
theorem flat_append : ∀ (l r : List (Int × Int)), flat (l ++ r) = flat l ++ flat r
  | [], _ => rfl
  | (_, _) :: l, r => by simp [flat, flat_append l r]
theorem flat_take : ∀ (l : List (Int × Int)) (k : Nat), (flat l).take (k * 2) = flat (l.take k)
  | [], k => by simp [flat]
  | (a, v) :: l, 0 => by simp [flat]
  | (a, v) :: l, k + 1 => by
    have : (k + 1) * 2 = k * 2 + 1 + 1 := by omega
    simp [flat, this, flat_take l k]
theorem flat_get : ∀ (l : List (Int × Int)) (k : Nat) (p : Int × Int), l[k]? = some p → nth (flat l) (k * 2) = some (.int .i64 p.1) ∧ nth (flat l) (k * 2 + 1) = some (.int .i64 p.2)
  | [], k, p, h => by simp at h
  | (a, v) :: l, 0, p, h => by simp at h; subst h; exact ⟨rfl, rfl⟩
  | (a, v) :: l, k + 1, p, h => by
    have e : (k + 1) * 2 = k * 2 + 1 + 1 := by omega
    simp only [List.getElem?_cons_succ] at h
    obtain ⟨h1, h2⟩ := flat_get l k p h
    exact ⟨by rw [e]; exact h1, by rw [e]; exact h2⟩

theorem lastI_spec (l : List (Int × Int)) (x : Int) (k : Nat) (hk : k ≤ l.length) (h : ∀ j, k ≤ j → j < l.length → ∀ p, l[j]? = some p → p.1 ≠ x) : lastI l x = lastI.go l x k := by
  have key : ∀ m, k + m ≤ l.length → lastI.go l x (k + m) = lastI.go l x k := by
    intro m
    induction m with
    | zero => intro _; rfl
    | succ m ih =>
      intro hm
      have hlt : k + m < l.length := by omega
      have := h (k + m) (by omega) hlt _ (List.getElem?_eq_getElem hlt)
      rw [← Nat.add_assoc]
      simp only [lastI.go]
      rw [if_neg (by rw [List.getElem?_eq_getElem hlt]; simpa using this)]
      exact ih (by omega)
  unfold lastI
  split
  · rename_i h0
    have : k = 0 := by omega
    subst this; rfl
  · obtain ⟨m, hm⟩ : ∃ m, l.length = k + m := ⟨l.length - k, by omega⟩
    rw [hm]; exact key m (by omega)

theorem go_lastV (l : List (Int × Int)) (x : Int) : ∀ k, k ≤ l.length →
    (lastV (l.take k) x = none ∧ lastI.go l x k = -1) ∨ (∃ j p, j < k ∧ l[j]? = some p ∧ p.1 = x ∧ lastV (l.take k) x = some p.2 ∧ lastI.go l x k = j) := by
  have snoc : ∀ (l : List (Int × Int)) (p : Int × Int), lastV (l ++ [p]) x = if p.1 = x then some p.2 else lastV l x := by
    intro l p
    induction l with
    | nil => simp [lastV]
    | cons q l ih =>
      obtain ⟨a, v⟩ := q
      simp only [List.cons_append, lastV, ih]
      by_cases h : p.1 = x <;> simp [h]
  intro k
  induction k with
  | zero => intro _; exact .inl ⟨by simp [lastV], rfl⟩
  | succ k ih =>
    intro hk
    have hlt : k < l.length := by omega
    have ht : l.take (k + 1) = l.take k ++ [l[k]] := List.take_succ_eq_append_getElem hlt
    rw [ht, snoc]
    simp only [lastI.go, List.getElem?_eq_getElem hlt, Option.map_some, Option.some.injEq]
    by_cases hx : (l[k]).1 = x
    · right
      exact ⟨k, l[k], by omega, List.getElem?_eq_getElem hlt, hx, by rw [if_pos hx], by rw [if_pos hx]⟩
    · rw [if_neg hx, if_neg hx]
      rcases ih (by omega) with ⟨h1, h2⟩ | ⟨j, p, h1, h2, h3, h4, h5⟩
      · exact .inl ⟨h1, h2⟩
      · exact .inr ⟨j, p, by omega, h2, h3, h4, h5⟩

theorem lastI_lastV (l : List (Int × Int)) (x : Int) : (lastV l x = none ∧ lastI l x = -1) ∨ (∃ (j : Nat) (p : Int × Int), j < l.length ∧ l[j]? = some p ∧ lastV l x = some p.2 ∧ lastI l x = j) := by
  have h1 := lastI_spec l x l.length (Nat.le_refl _) (fun j h1 h2 => by omega)
  rcases go_lastV l x l.length (Nat.le_refl _) with ⟨h2, h3⟩ | ⟨j, p, h2, h3, _, h4, h5⟩
  · left; rw [List.take_length] at h2; exact ⟨h2, h1.trans h3⟩
  · right; rw [List.take_length] at h4; exact ⟨j, p, h2, h3, h4, h1.trans h5⟩
end Sim

namespace Go.Proofs.YtloekplbhknepaaGreat
open Go.Vc
@[irreducible] noncomputable def PP : Program := Tryz.prog
theorem PP_def : PP = Tryz.prog := by unfold PP; rfl
theorem PP_mixed : PP.follows .mixedOrders = true := by kernel_rfl
instance : TShape PP 1 false 1 := ⟨fun w => by kernel_rfl, fun w => by kernel_rfl⟩
instance : TInfo PP 1 8 := ⟨fun w => ⟨Tryz.t1, by rw [PP_def]; exact Tryz.typeInfo1 w, rfl⟩⟩
instance : TZero PP 1 [.nilFunc] := ⟨fun w => ⟨.nilFunc, by kernel_rfl, by kernel_rfl⟩⟩
instance : TZeroV PP 1 (.nilFunc) := ⟨fun w => by kernel_rfl⟩
instance : TShape PP 2 false 1 := ⟨fun w => by kernel_rfl, fun w => by kernel_rfl⟩
instance : TInfo PP 2 8 := ⟨fun w => ⟨Tryz.t2, by rw [PP_def]; exact Tryz.typeInfo2 w, rfl⟩⟩
instance : TZero PP 2 [.int .i64 0] := ⟨fun w => ⟨.int .i64 0, by kernel_rfl, by kernel_rfl⟩⟩
instance : TZeroV PP 2 (.int .i64 0) := ⟨fun w => by kernel_rfl⟩
instance : TUnd PP 2 (.int (.i64)) := ⟨by kernel_rfl⟩
instance : TShape PP 3 false 1 := ⟨fun w => by kernel_rfl, fun w => by kernel_rfl⟩
instance : TInfo PP 3 8 := ⟨fun w => ⟨Tryz.t3, by rw [PP_def]; exact Tryz.typeInfo3 w, rfl⟩⟩
instance : TZero PP 3 [.int .i64 0] := ⟨fun w => ⟨.int .i64 0, by kernel_rfl, by kernel_rfl⟩⟩
instance : TZeroV PP 3 (.int .i64 0) := ⟨fun w => by kernel_rfl⟩
instance : TUnd PP 3 (.int (.i64)) := ⟨by kernel_rfl⟩
instance : TShape PP 4 false 1 := ⟨fun w => by kernel_rfl, fun w => by kernel_rfl⟩
instance : TInfo PP 4 1 := ⟨fun w => ⟨Tryz.t4, by rw [PP_def]; exact Tryz.typeInfo4 w, rfl⟩⟩
instance : TZero PP 4 [.bool false] := ⟨fun w => ⟨.bool false, by kernel_rfl, by kernel_rfl⟩⟩
instance : TZeroV PP 4 (.bool false) := ⟨fun w => by kernel_rfl⟩
instance : TUnd PP 4 (.bool) := ⟨by kernel_rfl⟩
instance : TShape PP 5 false 1 := ⟨fun w => by kernel_rfl, fun w => by kernel_rfl⟩
instance : TInfo PP 5 1 := ⟨fun w => ⟨Tryz.t5, by rw [PP_def]; exact Tryz.typeInfo5 w, rfl⟩⟩
instance : TZero PP 5 [.int .u8 0] := ⟨fun w => ⟨.int .u8 0, by kernel_rfl, by kernel_rfl⟩⟩
instance : TZeroV PP 5 (.int .u8 0) := ⟨fun w => by kernel_rfl⟩
instance : TUnd PP 5 (.int (.u8)) := ⟨by kernel_rfl⟩
instance : TShape PP 6 false 1 := ⟨fun w => by kernel_rfl, fun w => by kernel_rfl⟩
instance : TInfo PP 6 1 := ⟨fun w => ⟨Tryz.t6, by rw [PP_def]; exact Tryz.typeInfo6 w, rfl⟩⟩
instance : TZero PP 6 [.int .u8 0] := ⟨fun w => ⟨.int .u8 0, by kernel_rfl, by kernel_rfl⟩⟩
instance : TZeroV PP 6 (.int .u8 0) := ⟨fun w => by kernel_rfl⟩
instance : TUnd PP 6 (.int (.u8)) := ⟨by kernel_rfl⟩
instance : TShape PP 7 true 4 := ⟨fun w => by kernel_rfl, fun w => by kernel_rfl⟩
instance : TInfo PP 7 24 := ⟨fun w => ⟨Tryz.t7, by rw [PP_def]; exact Tryz.typeInfo7 w, rfl⟩⟩
instance : TZero PP 7 [.int .i64 0, .int .i64 0, .bool false, .int .u8 0] := ⟨fun w => ⟨.agg #[.int .i64 0, .int .i64 0, .bool false, .int .u8 0], by kernel_rfl, by kernel_rfl⟩⟩
instance : TZeroV PP 7 (.agg #[.int .i64 0, .int .i64 0, .bool false, .int .u8 0]) := ⟨fun w => by kernel_rfl⟩
instance : TStruct PP 7 [.int .i64 0, .int .i64 0, .bool false, .int .u8 0] [(0, 1), (1, 1), (2, 1), (3, 1)] := ⟨⟨_, by rw [PP_def]; exact Tryz.underlying7, fun w => by kernel_rfl⟩, fun w => ⟨.agg #[.int .i64 0, .int .i64 0, .bool false, .int .u8 0], by kernel_rfl, by kernel_rfl⟩⟩
instance : TField PP 7 0 0 := ⟨fun b o w => by kernel_rfl⟩
instance : TPart PP 7 0 false 0 1 := part_lemma (ft := 2) (by rw [PP_def]; exact Tryz.underlying7) rfl rfl rfl
instance : TField PP 7 1 1 := ⟨fun b o w => by kernel_rfl⟩
instance : TPart PP 7 1 false 1 1 := part_lemma (ft := 3) (by rw [PP_def]; exact Tryz.underlying7) rfl rfl rfl
instance : TField PP 7 2 2 := ⟨fun b o w => by kernel_rfl⟩
instance : TPart PP 7 2 false 2 1 := part_lemma (ft := 4) (by rw [PP_def]; exact Tryz.underlying7) rfl rfl rfl
instance : TField PP 7 3 3 := ⟨fun b o w => by kernel_rfl⟩
instance : TPart PP 7 3 false 3 1 := part_lemma (ft := 6) (by rw [PP_def]; exact Tryz.underlying7) rfl rfl rfl
instance : TShape PP 8 true 4 := ⟨fun w => by kernel_rfl, fun w => by kernel_rfl⟩
instance : TInfo PP 8 24 := ⟨fun w => ⟨Tryz.t8, by rw [PP_def]; exact Tryz.typeInfo8 w, rfl⟩⟩
instance : TZero PP 8 [.int .i64 0, .int .i64 0, .bool false, .int .u8 0] := ⟨fun w => ⟨.agg #[.int .i64 0, .int .i64 0, .bool false, .int .u8 0], by kernel_rfl, by kernel_rfl⟩⟩
instance : TZeroV PP 8 (.agg #[.int .i64 0, .int .i64 0, .bool false, .int .u8 0]) := ⟨fun w => by kernel_rfl⟩
instance : TStruct PP 8 [.int .i64 0, .int .i64 0, .bool false, .int .u8 0] [(0, 1), (1, 1), (2, 1), (3, 1)] := ⟨⟨_, by rw [PP_def]; exact Tryz.underlying8, fun w => by kernel_rfl⟩, fun w => ⟨.agg #[.int .i64 0, .int .i64 0, .bool false, .int .u8 0], by kernel_rfl, by kernel_rfl⟩⟩
instance : TField PP 8 0 0 := ⟨fun b o w => by kernel_rfl⟩
instance : TPart PP 8 0 false 0 1 := part_lemma (ft := 2) (by rw [PP_def]; exact Tryz.underlying8) rfl rfl rfl
instance : TField PP 8 1 1 := ⟨fun b o w => by kernel_rfl⟩
instance : TPart PP 8 1 false 1 1 := part_lemma (ft := 3) (by rw [PP_def]; exact Tryz.underlying8) rfl rfl rfl
instance : TField PP 8 2 2 := ⟨fun b o w => by kernel_rfl⟩
instance : TPart PP 8 2 false 2 1 := part_lemma (ft := 4) (by rw [PP_def]; exact Tryz.underlying8) rfl rfl rfl
instance : TField PP 8 3 3 := ⟨fun b o w => by kernel_rfl⟩
instance : TPart PP 8 3 false 3 1 := part_lemma (ft := 6) (by rw [PP_def]; exact Tryz.underlying8) rfl rfl rfl
instance : TShape PP 9 false 1 := ⟨fun w => by kernel_rfl, fun w => by kernel_rfl⟩
instance : TInfo PP 9 16 := ⟨fun w => ⟨Tryz.t9, by rw [PP_def]; exact Tryz.typeInfo9 w, rfl⟩⟩
instance : TZero PP 9 [.string ByteArray.empty] := ⟨fun w => ⟨.string ByteArray.empty, by kernel_rfl, by kernel_rfl⟩⟩
instance : TZeroV PP 9 (.string ByteArray.empty) := ⟨fun w => by kernel_rfl⟩
instance : TUnd PP 9 (.string) := ⟨by kernel_rfl⟩
instance : TShape PP 10 false 1 := ⟨fun w => by kernel_rfl, fun w => by kernel_rfl⟩
instance : TInfo PP 10 16 := ⟨fun w => ⟨Tryz.t10, by rw [PP_def]; exact Tryz.typeInfo10 w, rfl⟩⟩
instance : TZero PP 10 [.string ByteArray.empty] := ⟨fun w => ⟨.string ByteArray.empty, by kernel_rfl, by kernel_rfl⟩⟩
instance : TZeroV PP 10 (.string ByteArray.empty) := ⟨fun w => by kernel_rfl⟩
instance : TUnd PP 10 (.string) := ⟨by kernel_rfl⟩
instance : TShape PP 11 false 1 := ⟨fun w => by kernel_rfl, fun w => by kernel_rfl⟩
instance : TInfo PP 11 16 := ⟨fun w => ⟨Tryz.t11, by rw [PP_def]; exact Tryz.typeInfo11 w, rfl⟩⟩
instance : TZero PP 11 [.string ByteArray.empty] := ⟨fun w => ⟨.string ByteArray.empty, by kernel_rfl, by kernel_rfl⟩⟩
instance : TZeroV PP 11 (.string ByteArray.empty) := ⟨fun w => by kernel_rfl⟩
instance : TUnd PP 11 (.string) := ⟨by kernel_rfl⟩
instance : TShape PP 12 false 1 := ⟨fun w => by kernel_rfl, fun w => by kernel_rfl⟩
instance : TInfo PP 12 8 := ⟨fun w => ⟨Tryz.t12, by rw [PP_def]; exact Tryz.typeInfo12 w, rfl⟩⟩
instance : TZero PP 12 [.int .u64 0] := ⟨fun w => ⟨.int .u64 0, by kernel_rfl, by kernel_rfl⟩⟩
instance : TZeroV PP 12 (.int .u64 0) := ⟨fun w => by kernel_rfl⟩
instance : TUnd PP 12 (.int (.u64)) := ⟨by kernel_rfl⟩
instance : TShape PP 13 true 2 := ⟨fun w => by kernel_rfl, fun w => by kernel_rfl⟩
instance : TInfo PP 13 24 := ⟨fun w => ⟨Tryz.t13, by rw [PP_def]; exact Tryz.typeInfo13 w, rfl⟩⟩
instance : TZero PP 13 [.string ByteArray.empty, .int .u64 0] := ⟨fun w => ⟨.agg #[.string ByteArray.empty, .int .u64 0], by kernel_rfl, by kernel_rfl⟩⟩
instance : TZeroV PP 13 (.agg #[.string ByteArray.empty, .int .u64 0]) := ⟨fun w => by kernel_rfl⟩
instance : TStruct PP 13 [.string ByteArray.empty, .int .u64 0] [(0, 1), (1, 1)] := ⟨⟨_, by rw [PP_def]; exact Tryz.underlying13, fun w => by kernel_rfl⟩, fun w => ⟨.agg #[.string ByteArray.empty, .int .u64 0], by kernel_rfl, by kernel_rfl⟩⟩
instance : TField PP 13 0 0 := ⟨fun b o w => by kernel_rfl⟩
instance : TPart PP 13 0 false 0 1 := part_lemma (ft := 9) (by rw [PP_def]; exact Tryz.underlying13) rfl rfl rfl
instance : TField PP 13 1 1 := ⟨fun b o w => by kernel_rfl⟩
instance : TPart PP 13 1 false 1 1 := part_lemma (ft := 12) (by rw [PP_def]; exact Tryz.underlying13) rfl rfl rfl
instance : TShape PP 14 true 2 := ⟨fun w => by kernel_rfl, fun w => by kernel_rfl⟩
instance : TInfo PP 14 24 := ⟨fun w => ⟨Tryz.t14, by rw [PP_def]; exact Tryz.typeInfo14 w, rfl⟩⟩
instance : TZero PP 14 [.string ByteArray.empty, .int .u64 0] := ⟨fun w => ⟨.agg #[.string ByteArray.empty, .int .u64 0], by kernel_rfl, by kernel_rfl⟩⟩
instance : TZeroV PP 14 (.agg #[.string ByteArray.empty, .int .u64 0]) := ⟨fun w => by kernel_rfl⟩
instance : TStruct PP 14 [.string ByteArray.empty, .int .u64 0] [(0, 1), (1, 1)] := ⟨⟨_, by rw [PP_def]; exact Tryz.underlying14, fun w => by kernel_rfl⟩, fun w => ⟨.agg #[.string ByteArray.empty, .int .u64 0], by kernel_rfl, by kernel_rfl⟩⟩
instance : TField PP 14 0 0 := ⟨fun b o w => by kernel_rfl⟩
instance : TPart PP 14 0 false 0 1 := part_lemma (ft := 9) (by rw [PP_def]; exact Tryz.underlying14) rfl rfl rfl
instance : TField PP 14 1 1 := ⟨fun b o w => by kernel_rfl⟩
instance : TPart PP 14 1 false 1 1 := part_lemma (ft := 12) (by rw [PP_def]; exact Tryz.underlying14) rfl rfl rfl
instance : TShape PP 15 false 1 := ⟨fun w => by kernel_rfl, fun w => by kernel_rfl⟩
instance : TInfo PP 15 8 := ⟨fun w => ⟨Tryz.t15, by rw [PP_def]; exact Tryz.typeInfo15 w, rfl⟩⟩
instance : TZero PP 15 [.pointer none] := ⟨fun w => ⟨.pointer none, by kernel_rfl, by kernel_rfl⟩⟩
instance : TZeroV PP 15 (.pointer none) := ⟨fun w => by kernel_rfl⟩
instance : TUnd PP 15 (.pointer 211) := ⟨by kernel_rfl⟩
instance : TShape PP 16 false 1 := ⟨fun w => by kernel_rfl, fun w => by kernel_rfl⟩
instance : TInfo PP 16 8 := ⟨fun w => ⟨Tryz.t16, by rw [PP_def]; exact Tryz.typeInfo16 w, rfl⟩⟩
instance : TZero PP 16 [.pointer none] := ⟨fun w => ⟨.pointer none, by kernel_rfl, by kernel_rfl⟩⟩
instance : TZeroV PP 16 (.pointer none) := ⟨fun w => by kernel_rfl⟩
instance : TUnd PP 16 (.pointer 214) := ⟨by kernel_rfl⟩
instance : TShape PP 17 false 1 := ⟨fun w => by kernel_rfl, fun w => by kernel_rfl⟩
instance : TInfo PP 17 8 := ⟨fun w => ⟨Tryz.t17, by rw [PP_def]; exact Tryz.typeInfo17 w, rfl⟩⟩
instance : TZero PP 17 [.pointer none] := ⟨fun w => ⟨.pointer none, by kernel_rfl, by kernel_rfl⟩⟩
instance : TZeroV PP 17 (.pointer none) := ⟨fun w => by kernel_rfl⟩
instance : TUnd PP 17 (.pointer 223) := ⟨by kernel_rfl⟩
instance : TShape PP 18 true 1 := ⟨fun w => by kernel_rfl, fun w => by kernel_rfl⟩
instance : TInfo PP 18 8 := ⟨fun w => ⟨Tryz.t18, by rw [PP_def]; exact Tryz.typeInfo18 w, rfl⟩⟩
instance : TZero PP 18 [.pointer none] := ⟨fun w => ⟨.agg #[.pointer none], by kernel_rfl, by kernel_rfl⟩⟩
instance : TZeroV PP 18 (.agg #[.pointer none]) := ⟨fun w => by kernel_rfl⟩
instance : TStruct PP 18 [.pointer none] [(0, 1)] := ⟨⟨_, by rw [PP_def]; exact Tryz.underlying18, fun w => by kernel_rfl⟩, fun w => ⟨.agg #[.pointer none], by kernel_rfl, by kernel_rfl⟩⟩
instance : TField PP 18 0 0 := ⟨fun b o w => by kernel_rfl⟩
instance : TPart PP 18 0 false 0 1 := part_lemma (ft := 17) (by rw [PP_def]; exact Tryz.underlying18) rfl rfl rfl
instance : TShape PP 19 true 1 := ⟨fun w => by kernel_rfl, fun w => by kernel_rfl⟩
instance : TInfo PP 19 8 := ⟨fun w => ⟨Tryz.t19, by rw [PP_def]; exact Tryz.typeInfo19 w, rfl⟩⟩
instance : TZero PP 19 [.pointer none] := ⟨fun w => ⟨.agg #[.pointer none], by kernel_rfl, by kernel_rfl⟩⟩
instance : TZeroV PP 19 (.agg #[.pointer none]) := ⟨fun w => by kernel_rfl⟩
instance : TStruct PP 19 [.pointer none] [(0, 1)] := ⟨⟨_, by rw [PP_def]; exact Tryz.underlying19, fun w => by kernel_rfl⟩, fun w => ⟨.agg #[.pointer none], by kernel_rfl, by kernel_rfl⟩⟩
instance : TField PP 19 0 0 := ⟨fun b o w => by kernel_rfl⟩
instance : TPart PP 19 0 false 0 1 := part_lemma (ft := 17) (by rw [PP_def]; exact Tryz.underlying19) rfl rfl rfl
instance : TShape PP 20 false 1 := ⟨fun w => by kernel_rfl, fun w => by kernel_rfl⟩
instance : TInfo PP 20 16 := ⟨fun w => ⟨Tryz.t20, by rw [PP_def]; exact Tryz.typeInfo20 w, rfl⟩⟩
instance : TZero PP 20 [.nilIface] := ⟨fun w => ⟨.nilIface, by kernel_rfl, by kernel_rfl⟩⟩
instance : TZeroV PP 20 (.nilIface) := ⟨fun w => by kernel_rfl⟩
instance : TShape PP 21 false 1 := ⟨fun w => by kernel_rfl, fun w => by kernel_rfl⟩
instance : TInfo PP 21 4 := ⟨fun w => ⟨Tryz.t21, by rw [PP_def]; exact Tryz.typeInfo21 w, rfl⟩⟩
instance : TZero PP 21 [.int .i32 0] := ⟨fun w => ⟨.int .i32 0, by kernel_rfl, by kernel_rfl⟩⟩
instance : TZeroV PP 21 (.int .i32 0) := ⟨fun w => by kernel_rfl⟩
instance : TUnd PP 21 (.int (.i32)) := ⟨by kernel_rfl⟩
instance : TShape PP 22 false 1 := ⟨fun w => by kernel_rfl, fun w => by kernel_rfl⟩
instance : TInfo PP 22 24 := ⟨fun w => ⟨Tryz.t22, by rw [PP_def]; exact Tryz.typeInfo22 w, rfl⟩⟩
instance : TZero PP 22 [.slice none 0 0] := ⟨fun w => ⟨.slice none 0 0, by kernel_rfl, by kernel_rfl⟩⟩
instance : TZeroV PP 22 (.slice none 0 0) := ⟨fun w => by kernel_rfl⟩
instance : TUnd PP 22 (.slice 64) := ⟨by kernel_rfl⟩
instance : TShape PP 23 false 1 := ⟨fun w => by kernel_rfl, fun w => by kernel_rfl⟩
instance : TInfo PP 23 8 := ⟨fun w => ⟨Tryz.t23, by rw [PP_def]; exact Tryz.typeInfo23 w, rfl⟩⟩
instance : TZero PP 23 [.nilFunc] := ⟨fun w => ⟨.nilFunc, by kernel_rfl, by kernel_rfl⟩⟩
instance : TZeroV PP 23 (.nilFunc) := ⟨fun w => by kernel_rfl⟩
instance : TShape PP 24 false 1 := ⟨fun w => by kernel_rfl, fun w => by kernel_rfl⟩
instance : TInfo PP 24 8 := ⟨fun w => ⟨Tryz.t24, by rw [PP_def]; exact Tryz.typeInfo24 w, rfl⟩⟩
instance : TZero PP 24 [.map none] := ⟨fun w => ⟨.map none, by kernel_rfl, by kernel_rfl⟩⟩
instance : TZeroV PP 24 (.map none) := ⟨fun w => by kernel_rfl⟩
instance : TUnd PP 24 (.map 28 68) := ⟨by kernel_rfl⟩
instance : TShape PP 25 false 1 := ⟨fun w => by kernel_rfl, fun w => by kernel_rfl⟩
instance : TInfo PP 25 8 := ⟨fun w => ⟨Tryz.t25, by rw [PP_def]; exact Tryz.typeInfo25 w, rfl⟩⟩
instance : TZero PP 25 [.map none] := ⟨fun w => ⟨.map none, by kernel_rfl, by kernel_rfl⟩⟩
instance : TZeroV PP 25 (.map none) := ⟨fun w => by kernel_rfl⟩
instance : TUnd PP 25 (.map 28 68) := ⟨by kernel_rfl⟩
instance : TShape PP 26 false 1 := ⟨fun w => by kernel_rfl, fun w => by kernel_rfl⟩
instance : TInfo PP 26 16 := ⟨fun w => ⟨Tryz.t26, by rw [PP_def]; exact Tryz.typeInfo26 w, rfl⟩⟩
instance : TZero PP 26 [.nilIface] := ⟨fun w => ⟨.nilIface, by kernel_rfl, by kernel_rfl⟩⟩
instance : TZeroV PP 26 (.nilIface) := ⟨fun w => by kernel_rfl⟩
instance : TShape PP 27 false 1 := ⟨fun w => by kernel_rfl, fun w => by kernel_rfl⟩
instance : TInfo PP 27 16 := ⟨fun w => ⟨Tryz.t27, by rw [PP_def]; exact Tryz.typeInfo27 w, rfl⟩⟩
instance : TZero PP 27 [.nilIface] := ⟨fun w => ⟨.nilIface, by kernel_rfl, by kernel_rfl⟩⟩
instance : TZeroV PP 27 (.nilIface) := ⟨fun w => by kernel_rfl⟩
instance : TShape PP 28 false 1 := ⟨fun w => by kernel_rfl, fun w => by kernel_rfl⟩
instance : TInfo PP 28 8 := ⟨fun w => ⟨Tryz.t28, by rw [PP_def]; exact Tryz.typeInfo28 w, rfl⟩⟩
instance : TZero PP 28 [.int .i64 0] := ⟨fun w => ⟨.int .i64 0, by kernel_rfl, by kernel_rfl⟩⟩
instance : TZeroV PP 28 (.int .i64 0) := ⟨fun w => by kernel_rfl⟩
instance : TUnd PP 28 (.int (.i64)) := ⟨by kernel_rfl⟩
instance : TShape PP 29 true 3 := ⟨fun w => by kernel_rfl, fun w => by kernel_rfl⟩
instance : TInfo PP 29 24 := ⟨fun w => ⟨Tryz.t29, by rw [PP_def]; exact Tryz.typeInfo29 w, rfl⟩⟩
instance : TZero PP 29 [.int .i64 0, .int .i64 0, .int .i64 0] := ⟨fun w => ⟨.agg #[.int .i64 0, .int .i64 0, .int .i64 0], by kernel_rfl, by kernel_rfl⟩⟩
instance : TZeroV PP 29 (.agg #[.int .i64 0, .int .i64 0, .int .i64 0]) := ⟨fun w => by kernel_rfl⟩
instance : TStruct PP 29 [.int .i64 0, .int .i64 0, .int .i64 0] [(0, 1), (1, 1), (2, 1)] := ⟨⟨_, by rw [PP_def]; exact Tryz.underlying29, fun w => by kernel_rfl⟩, fun w => ⟨.agg #[.int .i64 0, .int .i64 0, .int .i64 0], by kernel_rfl, by kernel_rfl⟩⟩
instance : TField PP 29 0 0 := ⟨fun b o w => by kernel_rfl⟩
instance : TPart PP 29 0 false 0 1 := part_lemma (ft := 28) (by rw [PP_def]; exact Tryz.underlying29) rfl rfl rfl
instance : TField PP 29 1 1 := ⟨fun b o w => by kernel_rfl⟩
instance : TPart PP 29 1 false 1 1 := part_lemma (ft := 28) (by rw [PP_def]; exact Tryz.underlying29) rfl rfl rfl
instance : TField PP 29 2 2 := ⟨fun b o w => by kernel_rfl⟩
instance : TPart PP 29 2 false 2 1 := part_lemma (ft := 3) (by rw [PP_def]; exact Tryz.underlying29) rfl rfl rfl
instance : TShape PP 30 true 3 := ⟨fun w => by kernel_rfl, fun w => by kernel_rfl⟩
instance : TInfo PP 30 24 := ⟨fun w => ⟨Tryz.t30, by rw [PP_def]; exact Tryz.typeInfo30 w, rfl⟩⟩
instance : TZero PP 30 [.int .i64 0, .int .i64 0, .int .i64 0] := ⟨fun w => ⟨.agg #[.int .i64 0, .int .i64 0, .int .i64 0], by kernel_rfl, by kernel_rfl⟩⟩
instance : TZeroV PP 30 (.agg #[.int .i64 0, .int .i64 0, .int .i64 0]) := ⟨fun w => by kernel_rfl⟩
instance : TStruct PP 30 [.int .i64 0, .int .i64 0, .int .i64 0] [(0, 1), (1, 1), (2, 1)] := ⟨⟨_, by rw [PP_def]; exact Tryz.underlying30, fun w => by kernel_rfl⟩, fun w => ⟨.agg #[.int .i64 0, .int .i64 0, .int .i64 0], by kernel_rfl, by kernel_rfl⟩⟩
instance : TField PP 30 0 0 := ⟨fun b o w => by kernel_rfl⟩
instance : TPart PP 30 0 false 0 1 := part_lemma (ft := 28) (by rw [PP_def]; exact Tryz.underlying30) rfl rfl rfl
instance : TField PP 30 1 1 := ⟨fun b o w => by kernel_rfl⟩
instance : TPart PP 30 1 false 1 1 := part_lemma (ft := 28) (by rw [PP_def]; exact Tryz.underlying30) rfl rfl rfl
instance : TField PP 30 2 2 := ⟨fun b o w => by kernel_rfl⟩
instance : TPart PP 30 2 false 2 1 := part_lemma (ft := 3) (by rw [PP_def]; exact Tryz.underlying30) rfl rfl rfl
instance : TShape PP 31 true 5 := ⟨fun w => by kernel_rfl, fun w => by kernel_rfl⟩
instance : TInfo PP 31 48 := ⟨fun w => ⟨Tryz.t31, by rw [PP_def]; exact Tryz.typeInfo31 w, rfl⟩⟩
instance : TZero PP 31 [.nilIface, .int .i64 0, .int .i64 0, .int .i64 0, .int .i64 0] := ⟨fun w => ⟨.agg #[.nilIface, .int .i64 0, .int .i64 0, .int .i64 0, .int .i64 0], by kernel_rfl, by kernel_rfl⟩⟩
instance : TZeroV PP 31 (.agg #[.nilIface, .int .i64 0, .int .i64 0, .int .i64 0, .int .i64 0]) := ⟨fun w => by kernel_rfl⟩
instance : TStruct PP 31 [.nilIface, .int .i64 0, .int .i64 0, .int .i64 0, .int .i64 0] [(0, 1), (1, 3), (4, 1)] := ⟨⟨_, by rw [PP_def]; exact Tryz.underlying31, fun w => by kernel_rfl⟩, fun w => ⟨.agg #[.nilIface, .int .i64 0, .int .i64 0, .int .i64 0, .int .i64 0], by kernel_rfl, by kernel_rfl⟩⟩
instance : TField PP 31 0 0 := ⟨fun b o w => by kernel_rfl⟩
instance : TPart PP 31 0 false 0 1 := part_lemma (ft := 27) (by rw [PP_def]; exact Tryz.underlying31) rfl rfl rfl
instance : TField PP 31 1 1 := ⟨fun b o w => by kernel_rfl⟩
instance : TPart PP 31 1 true 1 3 := part_lemma (ft := 30) (by rw [PP_def]; exact Tryz.underlying31) rfl rfl rfl
instance : TField PP 31 2 4 := ⟨fun b o w => by kernel_rfl⟩
instance : TPart PP 31 2 false 4 1 := part_lemma (ft := 28) (by rw [PP_def]; exact Tryz.underlying31) rfl rfl rfl
instance : TShape PP 32 true 5 := ⟨fun w => by kernel_rfl, fun w => by kernel_rfl⟩
instance : TInfo PP 32 48 := ⟨fun w => ⟨Tryz.t32, by rw [PP_def]; exact Tryz.typeInfo32 w, rfl⟩⟩
instance : TZero PP 32 [.nilIface, .int .i64 0, .int .i64 0, .int .i64 0, .int .i64 0] := ⟨fun w => ⟨.agg #[.nilIface, .int .i64 0, .int .i64 0, .int .i64 0, .int .i64 0], by kernel_rfl, by kernel_rfl⟩⟩
instance : TZeroV PP 32 (.agg #[.nilIface, .int .i64 0, .int .i64 0, .int .i64 0, .int .i64 0]) := ⟨fun w => by kernel_rfl⟩
instance : TStruct PP 32 [.nilIface, .int .i64 0, .int .i64 0, .int .i64 0, .int .i64 0] [(0, 1), (1, 3), (4, 1)] := ⟨⟨_, by rw [PP_def]; exact Tryz.underlying32, fun w => by kernel_rfl⟩, fun w => ⟨.agg #[.nilIface, .int .i64 0, .int .i64 0, .int .i64 0, .int .i64 0], by kernel_rfl, by kernel_rfl⟩⟩
instance : TField PP 32 0 0 := ⟨fun b o w => by kernel_rfl⟩
instance : TPart PP 32 0 false 0 1 := part_lemma (ft := 27) (by rw [PP_def]; exact Tryz.underlying32) rfl rfl rfl
instance : TField PP 32 1 1 := ⟨fun b o w => by kernel_rfl⟩
instance : TPart PP 32 1 true 1 3 := part_lemma (ft := 30) (by rw [PP_def]; exact Tryz.underlying32) rfl rfl rfl
instance : TField PP 32 2 4 := ⟨fun b o w => by kernel_rfl⟩
instance : TPart PP 32 2 false 4 1 := part_lemma (ft := 28) (by rw [PP_def]; exact Tryz.underlying32) rfl rfl rfl
instance : TShape PP 33 false 1 := ⟨fun w => by kernel_rfl, fun w => by kernel_rfl⟩
instance : TInfo PP 33 24 := ⟨fun w => ⟨Tryz.t33, by rw [PP_def]; exact Tryz.typeInfo33 w, rfl⟩⟩
instance : TZero PP 33 [.slice none 0 0] := ⟨fun w => ⟨.slice none 0 0, by kernel_rfl, by kernel_rfl⟩⟩
instance : TZeroV PP 33 (.slice none 0 0) := ⟨fun w => by kernel_rfl⟩
instance : TUnd PP 33 (.slice 94) := ⟨by kernel_rfl⟩
instance : TShape PP 34 true 7 := ⟨fun w => by kernel_rfl, fun w => by kernel_rfl⟩
instance : TInfo PP 34 80 := ⟨fun w => ⟨Tryz.t34, by rw [PP_def]; exact Tryz.typeInfo34 w, rfl⟩⟩
instance : TZero PP 34 [.map none, .nilIface, .int .i64 0, .int .i64 0, .int .i64 0, .int .i64 0, .slice none 0 0] := ⟨fun w => ⟨.agg #[.map none, .nilIface, .int .i64 0, .int .i64 0, .int .i64 0, .int .i64 0, .slice none 0 0], by kernel_rfl, by kernel_rfl⟩⟩
instance : TZeroV PP 34 (.agg #[.map none, .nilIface, .int .i64 0, .int .i64 0, .int .i64 0, .int .i64 0, .slice none 0 0]) := ⟨fun w => by kernel_rfl⟩
instance : TStruct PP 34 [.map none, .nilIface, .int .i64 0, .int .i64 0, .int .i64 0, .int .i64 0, .slice none 0 0] [(0, 1), (1, 5), (6, 1)] := ⟨⟨_, by rw [PP_def]; exact Tryz.underlying34, fun w => by kernel_rfl⟩, fun w => ⟨.agg #[.map none, .nilIface, .int .i64 0, .int .i64 0, .int .i64 0, .int .i64 0, .slice none 0 0], by kernel_rfl, by kernel_rfl⟩⟩
instance : TField PP 34 0 0 := ⟨fun b o w => by kernel_rfl⟩
instance : TPart PP 34 0 false 0 1 := part_lemma (ft := 25) (by rw [PP_def]; exact Tryz.underlying34) rfl rfl rfl
instance : TField PP 34 1 1 := ⟨fun b o w => by kernel_rfl⟩
instance : TPart PP 34 1 true 1 5 := part_lemma (ft := 32) (by rw [PP_def]; exact Tryz.underlying34) rfl rfl rfl
instance : TField PP 34 2 6 := ⟨fun b o w => by kernel_rfl⟩
instance : TPart PP 34 2 false 6 1 := part_lemma (ft := 33) (by rw [PP_def]; exact Tryz.underlying34) rfl rfl rfl
instance : TShape PP 35 true 7 := ⟨fun w => by kernel_rfl, fun w => by kernel_rfl⟩
instance : TInfo PP 35 80 := ⟨fun w => ⟨Tryz.t35, by rw [PP_def]; exact Tryz.typeInfo35 w, rfl⟩⟩
instance : TZero PP 35 [.map none, .nilIface, .int .i64 0, .int .i64 0, .int .i64 0, .int .i64 0, .slice none 0 0] := ⟨fun w => ⟨.agg #[.map none, .nilIface, .int .i64 0, .int .i64 0, .int .i64 0, .int .i64 0, .slice none 0 0], by kernel_rfl, by kernel_rfl⟩⟩
instance : TZeroV PP 35 (.agg #[.map none, .nilIface, .int .i64 0, .int .i64 0, .int .i64 0, .int .i64 0, .slice none 0 0]) := ⟨fun w => by kernel_rfl⟩
instance : TStruct PP 35 [.map none, .nilIface, .int .i64 0, .int .i64 0, .int .i64 0, .int .i64 0, .slice none 0 0] [(0, 1), (1, 5), (6, 1)] := ⟨⟨_, by rw [PP_def]; exact Tryz.underlying35, fun w => by kernel_rfl⟩, fun w => ⟨.agg #[.map none, .nilIface, .int .i64 0, .int .i64 0, .int .i64 0, .int .i64 0, .slice none 0 0], by kernel_rfl, by kernel_rfl⟩⟩
instance : TField PP 35 0 0 := ⟨fun b o w => by kernel_rfl⟩
instance : TPart PP 35 0 false 0 1 := part_lemma (ft := 25) (by rw [PP_def]; exact Tryz.underlying35) rfl rfl rfl
instance : TField PP 35 1 1 := ⟨fun b o w => by kernel_rfl⟩
instance : TPart PP 35 1 true 1 5 := part_lemma (ft := 32) (by rw [PP_def]; exact Tryz.underlying35) rfl rfl rfl
instance : TField PP 35 2 6 := ⟨fun b o w => by kernel_rfl⟩
instance : TPart PP 35 2 false 6 1 := part_lemma (ft := 33) (by rw [PP_def]; exact Tryz.underlying35) rfl rfl rfl
instance : TShape PP 37 false 1 := ⟨fun w => by kernel_rfl, fun w => by kernel_rfl⟩
instance : TInfo PP 37 8 := ⟨fun w => ⟨Tryz.t37, by rw [PP_def]; exact Tryz.typeInfo37 w, rfl⟩⟩
instance : TZero PP 37 [.nilFunc] := ⟨fun w => ⟨.nilFunc, by kernel_rfl, by kernel_rfl⟩⟩
instance : TZeroV PP 37 (.nilFunc) := ⟨fun w => by kernel_rfl⟩
instance : TShape PP 38 false 1 := ⟨fun w => by kernel_rfl, fun w => by kernel_rfl⟩
instance : TInfo PP 38 8 := ⟨fun w => ⟨Tryz.t38, by rw [PP_def]; exact Tryz.typeInfo38 w, rfl⟩⟩
instance : TZero PP 38 [.nilFunc] := ⟨fun w => ⟨.nilFunc, by kernel_rfl, by kernel_rfl⟩⟩
instance : TZeroV PP 38 (.nilFunc) := ⟨fun w => by kernel_rfl⟩
instance : TShape PP 39 false 1 := ⟨fun w => by kernel_rfl, fun w => by kernel_rfl⟩
instance : TInfo PP 39 8 := ⟨fun w => ⟨Tryz.t39, by rw [PP_def]; exact Tryz.typeInfo39 w, rfl⟩⟩
instance : TZero PP 39 [.nilFunc] := ⟨fun w => ⟨.nilFunc, by kernel_rfl, by kernel_rfl⟩⟩
instance : TZeroV PP 39 (.nilFunc) := ⟨fun w => by kernel_rfl⟩
instance : TShape PP 40 false 1 := ⟨fun w => by kernel_rfl, fun w => by kernel_rfl⟩
instance : TInfo PP 40 24 := ⟨fun w => ⟨Tryz.t40, by rw [PP_def]; exact Tryz.typeInfo40 w, rfl⟩⟩
instance : TZero PP 40 [.slice none 0 0] := ⟨fun w => ⟨.slice none 0 0, by kernel_rfl, by kernel_rfl⟩⟩
instance : TZeroV PP 40 (.slice none 0 0) := ⟨fun w => by kernel_rfl⟩
instance : TUnd PP 40 (.slice 99) := ⟨by kernel_rfl⟩
instance : TShape PP 41 false 1 := ⟨fun w => by kernel_rfl, fun w => by kernel_rfl⟩
instance : TInfo PP 41 16 := ⟨fun w => ⟨Tryz.t41, by rw [PP_def]; exact Tryz.typeInfo41 w, rfl⟩⟩
instance : TZero PP 41 [.nilIface] := ⟨fun w => ⟨.nilIface, by kernel_rfl, by kernel_rfl⟩⟩
instance : TZeroV PP 41 (.nilIface) := ⟨fun w => by kernel_rfl⟩
instance : TShape PP 42 false 1 := ⟨fun w => by kernel_rfl, fun w => by kernel_rfl⟩
instance : TInfo PP 42 16 := ⟨fun w => ⟨Tryz.t42, by rw [PP_def]; exact Tryz.typeInfo42 w, rfl⟩⟩
instance : TZero PP 42 [.nilIface] := ⟨fun w => ⟨.nilIface, by kernel_rfl, by kernel_rfl⟩⟩
instance : TZeroV PP 42 (.nilIface) := ⟨fun w => by kernel_rfl⟩
instance : TShape PP 43 true 5 := ⟨fun w => by kernel_rfl, fun w => by kernel_rfl⟩
instance : TInfo PP 43 48 := ⟨fun w => ⟨Tryz.t43, by rw [PP_def]; exact Tryz.typeInfo43 w, rfl⟩⟩
instance : TZero PP 43 [.nilIface, .int .i64 0, .int .i64 0, .int .i64 0, .int .i64 0] := ⟨fun w => ⟨.agg #[.nilIface, .int .i64 0, .int .i64 0, .int .i64 0, .int .i64 0], by kernel_rfl, by kernel_rfl⟩⟩
instance : TZeroV PP 43 (.agg #[.nilIface, .int .i64 0, .int .i64 0, .int .i64 0, .int .i64 0]) := ⟨fun w => by kernel_rfl⟩
instance : TStruct PP 43 [.nilIface, .int .i64 0, .int .i64 0, .int .i64 0, .int .i64 0] [(0, 1), (1, 3), (4, 1)] := ⟨⟨_, by rw [PP_def]; exact Tryz.underlying43, fun w => by kernel_rfl⟩, fun w => ⟨.agg #[.nilIface, .int .i64 0, .int .i64 0, .int .i64 0, .int .i64 0], by kernel_rfl, by kernel_rfl⟩⟩
instance : TField PP 43 0 0 := ⟨fun b o w => by kernel_rfl⟩
instance : TPart PP 43 0 false 0 1 := part_lemma (ft := 42) (by rw [PP_def]; exact Tryz.underlying43) rfl rfl rfl
instance : TField PP 43 1 1 := ⟨fun b o w => by kernel_rfl⟩
instance : TPart PP 43 1 true 1 3 := part_lemma (ft := 30) (by rw [PP_def]; exact Tryz.underlying43) rfl rfl rfl
instance : TField PP 43 2 4 := ⟨fun b o w => by kernel_rfl⟩
instance : TPart PP 43 2 false 4 1 := part_lemma (ft := 28) (by rw [PP_def]; exact Tryz.underlying43) rfl rfl rfl
instance : TShape PP 44 true 5 := ⟨fun w => by kernel_rfl, fun w => by kernel_rfl⟩
instance : TInfo PP 44 48 := ⟨fun w => ⟨Tryz.t44, by rw [PP_def]; exact Tryz.typeInfo44 w, rfl⟩⟩
instance : TZero PP 44 [.nilIface, .int .i64 0, .int .i64 0, .int .i64 0, .int .i64 0] := ⟨fun w => ⟨.agg #[.nilIface, .int .i64 0, .int .i64 0, .int .i64 0, .int .i64 0], by kernel_rfl, by kernel_rfl⟩⟩
instance : TZeroV PP 44 (.agg #[.nilIface, .int .i64 0, .int .i64 0, .int .i64 0, .int .i64 0]) := ⟨fun w => by kernel_rfl⟩
instance : TStruct PP 44 [.nilIface, .int .i64 0, .int .i64 0, .int .i64 0, .int .i64 0] [(0, 1), (1, 3), (4, 1)] := ⟨⟨_, by rw [PP_def]; exact Tryz.underlying44, fun w => by kernel_rfl⟩, fun w => ⟨.agg #[.nilIface, .int .i64 0, .int .i64 0, .int .i64 0, .int .i64 0], by kernel_rfl, by kernel_rfl⟩⟩
instance : TField PP 44 0 0 := ⟨fun b o w => by kernel_rfl⟩
instance : TPart PP 44 0 false 0 1 := part_lemma (ft := 42) (by rw [PP_def]; exact Tryz.underlying44) rfl rfl rfl
instance : TField PP 44 1 1 := ⟨fun b o w => by kernel_rfl⟩
instance : TPart PP 44 1 true 1 3 := part_lemma (ft := 30) (by rw [PP_def]; exact Tryz.underlying44) rfl rfl rfl
instance : TField PP 44 2 4 := ⟨fun b o w => by kernel_rfl⟩
instance : TPart PP 44 2 false 4 1 := part_lemma (ft := 28) (by rw [PP_def]; exact Tryz.underlying44) rfl rfl rfl
instance : TShape PP 45 true 7 := ⟨fun w => by kernel_rfl, fun w => by kernel_rfl⟩
instance : TInfo PP 45 80 := ⟨fun w => ⟨Tryz.t45, by rw [PP_def]; exact Tryz.typeInfo45 w, rfl⟩⟩
instance : TZero PP 45 [.map none, .nilIface, .int .i64 0, .int .i64 0, .int .i64 0, .int .i64 0, .slice none 0 0] := ⟨fun w => ⟨.agg #[.map none, .nilIface, .int .i64 0, .int .i64 0, .int .i64 0, .int .i64 0, .slice none 0 0], by kernel_rfl, by kernel_rfl⟩⟩
instance : TZeroV PP 45 (.agg #[.map none, .nilIface, .int .i64 0, .int .i64 0, .int .i64 0, .int .i64 0, .slice none 0 0]) := ⟨fun w => by kernel_rfl⟩
instance : TStruct PP 45 [.map none, .nilIface, .int .i64 0, .int .i64 0, .int .i64 0, .int .i64 0, .slice none 0 0] [(0, 1), (1, 5), (6, 1)] := ⟨⟨_, by rw [PP_def]; exact Tryz.underlying45, fun w => by kernel_rfl⟩, fun w => ⟨.agg #[.map none, .nilIface, .int .i64 0, .int .i64 0, .int .i64 0, .int .i64 0, .slice none 0 0], by kernel_rfl, by kernel_rfl⟩⟩
instance : TField PP 45 0 0 := ⟨fun b o w => by kernel_rfl⟩
instance : TPart PP 45 0 false 0 1 := part_lemma (ft := 25) (by rw [PP_def]; exact Tryz.underlying45) rfl rfl rfl
instance : TField PP 45 1 1 := ⟨fun b o w => by kernel_rfl⟩
instance : TPart PP 45 1 true 1 5 := part_lemma (ft := 44) (by rw [PP_def]; exact Tryz.underlying45) rfl rfl rfl
instance : TField PP 45 2 6 := ⟨fun b o w => by kernel_rfl⟩
instance : TPart PP 45 2 false 6 1 := part_lemma (ft := 33) (by rw [PP_def]; exact Tryz.underlying45) rfl rfl rfl
instance : TShape PP 46 true 7 := ⟨fun w => by kernel_rfl, fun w => by kernel_rfl⟩
instance : TInfo PP 46 80 := ⟨fun w => ⟨Tryz.t46, by rw [PP_def]; exact Tryz.typeInfo46 w, rfl⟩⟩
instance : TZero PP 46 [.map none, .nilIface, .int .i64 0, .int .i64 0, .int .i64 0, .int .i64 0, .slice none 0 0] := ⟨fun w => ⟨.agg #[.map none, .nilIface, .int .i64 0, .int .i64 0, .int .i64 0, .int .i64 0, .slice none 0 0], by kernel_rfl, by kernel_rfl⟩⟩
instance : TZeroV PP 46 (.agg #[.map none, .nilIface, .int .i64 0, .int .i64 0, .int .i64 0, .int .i64 0, .slice none 0 0]) := ⟨fun w => by kernel_rfl⟩
instance : TStruct PP 46 [.map none, .nilIface, .int .i64 0, .int .i64 0, .int .i64 0, .int .i64 0, .slice none 0 0] [(0, 1), (1, 5), (6, 1)] := ⟨⟨_, by rw [PP_def]; exact Tryz.underlying46, fun w => by kernel_rfl⟩, fun w => ⟨.agg #[.map none, .nilIface, .int .i64 0, .int .i64 0, .int .i64 0, .int .i64 0, .slice none 0 0], by kernel_rfl, by kernel_rfl⟩⟩
instance : TField PP 46 0 0 := ⟨fun b o w => by kernel_rfl⟩
instance : TPart PP 46 0 false 0 1 := part_lemma (ft := 25) (by rw [PP_def]; exact Tryz.underlying46) rfl rfl rfl
instance : TField PP 46 1 1 := ⟨fun b o w => by kernel_rfl⟩
instance : TPart PP 46 1 true 1 5 := part_lemma (ft := 44) (by rw [PP_def]; exact Tryz.underlying46) rfl rfl rfl
instance : TField PP 46 2 6 := ⟨fun b o w => by kernel_rfl⟩
instance : TPart PP 46 2 false 6 1 := part_lemma (ft := 33) (by rw [PP_def]; exact Tryz.underlying46) rfl rfl rfl
instance : TShape PP 48 false 1 := ⟨fun w => by kernel_rfl, fun w => by kernel_rfl⟩
instance : TInfo PP 48 8 := ⟨fun w => ⟨Tryz.t48, by rw [PP_def]; exact Tryz.typeInfo48 w, rfl⟩⟩
instance : TZero PP 48 [.nilFunc] := ⟨fun w => ⟨.nilFunc, by kernel_rfl, by kernel_rfl⟩⟩
instance : TZeroV PP 48 (.nilFunc) := ⟨fun w => by kernel_rfl⟩
instance : TShape PP 49 true 1 := ⟨fun w => by kernel_rfl, fun w => by kernel_rfl⟩
instance : TInfo PP 49 1 := ⟨fun w => ⟨Tryz.t49, by rw [PP_def]; exact Tryz.typeInfo49 w, rfl⟩⟩
instance : TZero PP 49 [.int .u8 0] := ⟨fun w => ⟨.agg #[.int .u8 0], by kernel_rfl, by kernel_rfl⟩⟩
instance : TZeroV PP 49 (.agg #[.int .u8 0]) := ⟨fun w => by kernel_rfl⟩
instance : TStruct PP 49 [.int .u8 0] [(0, 1)] := ⟨⟨_, by rw [PP_def]; exact Tryz.underlying49, fun w => by kernel_rfl⟩, fun w => ⟨.agg #[.int .u8 0], by kernel_rfl, by kernel_rfl⟩⟩
instance : TField PP 49 0 0 := ⟨fun b o w => by kernel_rfl⟩
instance : TPart PP 49 0 false 0 1 := part_lemma (ft := 5) (by rw [PP_def]; exact Tryz.underlying49) rfl rfl rfl
instance : TShape PP 50 true 1 := ⟨fun w => by kernel_rfl, fun w => by kernel_rfl⟩
instance : TInfo PP 50 1 := ⟨fun w => ⟨Tryz.t50, by rw [PP_def]; exact Tryz.typeInfo50 w, rfl⟩⟩
instance : TZero PP 50 [.int .u8 0] := ⟨fun w => ⟨.agg #[.int .u8 0], by kernel_rfl, by kernel_rfl⟩⟩
instance : TZeroV PP 50 (.agg #[.int .u8 0]) := ⟨fun w => by kernel_rfl⟩
instance : TStruct PP 50 [.int .u8 0] [(0, 1)] := ⟨⟨_, by rw [PP_def]; exact Tryz.underlying50, fun w => by kernel_rfl⟩, fun w => ⟨.agg #[.int .u8 0], by kernel_rfl, by kernel_rfl⟩⟩
instance : TField PP 50 0 0 := ⟨fun b o w => by kernel_rfl⟩
instance : TPart PP 50 0 false 0 1 := part_lemma (ft := 5) (by rw [PP_def]; exact Tryz.underlying50) rfl rfl rfl
instance : TShape PP 51 true 1 := ⟨fun w => by kernel_rfl, fun w => by kernel_rfl⟩
instance : TInfo PP 51 1 := ⟨fun w => ⟨Tryz.t51, by rw [PP_def]; exact Tryz.typeInfo51 w, rfl⟩⟩
instance : TZero PP 51 [.int .u8 0] := ⟨fun w => ⟨.agg #[.int .u8 0], by kernel_rfl, by kernel_rfl⟩⟩
instance : TZeroV PP 51 (.agg #[.int .u8 0]) := ⟨fun w => by kernel_rfl⟩
instance : TStruct PP 51 [.int .u8 0] [(0, 1)] := ⟨⟨_, by rw [PP_def]; exact Tryz.underlying51, fun w => by kernel_rfl⟩, fun w => ⟨.agg #[.int .u8 0], by kernel_rfl, by kernel_rfl⟩⟩
instance : TField PP 51 0 0 := ⟨fun b o w => by kernel_rfl⟩
instance : TPart PP 51 0 false 0 1 := part_lemma (ft := 5) (by rw [PP_def]; exact Tryz.underlying51) rfl rfl rfl
instance : TShape PP 52 true 1 := ⟨fun w => by kernel_rfl, fun w => by kernel_rfl⟩
instance : TInfo PP 52 1 := ⟨fun w => ⟨Tryz.t52, by rw [PP_def]; exact Tryz.typeInfo52 w, rfl⟩⟩
instance : TZero PP 52 [.int .u8 0] := ⟨fun w => ⟨.agg #[.int .u8 0], by kernel_rfl, by kernel_rfl⟩⟩
instance : TZeroV PP 52 (.agg #[.int .u8 0]) := ⟨fun w => by kernel_rfl⟩
instance : TStruct PP 52 [.int .u8 0] [(0, 1)] := ⟨⟨_, by rw [PP_def]; exact Tryz.underlying52, fun w => by kernel_rfl⟩, fun w => ⟨.agg #[.int .u8 0], by kernel_rfl, by kernel_rfl⟩⟩
instance : TField PP 52 0 0 := ⟨fun b o w => by kernel_rfl⟩
instance : TPart PP 52 0 false 0 1 := part_lemma (ft := 5) (by rw [PP_def]; exact Tryz.underlying52) rfl rfl rfl
instance : TShape PP 53 false 1 := ⟨fun w => by kernel_rfl, fun w => by kernel_rfl⟩
instance : TInfo PP 53 8 := ⟨fun w => ⟨Tryz.t53, by rw [PP_def]; exact Tryz.typeInfo53 w, rfl⟩⟩
instance : TZero PP 53 [.nilFunc] := ⟨fun w => ⟨.nilFunc, by kernel_rfl, by kernel_rfl⟩⟩
instance : TZeroV PP 53 (.nilFunc) := ⟨fun w => by kernel_rfl⟩
instance : TShape PP 54 false 1 := ⟨fun w => by kernel_rfl, fun w => by kernel_rfl⟩
instance : TInfo PP 54 8 := ⟨fun w => ⟨Tryz.t54, by rw [PP_def]; exact Tryz.typeInfo54 w, rfl⟩⟩
instance : TZero PP 54 [.nilFunc] := ⟨fun w => ⟨.nilFunc, by kernel_rfl, by kernel_rfl⟩⟩
instance : TZeroV PP 54 (.nilFunc) := ⟨fun w => by kernel_rfl⟩
instance : TShape PP 56 true 0 := ⟨fun w => by kernel_rfl, fun w => by kernel_rfl⟩
instance : TInfo PP 56 0 := ⟨fun w => ⟨Tryz.t56, by rw [PP_def]; exact Tryz.typeInfo56 w, rfl⟩⟩
instance : TZero PP 56 [] := ⟨fun w => ⟨.agg #[], by kernel_rfl, by kernel_rfl⟩⟩
instance : TZeroV PP 56 (.agg #[]) := ⟨fun w => by kernel_rfl⟩
instance : TStruct PP 56 [] [] := ⟨⟨_, by rw [PP_def]; exact Tryz.underlying56, fun w => by kernel_rfl⟩, fun w => ⟨.agg #[], by kernel_rfl, by kernel_rfl⟩⟩
instance : TShape PP 57 true 0 := ⟨fun w => by kernel_rfl, fun w => by kernel_rfl⟩
instance : TInfo PP 57 0 := ⟨fun w => ⟨Tryz.t57, by rw [PP_def]; exact Tryz.typeInfo57 w, rfl⟩⟩
instance : TZero PP 57 [] := ⟨fun w => ⟨.agg #[], by kernel_rfl, by kernel_rfl⟩⟩
instance : TZeroV PP 57 (.agg #[]) := ⟨fun w => by kernel_rfl⟩
instance : TStruct PP 57 [] [] := ⟨⟨_, by rw [PP_def]; exact Tryz.underlying57, fun w => by kernel_rfl⟩, fun w => ⟨.agg #[], by kernel_rfl, by kernel_rfl⟩⟩
instance : TShape PP 58 false 1 := ⟨fun w => by kernel_rfl, fun w => by kernel_rfl⟩
instance : TInfo PP 58 8 := ⟨fun w => ⟨Tryz.t58, by rw [PP_def]; exact Tryz.typeInfo58 w, rfl⟩⟩
instance : TZero PP 58 [.nilFunc] := ⟨fun w => ⟨.nilFunc, by kernel_rfl, by kernel_rfl⟩⟩
instance : TZeroV PP 58 (.nilFunc) := ⟨fun w => by kernel_rfl⟩
instance : TShape PP 59 false 1 := ⟨fun w => by kernel_rfl, fun w => by kernel_rfl⟩
instance : TInfo PP 59 8 := ⟨fun w => ⟨Tryz.t59, by rw [PP_def]; exact Tryz.typeInfo59 w, rfl⟩⟩
instance : TZero PP 59 [.int .u64 0] := ⟨fun w => ⟨.int .u64 0, by kernel_rfl, by kernel_rfl⟩⟩
instance : TZeroV PP 59 (.int .u64 0) := ⟨fun w => by kernel_rfl⟩
instance : TUnd PP 59 (.int (.u64)) := ⟨by kernel_rfl⟩
instance : TShape PP 60 false 1 := ⟨fun w => by kernel_rfl, fun w => by kernel_rfl⟩
instance : TInfo PP 60 8 := ⟨fun w => ⟨Tryz.t60, by rw [PP_def]; exact Tryz.typeInfo60 w, rfl⟩⟩
instance : TZero PP 60 [.nilFunc] := ⟨fun w => ⟨.nilFunc, by kernel_rfl, by kernel_rfl⟩⟩
instance : TZeroV PP 60 (.nilFunc) := ⟨fun w => by kernel_rfl⟩
instance : TShape PP 61 false 1 := ⟨fun w => by kernel_rfl, fun w => by kernel_rfl⟩
instance : TInfo PP 61 8 := ⟨fun w => ⟨Tryz.t61, by rw [PP_def]; exact Tryz.typeInfo61 w, rfl⟩⟩
instance : TZero PP 61 [.nilFunc] := ⟨fun w => ⟨.nilFunc, by kernel_rfl, by kernel_rfl⟩⟩
instance : TZeroV PP 61 (.nilFunc) := ⟨fun w => by kernel_rfl⟩
instance : TShape PP 62 false 1 := ⟨fun w => by kernel_rfl, fun w => by kernel_rfl⟩
instance : TInfo PP 62 24 := ⟨fun w => ⟨Tryz.t62, by rw [PP_def]; exact Tryz.typeInfo62 w, rfl⟩⟩
instance : TZero PP 62 [.slice none 0 0] := ⟨fun w => ⟨.slice none 0 0, by kernel_rfl, by kernel_rfl⟩⟩
instance : TZeroV PP 62 (.slice none 0 0) := ⟨fun w => by kernel_rfl⟩
instance : TUnd PP 62 (.slice 2) := ⟨by kernel_rfl⟩
instance : TShape PP 63 true 3 := ⟨fun w => by kernel_rfl, fun w => by kernel_rfl⟩
instance : TInfo PP 63 24 := ⟨fun w => ⟨Tryz.t63, by rw [PP_def]; exact Tryz.typeInfo63 w, rfl⟩⟩
instance : TZero PP 63 [.int .u8 0, .int .i64 0, .int .i64 0] := ⟨fun w => ⟨.agg #[.int .u8 0, .int .i64 0, .int .i64 0], by kernel_rfl, by kernel_rfl⟩⟩
instance : TZeroV PP 63 (.agg #[.int .u8 0, .int .i64 0, .int .i64 0]) := ⟨fun w => by kernel_rfl⟩
instance : TStruct PP 63 [.int .u8 0, .int .i64 0, .int .i64 0] [(0, 1), (1, 1), (2, 1)] := ⟨⟨_, by rw [PP_def]; exact Tryz.underlying63, fun w => by kernel_rfl⟩, fun w => ⟨.agg #[.int .u8 0, .int .i64 0, .int .i64 0], by kernel_rfl, by kernel_rfl⟩⟩
instance : TField PP 63 0 0 := ⟨fun b o w => by kernel_rfl⟩
instance : TPart PP 63 0 false 0 1 := part_lemma (ft := 5) (by rw [PP_def]; exact Tryz.underlying63) rfl rfl rfl
instance : TField PP 63 1 1 := ⟨fun b o w => by kernel_rfl⟩
instance : TPart PP 63 1 false 1 1 := part_lemma (ft := 2) (by rw [PP_def]; exact Tryz.underlying63) rfl rfl rfl
instance : TField PP 63 2 2 := ⟨fun b o w => by kernel_rfl⟩
instance : TPart PP 63 2 false 2 1 := part_lemma (ft := 2) (by rw [PP_def]; exact Tryz.underlying63) rfl rfl rfl
instance : TShape PP 64 true 3 := ⟨fun w => by kernel_rfl, fun w => by kernel_rfl⟩
instance : TInfo PP 64 24 := ⟨fun w => ⟨Tryz.t64, by rw [PP_def]; exact Tryz.typeInfo64 w, rfl⟩⟩
instance : TZero PP 64 [.int .u8 0, .int .i64 0, .int .i64 0] := ⟨fun w => ⟨.agg #[.int .u8 0, .int .i64 0, .int .i64 0], by kernel_rfl, by kernel_rfl⟩⟩
instance : TZeroV PP 64 (.agg #[.int .u8 0, .int .i64 0, .int .i64 0]) := ⟨fun w => by kernel_rfl⟩
instance : TStruct PP 64 [.int .u8 0, .int .i64 0, .int .i64 0] [(0, 1), (1, 1), (2, 1)] := ⟨⟨_, by rw [PP_def]; exact Tryz.underlying64, fun w => by kernel_rfl⟩, fun w => ⟨.agg #[.int .u8 0, .int .i64 0, .int .i64 0], by kernel_rfl, by kernel_rfl⟩⟩
instance : TField PP 64 0 0 := ⟨fun b o w => by kernel_rfl⟩
instance : TPart PP 64 0 false 0 1 := part_lemma (ft := 5) (by rw [PP_def]; exact Tryz.underlying64) rfl rfl rfl
instance : TField PP 64 1 1 := ⟨fun b o w => by kernel_rfl⟩
instance : TPart PP 64 1 false 1 1 := part_lemma (ft := 2) (by rw [PP_def]; exact Tryz.underlying64) rfl rfl rfl
instance : TField PP 64 2 2 := ⟨fun b o w => by kernel_rfl⟩
instance : TPart PP 64 2 false 2 1 := part_lemma (ft := 2) (by rw [PP_def]; exact Tryz.underlying64) rfl rfl rfl
instance : TShape PP 65 false 1 := ⟨fun w => by kernel_rfl, fun w => by kernel_rfl⟩
instance : TInfo PP 65 8 := ⟨fun w => ⟨Tryz.t65, by rw [PP_def]; exact Tryz.typeInfo65 w, rfl⟩⟩
instance : TZero PP 65 [.nilFunc] := ⟨fun w => ⟨.nilFunc, by kernel_rfl, by kernel_rfl⟩⟩
instance : TZeroV PP 65 (.nilFunc) := ⟨fun w => by kernel_rfl⟩
instance : TShape PP 66 false 1 := ⟨fun w => by kernel_rfl, fun w => by kernel_rfl⟩
instance : TInfo PP 66 4 := ⟨fun w => ⟨Tryz.t66, by rw [PP_def]; exact Tryz.typeInfo66 w, rfl⟩⟩
instance : TZero PP 66 [.int .u32 0] := ⟨fun w => ⟨.int .u32 0, by kernel_rfl, by kernel_rfl⟩⟩
instance : TZeroV PP 66 (.int .u32 0) := ⟨fun w => by kernel_rfl⟩
instance : TUnd PP 66 (.int (.u32)) := ⟨by kernel_rfl⟩
instance : TShape PP 67 true 3 := ⟨fun w => by kernel_rfl, fun w => by kernel_rfl⟩
instance : TInfo PP 67 16 := ⟨fun w => ⟨Tryz.t67, by rw [PP_def]; exact Tryz.typeInfo67 w, rfl⟩⟩
instance : TZero PP 67 [.int .i64 0, .int .u32 0, .int .u32 0] := ⟨fun w => ⟨.agg #[.int .i64 0, .int .u32 0, .int .u32 0], by kernel_rfl, by kernel_rfl⟩⟩
instance : TZeroV PP 67 (.agg #[.int .i64 0, .int .u32 0, .int .u32 0]) := ⟨fun w => by kernel_rfl⟩
instance : TStruct PP 67 [.int .i64 0, .int .u32 0, .int .u32 0] [(0, 1), (1, 1), (2, 1)] := ⟨⟨_, by rw [PP_def]; exact Tryz.underlying67, fun w => by kernel_rfl⟩, fun w => ⟨.agg #[.int .i64 0, .int .u32 0, .int .u32 0], by kernel_rfl, by kernel_rfl⟩⟩
instance : TField PP 67 0 0 := ⟨fun b o w => by kernel_rfl⟩
instance : TPart PP 67 0 false 0 1 := part_lemma (ft := 2) (by rw [PP_def]; exact Tryz.underlying67) rfl rfl rfl
instance : TField PP 67 1 1 := ⟨fun b o w => by kernel_rfl⟩
instance : TPart PP 67 1 false 1 1 := part_lemma (ft := 66) (by rw [PP_def]; exact Tryz.underlying67) rfl rfl rfl
instance : TField PP 67 2 2 := ⟨fun b o w => by kernel_rfl⟩
instance : TPart PP 67 2 false 2 1 := part_lemma (ft := 66) (by rw [PP_def]; exact Tryz.underlying67) rfl rfl rfl
instance : TShape PP 68 true 3 := ⟨fun w => by kernel_rfl, fun w => by kernel_rfl⟩
instance : TInfo PP 68 16 := ⟨fun w => ⟨Tryz.t68, by rw [PP_def]; exact Tryz.typeInfo68 w, rfl⟩⟩
instance : TZero PP 68 [.int .i64 0, .int .u32 0, .int .u32 0] := ⟨fun w => ⟨.agg #[.int .i64 0, .int .u32 0, .int .u32 0], by kernel_rfl, by kernel_rfl⟩⟩
instance : TZeroV PP 68 (.agg #[.int .i64 0, .int .u32 0, .int .u32 0]) := ⟨fun w => by kernel_rfl⟩
instance : TStruct PP 68 [.int .i64 0, .int .u32 0, .int .u32 0] [(0, 1), (1, 1), (2, 1)] := ⟨⟨_, by rw [PP_def]; exact Tryz.underlying68, fun w => by kernel_rfl⟩, fun w => ⟨.agg #[.int .i64 0, .int .u32 0, .int .u32 0], by kernel_rfl, by kernel_rfl⟩⟩
instance : TField PP 68 0 0 := ⟨fun b o w => by kernel_rfl⟩
instance : TPart PP 68 0 false 0 1 := part_lemma (ft := 2) (by rw [PP_def]; exact Tryz.underlying68) rfl rfl rfl
instance : TField PP 68 1 1 := ⟨fun b o w => by kernel_rfl⟩
instance : TPart PP 68 1 false 1 1 := part_lemma (ft := 66) (by rw [PP_def]; exact Tryz.underlying68) rfl rfl rfl
instance : TField PP 68 2 2 := ⟨fun b o w => by kernel_rfl⟩
instance : TPart PP 68 2 false 2 1 := part_lemma (ft := 66) (by rw [PP_def]; exact Tryz.underlying68) rfl rfl rfl
instance : TShape PP 69 false 1 := ⟨fun w => by kernel_rfl, fun w => by kernel_rfl⟩
instance : TInfo PP 69 8 := ⟨fun w => ⟨Tryz.t69, by rw [PP_def]; exact Tryz.typeInfo69 w, rfl⟩⟩
instance : TZero PP 69 [.int .i64 0] := ⟨fun w => ⟨.int .i64 0, by kernel_rfl, by kernel_rfl⟩⟩
instance : TZeroV PP 69 (.int .i64 0) := ⟨fun w => by kernel_rfl⟩
instance : TUnd PP 69 (.int (.i64)) := ⟨by kernel_rfl⟩
instance : TShape PP 70 false 1 := ⟨fun w => by kernel_rfl, fun w => by kernel_rfl⟩
instance : TInfo PP 70 24 := ⟨fun w => ⟨Tryz.t70, by rw [PP_def]; exact Tryz.typeInfo70 w, rfl⟩⟩
instance : TZero PP 70 [.slice none 0 0] := ⟨fun w => ⟨.slice none 0 0, by kernel_rfl, by kernel_rfl⟩⟩
instance : TZeroV PP 70 (.slice none 0 0) := ⟨fun w => by kernel_rfl⟩
instance : TUnd PP 70 (.slice 107) := ⟨by kernel_rfl⟩
instance : TShape PP 72 false 1 := ⟨fun w => by kernel_rfl, fun w => by kernel_rfl⟩
instance : TInfo PP 72 8 := ⟨fun w => ⟨Tryz.t72, by rw [PP_def]; exact Tryz.typeInfo72 w, rfl⟩⟩
instance : TZero PP 72 [.nilFunc] := ⟨fun w => ⟨.nilFunc, by kernel_rfl, by kernel_rfl⟩⟩
instance : TZeroV PP 72 (.nilFunc) := ⟨fun w => by kernel_rfl⟩
instance : TShape PP 73 false 1 := ⟨fun w => by kernel_rfl, fun w => by kernel_rfl⟩
instance : TInfo PP 73 8 := ⟨fun w => ⟨Tryz.t73, by rw [PP_def]; exact Tryz.typeInfo73 w, rfl⟩⟩
instance : TZero PP 73 [.pointer none] := ⟨fun w => ⟨.pointer none, by kernel_rfl, by kernel_rfl⟩⟩
instance : TZeroV PP 73 (.pointer none) := ⟨fun w => by kernel_rfl⟩
instance : TUnd PP 73 (.pointer 156) := ⟨by kernel_rfl⟩
instance : TShape PP 75 false 1 := ⟨fun w => by kernel_rfl, fun w => by kernel_rfl⟩
instance : TInfo PP 75 8 := ⟨fun w => ⟨Tryz.t75, by rw [PP_def]; exact Tryz.typeInfo75 w, rfl⟩⟩
instance : TZero PP 75 [.nilFunc] := ⟨fun w => ⟨.nilFunc, by kernel_rfl, by kernel_rfl⟩⟩
instance : TZeroV PP 75 (.nilFunc) := ⟨fun w => by kernel_rfl⟩
instance : TShape PP 76 false 1 := ⟨fun w => by kernel_rfl, fun w => by kernel_rfl⟩
instance : TInfo PP 76 8 := ⟨fun w => ⟨Tryz.t76, by rw [PP_def]; exact Tryz.typeInfo76 w, rfl⟩⟩
instance : TZero PP 76 [.nilFunc] := ⟨fun w => ⟨.nilFunc, by kernel_rfl, by kernel_rfl⟩⟩
instance : TZeroV PP 76 (.nilFunc) := ⟨fun w => by kernel_rfl⟩
instance : TShape PP 77 false 1 := ⟨fun w => by kernel_rfl, fun w => by kernel_rfl⟩
instance : TInfo PP 77 8 := ⟨fun w => ⟨Tryz.t77, by rw [PP_def]; exact Tryz.typeInfo77 w, rfl⟩⟩
instance : TZero PP 77 [.nilFunc] := ⟨fun w => ⟨.nilFunc, by kernel_rfl, by kernel_rfl⟩⟩
instance : TZeroV PP 77 (.nilFunc) := ⟨fun w => by kernel_rfl⟩
instance : TShape PP 78 false 1 := ⟨fun w => by kernel_rfl, fun w => by kernel_rfl⟩
instance : TInfo PP 78 8 := ⟨fun w => ⟨Tryz.t78, by rw [PP_def]; exact Tryz.typeInfo78 w, rfl⟩⟩
instance : TZero PP 78 [.nilFunc] := ⟨fun w => ⟨.nilFunc, by kernel_rfl, by kernel_rfl⟩⟩
instance : TZeroV PP 78 (.nilFunc) := ⟨fun w => by kernel_rfl⟩
instance : TShape PP 80 false 1 := ⟨fun w => by kernel_rfl, fun w => by kernel_rfl⟩
instance : TInfo PP 80 8 := ⟨fun w => ⟨Tryz.t80, by rw [PP_def]; exact Tryz.typeInfo80 w, rfl⟩⟩
instance : TZero PP 80 [.nilFunc] := ⟨fun w => ⟨.nilFunc, by kernel_rfl, by kernel_rfl⟩⟩
instance : TZeroV PP 80 (.nilFunc) := ⟨fun w => by kernel_rfl⟩
instance : TShape PP 81 false 1 := ⟨fun w => by kernel_rfl, fun w => by kernel_rfl⟩
instance : TInfo PP 81 8 := ⟨fun w => ⟨Tryz.t81, by rw [PP_def]; exact Tryz.typeInfo81 w, rfl⟩⟩
instance : TZero PP 81 [.nilFunc] := ⟨fun w => ⟨.nilFunc, by kernel_rfl, by kernel_rfl⟩⟩
instance : TZeroV PP 81 (.nilFunc) := ⟨fun w => by kernel_rfl⟩
instance : TShape PP 82 false 1 := ⟨fun w => by kernel_rfl, fun w => by kernel_rfl⟩
instance : TInfo PP 82 8 := ⟨fun w => ⟨Tryz.t82, by rw [PP_def]; exact Tryz.typeInfo82 w, rfl⟩⟩
instance : TZero PP 82 [.nilFunc] := ⟨fun w => ⟨.nilFunc, by kernel_rfl, by kernel_rfl⟩⟩
instance : TZeroV PP 82 (.nilFunc) := ⟨fun w => by kernel_rfl⟩
instance : TShape PP 83 false 1 := ⟨fun w => by kernel_rfl, fun w => by kernel_rfl⟩
instance : TInfo PP 83 8 := ⟨fun w => ⟨Tryz.t83, by rw [PP_def]; exact Tryz.typeInfo83 w, rfl⟩⟩
instance : TZero PP 83 [.nilFunc] := ⟨fun w => ⟨.nilFunc, by kernel_rfl, by kernel_rfl⟩⟩
instance : TZeroV PP 83 (.nilFunc) := ⟨fun w => by kernel_rfl⟩
instance : TShape PP 84 false 1 := ⟨fun w => by kernel_rfl, fun w => by kernel_rfl⟩
instance : TInfo PP 84 8 := ⟨fun w => ⟨Tryz.t84, by rw [PP_def]; exact Tryz.typeInfo84 w, rfl⟩⟩
instance : TZero PP 84 [.map none] := ⟨fun w => ⟨.map none, by kernel_rfl, by kernel_rfl⟩⟩
instance : TZeroV PP 84 (.map none) := ⟨fun w => by kernel_rfl⟩
instance : TUnd PP 84 (.map 2 2) := ⟨by kernel_rfl⟩
instance : TShape PP 85 false 1 := ⟨fun w => by kernel_rfl, fun w => by kernel_rfl⟩
instance : TInfo PP 85 8 := ⟨fun w => ⟨Tryz.t85, by rw [PP_def]; exact Tryz.typeInfo85 w, rfl⟩⟩
instance : TZero PP 85 [.nilFunc] := ⟨fun w => ⟨.nilFunc, by kernel_rfl, by kernel_rfl⟩⟩
instance : TZeroV PP 85 (.nilFunc) := ⟨fun w => by kernel_rfl⟩
instance : TShape PP 87 false 1 := ⟨fun w => by kernel_rfl, fun w => by kernel_rfl⟩
instance : TInfo PP 87 8 := ⟨fun w => ⟨Tryz.t87, by rw [PP_def]; exact Tryz.typeInfo87 w, rfl⟩⟩
instance : TZero PP 87 [.nilFunc] := ⟨fun w => ⟨.nilFunc, by kernel_rfl, by kernel_rfl⟩⟩
instance : TZeroV PP 87 (.nilFunc) := ⟨fun w => by kernel_rfl⟩
instance : TShape PP 88 false 1 := ⟨fun w => by kernel_rfl, fun w => by kernel_rfl⟩
instance : TInfo PP 88 8 := ⟨fun w => ⟨Tryz.t88, by rw [PP_def]; exact Tryz.typeInfo88 w, rfl⟩⟩
instance : TZero PP 88 [.nilFunc] := ⟨fun w => ⟨.nilFunc, by kernel_rfl, by kernel_rfl⟩⟩
instance : TZeroV PP 88 (.nilFunc) := ⟨fun w => by kernel_rfl⟩
instance : TShape PP 89 false 1 := ⟨fun w => by kernel_rfl, fun w => by kernel_rfl⟩
instance : TInfo PP 89 24 := ⟨fun w => ⟨Tryz.t89, by rw [PP_def]; exact Tryz.typeInfo89 w, rfl⟩⟩
instance : TZero PP 89 [.slice none 0 0] := ⟨fun w => ⟨.slice none 0 0, by kernel_rfl, by kernel_rfl⟩⟩
instance : TZeroV PP 89 (.slice none 0 0) := ⟨fun w => by kernel_rfl⟩
instance : TUnd PP 89 (.slice 3) := ⟨by kernel_rfl⟩
instance : TShape PP 90 false 1 := ⟨fun w => by kernel_rfl, fun w => by kernel_rfl⟩
instance : TInfo PP 90 8 := ⟨fun w => ⟨Tryz.t90, by rw [PP_def]; exact Tryz.typeInfo90 w, rfl⟩⟩
instance : TZero PP 90 [.nilFunc] := ⟨fun w => ⟨.nilFunc, by kernel_rfl, by kernel_rfl⟩⟩
instance : TZeroV PP 90 (.nilFunc) := ⟨fun w => by kernel_rfl⟩
instance : TShape PP 91 false 1 := ⟨fun w => by kernel_rfl, fun w => by kernel_rfl⟩
instance : TInfo PP 91 8 := ⟨fun w => ⟨Tryz.t91, by rw [PP_def]; exact Tryz.typeInfo91 w, rfl⟩⟩
instance : TZero PP 91 [.nilFunc] := ⟨fun w => ⟨.nilFunc, by kernel_rfl, by kernel_rfl⟩⟩
instance : TZeroV PP 91 (.nilFunc) := ⟨fun w => by kernel_rfl⟩
instance : TShape PP 92 false 1 := ⟨fun w => by kernel_rfl, fun w => by kernel_rfl⟩
instance : TInfo PP 92 8 := ⟨fun w => ⟨Tryz.t92, by rw [PP_def]; exact Tryz.typeInfo92 w, rfl⟩⟩
instance : TZero PP 92 [.nilFunc] := ⟨fun w => ⟨.nilFunc, by kernel_rfl, by kernel_rfl⟩⟩
instance : TZeroV PP 92 (.nilFunc) := ⟨fun w => by kernel_rfl⟩
instance : TShape PP 93 true 3 := ⟨fun w => by kernel_rfl, fun w => by kernel_rfl⟩
instance : TInfo PP 93 24 := ⟨fun w => ⟨Tryz.t93, by rw [PP_def]; exact Tryz.typeInfo93 w, rfl⟩⟩
instance : TZero PP 93 [.int .i64 0, .int .u64 0, .int .i64 0] := ⟨fun w => ⟨.agg #[.int .i64 0, .int .u64 0, .int .i64 0], by kernel_rfl, by kernel_rfl⟩⟩
instance : TZeroV PP 93 (.agg #[.int .i64 0, .int .u64 0, .int .i64 0]) := ⟨fun w => by kernel_rfl⟩
instance : TStruct PP 93 [.int .i64 0, .int .u64 0, .int .i64 0] [(0, 1), (1, 1), (2, 1)] := ⟨⟨_, by rw [PP_def]; exact Tryz.underlying93, fun w => by kernel_rfl⟩, fun w => ⟨.agg #[.int .i64 0, .int .u64 0, .int .i64 0], by kernel_rfl, by kernel_rfl⟩⟩
instance : TField PP 93 0 0 := ⟨fun b o w => by kernel_rfl⟩
instance : TPart PP 93 0 false 0 1 := part_lemma (ft := 2) (by rw [PP_def]; exact Tryz.underlying93) rfl rfl rfl
instance : TField PP 93 1 1 := ⟨fun b o w => by kernel_rfl⟩
instance : TPart PP 93 1 false 1 1 := part_lemma (ft := 59) (by rw [PP_def]; exact Tryz.underlying93) rfl rfl rfl
instance : TField PP 93 2 2 := ⟨fun b o w => by kernel_rfl⟩
instance : TPart PP 93 2 false 2 1 := part_lemma (ft := 2) (by rw [PP_def]; exact Tryz.underlying93) rfl rfl rfl
instance : TShape PP 94 true 3 := ⟨fun w => by kernel_rfl, fun w => by kernel_rfl⟩
instance : TInfo PP 94 24 := ⟨fun w => ⟨Tryz.t94, by rw [PP_def]; exact Tryz.typeInfo94 w, rfl⟩⟩
instance : TZero PP 94 [.int .i64 0, .int .u64 0, .int .i64 0] := ⟨fun w => ⟨.agg #[.int .i64 0, .int .u64 0, .int .i64 0], by kernel_rfl, by kernel_rfl⟩⟩
instance : TZeroV PP 94 (.agg #[.int .i64 0, .int .u64 0, .int .i64 0]) := ⟨fun w => by kernel_rfl⟩
instance : TStruct PP 94 [.int .i64 0, .int .u64 0, .int .i64 0] [(0, 1), (1, 1), (2, 1)] := ⟨⟨_, by rw [PP_def]; exact Tryz.underlying94, fun w => by kernel_rfl⟩, fun w => ⟨.agg #[.int .i64 0, .int .u64 0, .int .i64 0], by kernel_rfl, by kernel_rfl⟩⟩
instance : TField PP 94 0 0 := ⟨fun b o w => by kernel_rfl⟩
instance : TPart PP 94 0 false 0 1 := part_lemma (ft := 2) (by rw [PP_def]; exact Tryz.underlying94) rfl rfl rfl
instance : TField PP 94 1 1 := ⟨fun b o w => by kernel_rfl⟩
instance : TPart PP 94 1 false 1 1 := part_lemma (ft := 59) (by rw [PP_def]; exact Tryz.underlying94) rfl rfl rfl
instance : TField PP 94 2 2 := ⟨fun b o w => by kernel_rfl⟩
instance : TPart PP 94 2 false 2 1 := part_lemma (ft := 2) (by rw [PP_def]; exact Tryz.underlying94) rfl rfl rfl
instance : TShape PP 95 false 1 := ⟨fun w => by kernel_rfl, fun w => by kernel_rfl⟩
instance : TInfo PP 95 8 := ⟨fun w => ⟨Tryz.t95, by rw [PP_def]; exact Tryz.typeInfo95 w, rfl⟩⟩
instance : TZero PP 95 [.nilFunc] := ⟨fun w => ⟨.nilFunc, by kernel_rfl, by kernel_rfl⟩⟩
instance : TZeroV PP 95 (.nilFunc) := ⟨fun w => by kernel_rfl⟩
instance : TShape PP 96 false 1 := ⟨fun w => by kernel_rfl, fun w => by kernel_rfl⟩
instance : TInfo PP 96 8 := ⟨fun w => ⟨Tryz.t96, by rw [PP_def]; exact Tryz.typeInfo96 w, rfl⟩⟩
instance : TZero PP 96 [.nilFunc] := ⟨fun w => ⟨.nilFunc, by kernel_rfl, by kernel_rfl⟩⟩
instance : TZeroV PP 96 (.nilFunc) := ⟨fun w => by kernel_rfl⟩
instance : TShape PP 97 false 1 := ⟨fun w => by kernel_rfl, fun w => by kernel_rfl⟩
instance : TInfo PP 97 8 := ⟨fun w => ⟨Tryz.t97, by rw [PP_def]; exact Tryz.typeInfo97 w, rfl⟩⟩
instance : TZero PP 97 [.nilFunc] := ⟨fun w => ⟨.nilFunc, by kernel_rfl, by kernel_rfl⟩⟩
instance : TZeroV PP 97 (.nilFunc) := ⟨fun w => by kernel_rfl⟩
instance : TShape PP 98 true 3 := ⟨fun w => by kernel_rfl, fun w => by kernel_rfl⟩
instance : TInfo PP 98 16 := ⟨fun w => ⟨Tryz.t98, by rw [PP_def]; exact Tryz.typeInfo98 w, rfl⟩⟩
instance : TZero PP 98 [.int .u8 0, .int .u8 0, .int .i64 0] := ⟨fun w => ⟨.agg #[.int .u8 0, .int .u8 0, .int .i64 0], by kernel_rfl, by kernel_rfl⟩⟩
instance : TZeroV PP 98 (.agg #[.int .u8 0, .int .u8 0, .int .i64 0]) := ⟨fun w => by kernel_rfl⟩
instance : TStruct PP 98 [.int .u8 0, .int .u8 0, .int .i64 0] [(0, 1), (1, 1), (2, 1)] := ⟨⟨_, by rw [PP_def]; exact Tryz.underlying98, fun w => by kernel_rfl⟩, fun w => ⟨.agg #[.int .u8 0, .int .u8 0, .int .i64 0], by kernel_rfl, by kernel_rfl⟩⟩
instance : TField PP 98 0 0 := ⟨fun b o w => by kernel_rfl⟩
instance : TPart PP 98 0 false 0 1 := part_lemma (ft := 5) (by rw [PP_def]; exact Tryz.underlying98) rfl rfl rfl
instance : TField PP 98 1 1 := ⟨fun b o w => by kernel_rfl⟩
instance : TPart PP 98 1 true 1 1 := part_lemma (ft := 50) (by rw [PP_def]; exact Tryz.underlying98) rfl rfl rfl
instance : TField PP 98 2 2 := ⟨fun b o w => by kernel_rfl⟩
instance : TPart PP 98 2 false 2 1 := part_lemma (ft := 2) (by rw [PP_def]; exact Tryz.underlying98) rfl rfl rfl
instance : TShape PP 99 true 3 := ⟨fun w => by kernel_rfl, fun w => by kernel_rfl⟩
instance : TInfo PP 99 16 := ⟨fun w => ⟨Tryz.t99, by rw [PP_def]; exact Tryz.typeInfo99 w, rfl⟩⟩
instance : TZero PP 99 [.int .u8 0, .int .u8 0, .int .i64 0] := ⟨fun w => ⟨.agg #[.int .u8 0, .int .u8 0, .int .i64 0], by kernel_rfl, by kernel_rfl⟩⟩
instance : TZeroV PP 99 (.agg #[.int .u8 0, .int .u8 0, .int .i64 0]) := ⟨fun w => by kernel_rfl⟩
instance : TStruct PP 99 [.int .u8 0, .int .u8 0, .int .i64 0] [(0, 1), (1, 1), (2, 1)] := ⟨⟨_, by rw [PP_def]; exact Tryz.underlying99, fun w => by kernel_rfl⟩, fun w => ⟨.agg #[.int .u8 0, .int .u8 0, .int .i64 0], by kernel_rfl, by kernel_rfl⟩⟩
instance : TField PP 99 0 0 := ⟨fun b o w => by kernel_rfl⟩
instance : TPart PP 99 0 false 0 1 := part_lemma (ft := 5) (by rw [PP_def]; exact Tryz.underlying99) rfl rfl rfl
instance : TField PP 99 1 1 := ⟨fun b o w => by kernel_rfl⟩
instance : TPart PP 99 1 true 1 1 := part_lemma (ft := 50) (by rw [PP_def]; exact Tryz.underlying99) rfl rfl rfl
instance : TField PP 99 2 2 := ⟨fun b o w => by kernel_rfl⟩
instance : TPart PP 99 2 false 2 1 := part_lemma (ft := 2) (by rw [PP_def]; exact Tryz.underlying99) rfl rfl rfl
instance : TShape PP 100 false 1 := ⟨fun w => by kernel_rfl, fun w => by kernel_rfl⟩
instance : TInfo PP 100 8 := ⟨fun w => ⟨Tryz.t100, by rw [PP_def]; exact Tryz.typeInfo100 w, rfl⟩⟩
instance : TZero PP 100 [.nilFunc] := ⟨fun w => ⟨.nilFunc, by kernel_rfl, by kernel_rfl⟩⟩
instance : TZeroV PP 100 (.nilFunc) := ⟨fun w => by kernel_rfl⟩
instance : TShape PP 101 false 1 := ⟨fun w => by kernel_rfl, fun w => by kernel_rfl⟩
instance : TInfo PP 101 8 := ⟨fun w => ⟨Tryz.t101, by rw [PP_def]; exact Tryz.typeInfo101 w, rfl⟩⟩
instance : TZero PP 101 [.nilFunc] := ⟨fun w => ⟨.nilFunc, by kernel_rfl, by kernel_rfl⟩⟩
instance : TZeroV PP 101 (.nilFunc) := ⟨fun w => by kernel_rfl⟩
instance : TShape PP 102 false 1 := ⟨fun w => by kernel_rfl, fun w => by kernel_rfl⟩
instance : TInfo PP 102 8 := ⟨fun w => ⟨Tryz.t102, by rw [PP_def]; exact Tryz.typeInfo102 w, rfl⟩⟩
instance : TZero PP 102 [.int .u64 0] := ⟨fun w => ⟨.int .u64 0, by kernel_rfl, by kernel_rfl⟩⟩
instance : TZeroV PP 102 (.int .u64 0) := ⟨fun w => by kernel_rfl⟩
instance : TUnd PP 102 (.int (.u64)) := ⟨by kernel_rfl⟩
instance : TShape PP 103 false 1 := ⟨fun w => by kernel_rfl, fun w => by kernel_rfl⟩
instance : TInfo PP 103 8 := ⟨fun w => ⟨Tryz.t103, by rw [PP_def]; exact Tryz.typeInfo103 w, rfl⟩⟩
instance : TZero PP 103 [.nilFunc] := ⟨fun w => ⟨.nilFunc, by kernel_rfl, by kernel_rfl⟩⟩
instance : TZeroV PP 103 (.nilFunc) := ⟨fun w => by kernel_rfl⟩
instance : TShape PP 105 false 1 := ⟨fun w => by kernel_rfl, fun w => by kernel_rfl⟩
instance : TInfo PP 105 8 := ⟨fun w => ⟨Tryz.t105, by rw [PP_def]; exact Tryz.typeInfo105 w, rfl⟩⟩
instance : TZero PP 105 [.nilFunc] := ⟨fun w => ⟨.nilFunc, by kernel_rfl, by kernel_rfl⟩⟩
instance : TZeroV PP 105 (.nilFunc) := ⟨fun w => by kernel_rfl⟩
instance : TShape PP 106 true 6 := ⟨fun w => by kernel_rfl, fun w => by kernel_rfl⟩
instance : TInfo PP 106 40 := ⟨fun w => ⟨Tryz.t106, by rw [PP_def]; exact Tryz.typeInfo106 w, rfl⟩⟩
instance : TZero PP 106 [.int .i64 0, .int .i64 0, .int .u32 0, .int .u32 0, .int .i64 0, .bool false] := ⟨fun w => ⟨.agg #[.int .i64 0, .int .i64 0, .int .u32 0, .int .u32 0, .int .i64 0, .bool false], by kernel_rfl, by kernel_rfl⟩⟩
instance : TZeroV PP 106 (.agg #[.int .i64 0, .int .i64 0, .int .u32 0, .int .u32 0, .int .i64 0, .bool false]) := ⟨fun w => by kernel_rfl⟩
instance : TStruct PP 106 [.int .i64 0, .int .i64 0, .int .u32 0, .int .u32 0, .int .i64 0, .bool false] [(0, 1), (1, 3), (4, 1), (5, 1)] := ⟨⟨_, by rw [PP_def]; exact Tryz.underlying106, fun w => by kernel_rfl⟩, fun w => ⟨.agg #[.int .i64 0, .int .i64 0, .int .u32 0, .int .u32 0, .int .i64 0, .bool false], by kernel_rfl, by kernel_rfl⟩⟩
instance : TField PP 106 0 0 := ⟨fun b o w => by kernel_rfl⟩
instance : TPart PP 106 0 false 0 1 := part_lemma (ft := 28) (by rw [PP_def]; exact Tryz.underlying106) rfl rfl rfl
instance : TField PP 106 1 1 := ⟨fun b o w => by kernel_rfl⟩
instance : TPart PP 106 1 true 1 3 := part_lemma (ft := 68) (by rw [PP_def]; exact Tryz.underlying106) rfl rfl rfl
instance : TField PP 106 2 4 := ⟨fun b o w => by kernel_rfl⟩
instance : TPart PP 106 2 false 4 1 := part_lemma (ft := 2) (by rw [PP_def]; exact Tryz.underlying106) rfl rfl rfl
instance : TField PP 106 3 5 := ⟨fun b o w => by kernel_rfl⟩
instance : TPart PP 106 3 false 5 1 := part_lemma (ft := 4) (by rw [PP_def]; exact Tryz.underlying106) rfl rfl rfl
instance : TShape PP 107 true 6 := ⟨fun w => by kernel_rfl, fun w => by kernel_rfl⟩
instance : TInfo PP 107 40 := ⟨fun w => ⟨Tryz.t107, by rw [PP_def]; exact Tryz.typeInfo107 w, rfl⟩⟩
instance : TZero PP 107 [.int .i64 0, .int .i64 0, .int .u32 0, .int .u32 0, .int .i64 0, .bool false] := ⟨fun w => ⟨.agg #[.int .i64 0, .int .i64 0, .int .u32 0, .int .u32 0, .int .i64 0, .bool false], by kernel_rfl, by kernel_rfl⟩⟩
instance : TZeroV PP 107 (.agg #[.int .i64 0, .int .i64 0, .int .u32 0, .int .u32 0, .int .i64 0, .bool false]) := ⟨fun w => by kernel_rfl⟩
instance : TStruct PP 107 [.int .i64 0, .int .i64 0, .int .u32 0, .int .u32 0, .int .i64 0, .bool false] [(0, 1), (1, 3), (4, 1), (5, 1)] := ⟨⟨_, by rw [PP_def]; exact Tryz.underlying107, fun w => by kernel_rfl⟩, fun w => ⟨.agg #[.int .i64 0, .int .i64 0, .int .u32 0, .int .u32 0, .int .i64 0, .bool false], by kernel_rfl, by kernel_rfl⟩⟩
instance : TField PP 107 0 0 := ⟨fun b o w => by kernel_rfl⟩
instance : TPart PP 107 0 false 0 1 := part_lemma (ft := 28) (by rw [PP_def]; exact Tryz.underlying107) rfl rfl rfl
instance : TField PP 107 1 1 := ⟨fun b o w => by kernel_rfl⟩
instance : TPart PP 107 1 true 1 3 := part_lemma (ft := 68) (by rw [PP_def]; exact Tryz.underlying107) rfl rfl rfl
instance : TField PP 107 2 4 := ⟨fun b o w => by kernel_rfl⟩
instance : TPart PP 107 2 false 4 1 := part_lemma (ft := 2) (by rw [PP_def]; exact Tryz.underlying107) rfl rfl rfl
instance : TField PP 107 3 5 := ⟨fun b o w => by kernel_rfl⟩
instance : TPart PP 107 3 false 5 1 := part_lemma (ft := 4) (by rw [PP_def]; exact Tryz.underlying107) rfl rfl rfl
instance : TShape PP 109 false 1 := ⟨fun w => by kernel_rfl, fun w => by kernel_rfl⟩
instance : TInfo PP 109 24 := ⟨fun w => ⟨Tryz.t109, by rw [PP_def]; exact Tryz.typeInfo109 w, rfl⟩⟩
instance : TZero PP 109 [.slice none 0 0] := ⟨fun w => ⟨.slice none 0 0, by kernel_rfl, by kernel_rfl⟩⟩
instance : TZeroV PP 109 (.slice none 0 0) := ⟨fun w => by kernel_rfl⟩
instance : TUnd PP 109 (.slice 28) := ⟨by kernel_rfl⟩
instance : TShape PP 110 false 1 := ⟨fun w => by kernel_rfl, fun w => by kernel_rfl⟩
instance : TInfo PP 110 8 := ⟨fun w => ⟨Tryz.t110, by rw [PP_def]; exact Tryz.typeInfo110 w, rfl⟩⟩
instance : TZero PP 110 [.nilFunc] := ⟨fun w => ⟨.nilFunc, by kernel_rfl, by kernel_rfl⟩⟩
instance : TZeroV PP 110 (.nilFunc) := ⟨fun w => by kernel_rfl⟩
instance : TShape PP 111 false 1 := ⟨fun w => by kernel_rfl, fun w => by kernel_rfl⟩
instance : TInfo PP 111 8 := ⟨fun w => ⟨Tryz.t111, by rw [PP_def]; exact Tryz.typeInfo111 w, rfl⟩⟩
instance : TZero PP 111 [.nilFunc] := ⟨fun w => ⟨.nilFunc, by kernel_rfl, by kernel_rfl⟩⟩
instance : TZeroV PP 111 (.nilFunc) := ⟨fun w => by kernel_rfl⟩
instance : TShape PP 112 false 1 := ⟨fun w => by kernel_rfl, fun w => by kernel_rfl⟩
instance : TInfo PP 112 8 := ⟨fun w => ⟨Tryz.t112, by rw [PP_def]; exact Tryz.typeInfo112 w, rfl⟩⟩
instance : TZero PP 112 [.nilFunc] := ⟨fun w => ⟨.nilFunc, by kernel_rfl, by kernel_rfl⟩⟩
instance : TZeroV PP 112 (.nilFunc) := ⟨fun w => by kernel_rfl⟩
instance : TShape PP 113 false 1 := ⟨fun w => by kernel_rfl, fun w => by kernel_rfl⟩
instance : TInfo PP 113 8 := ⟨fun w => ⟨Tryz.t113, by rw [PP_def]; exact Tryz.typeInfo113 w, rfl⟩⟩
instance : TZero PP 113 [.nilFunc] := ⟨fun w => ⟨.nilFunc, by kernel_rfl, by kernel_rfl⟩⟩
instance : TZeroV PP 113 (.nilFunc) := ⟨fun w => by kernel_rfl⟩
instance : TShape PP 114 true 4 := ⟨fun w => by kernel_rfl, fun w => by kernel_rfl⟩
instance : TInfo PP 114 64 := ⟨fun w => ⟨Tryz.t114, by rw [PP_def]; exact Tryz.typeInfo114 w, rfl⟩⟩
instance : TZero PP 114 [.slice none 0 0, .slice none 0 0, .int .i64 0, .int .i64 0] := ⟨fun w => ⟨.agg #[.slice none 0 0, .slice none 0 0, .int .i64 0, .int .i64 0], by kernel_rfl, by kernel_rfl⟩⟩
instance : TZeroV PP 114 (.agg #[.slice none 0 0, .slice none 0 0, .int .i64 0, .int .i64 0]) := ⟨fun w => by kernel_rfl⟩
instance : TStruct PP 114 [.slice none 0 0, .slice none 0 0, .int .i64 0, .int .i64 0] [(0, 1), (1, 1), (2, 1), (3, 1)] := ⟨⟨_, by rw [PP_def]; exact Tryz.underlying114, fun w => by kernel_rfl⟩, fun w => ⟨.agg #[.slice none 0 0, .slice none 0 0, .int .i64 0, .int .i64 0], by kernel_rfl, by kernel_rfl⟩⟩
instance : TField PP 114 0 0 := ⟨fun b o w => by kernel_rfl⟩
instance : TPart PP 114 0 false 0 1 := part_lemma (ft := 109) (by rw [PP_def]; exact Tryz.underlying114) rfl rfl rfl
instance : TField PP 114 1 1 := ⟨fun b o w => by kernel_rfl⟩
instance : TPart PP 114 1 false 1 1 := part_lemma (ft := 109) (by rw [PP_def]; exact Tryz.underlying114) rfl rfl rfl
instance : TField PP 114 2 2 := ⟨fun b o w => by kernel_rfl⟩
instance : TPart PP 114 2 false 2 1 := part_lemma (ft := 28) (by rw [PP_def]; exact Tryz.underlying114) rfl rfl rfl
instance : TField PP 114 3 3 := ⟨fun b o w => by kernel_rfl⟩
instance : TPart PP 114 3 false 3 1 := part_lemma (ft := 3) (by rw [PP_def]; exact Tryz.underlying114) rfl rfl rfl
instance : TShape PP 115 true 4 := ⟨fun w => by kernel_rfl, fun w => by kernel_rfl⟩
instance : TInfo PP 115 64 := ⟨fun w => ⟨Tryz.t115, by rw [PP_def]; exact Tryz.typeInfo115 w, rfl⟩⟩
instance : TZero PP 115 [.slice none 0 0, .slice none 0 0, .int .i64 0, .int .i64 0] := ⟨fun w => ⟨.agg #[.slice none 0 0, .slice none 0 0, .int .i64 0, .int .i64 0], by kernel_rfl, by kernel_rfl⟩⟩
instance : TZeroV PP 115 (.agg #[.slice none 0 0, .slice none 0 0, .int .i64 0, .int .i64 0]) := ⟨fun w => by kernel_rfl⟩
instance : TStruct PP 115 [.slice none 0 0, .slice none 0 0, .int .i64 0, .int .i64 0] [(0, 1), (1, 1), (2, 1), (3, 1)] := ⟨⟨_, by rw [PP_def]; exact Tryz.underlying115, fun w => by kernel_rfl⟩, fun w => ⟨.agg #[.slice none 0 0, .slice none 0 0, .int .i64 0, .int .i64 0], by kernel_rfl, by kernel_rfl⟩⟩
instance : TField PP 115 0 0 := ⟨fun b o w => by kernel_rfl⟩
instance : TPart PP 115 0 false 0 1 := part_lemma (ft := 109) (by rw [PP_def]; exact Tryz.underlying115) rfl rfl rfl
instance : TField PP 115 1 1 := ⟨fun b o w => by kernel_rfl⟩
instance : TPart PP 115 1 false 1 1 := part_lemma (ft := 109) (by rw [PP_def]; exact Tryz.underlying115) rfl rfl rfl
instance : TField PP 115 2 2 := ⟨fun b o w => by kernel_rfl⟩
instance : TPart PP 115 2 false 2 1 := part_lemma (ft := 28) (by rw [PP_def]; exact Tryz.underlying115) rfl rfl rfl
instance : TField PP 115 3 3 := ⟨fun b o w => by kernel_rfl⟩
instance : TPart PP 115 3 false 3 1 := part_lemma (ft := 3) (by rw [PP_def]; exact Tryz.underlying115) rfl rfl rfl
instance : TShape PP 117 false 1 := ⟨fun w => by kernel_rfl, fun w => by kernel_rfl⟩
instance : TInfo PP 117 8 := ⟨fun w => ⟨Tryz.t117, by rw [PP_def]; exact Tryz.typeInfo117 w, rfl⟩⟩
instance : TZero PP 117 [.nilFunc] := ⟨fun w => ⟨.nilFunc, by kernel_rfl, by kernel_rfl⟩⟩
instance : TZeroV PP 117 (.nilFunc) := ⟨fun w => by kernel_rfl⟩
instance : TShape PP 119 false 1 := ⟨fun w => by kernel_rfl, fun w => by kernel_rfl⟩
instance : TInfo PP 119 8 := ⟨fun w => ⟨Tryz.t119, by rw [PP_def]; exact Tryz.typeInfo119 w, rfl⟩⟩
instance : TZero PP 119 [.nilFunc] := ⟨fun w => ⟨.nilFunc, by kernel_rfl, by kernel_rfl⟩⟩
instance : TZeroV PP 119 (.nilFunc) := ⟨fun w => by kernel_rfl⟩
instance : TShape PP 120 false 1 := ⟨fun w => by kernel_rfl, fun w => by kernel_rfl⟩
instance : TInfo PP 120 8 := ⟨fun w => ⟨Tryz.t120, by rw [PP_def]; exact Tryz.typeInfo120 w, rfl⟩⟩
instance : TZero PP 120 [.nilFunc] := ⟨fun w => ⟨.nilFunc, by kernel_rfl, by kernel_rfl⟩⟩
instance : TZeroV PP 120 (.nilFunc) := ⟨fun w => by kernel_rfl⟩
instance : TShape PP 121 false 1 := ⟨fun w => by kernel_rfl, fun w => by kernel_rfl⟩
instance : TInfo PP 121 8 := ⟨fun w => ⟨Tryz.t121, by rw [PP_def]; exact Tryz.typeInfo121 w, rfl⟩⟩
instance : TZero PP 121 [.nilFunc] := ⟨fun w => ⟨.nilFunc, by kernel_rfl, by kernel_rfl⟩⟩
instance : TZeroV PP 121 (.nilFunc) := ⟨fun w => by kernel_rfl⟩
instance : TShape PP 122 false 1 := ⟨fun w => by kernel_rfl, fun w => by kernel_rfl⟩
instance : TInfo PP 122 8 := ⟨fun w => ⟨Tryz.t122, by rw [PP_def]; exact Tryz.typeInfo122 w, rfl⟩⟩
instance : TZero PP 122 [.nilFunc] := ⟨fun w => ⟨.nilFunc, by kernel_rfl, by kernel_rfl⟩⟩
instance : TZeroV PP 122 (.nilFunc) := ⟨fun w => by kernel_rfl⟩
instance : TShape PP 123 false 1 := ⟨fun w => by kernel_rfl, fun w => by kernel_rfl⟩
instance : TInfo PP 123 8 := ⟨fun w => ⟨Tryz.t123, by rw [PP_def]; exact Tryz.typeInfo123 w, rfl⟩⟩
instance : TZero PP 123 [.nilFunc] := ⟨fun w => ⟨.nilFunc, by kernel_rfl, by kernel_rfl⟩⟩
instance : TZeroV PP 123 (.nilFunc) := ⟨fun w => by kernel_rfl⟩
instance : TShape PP 125 false 1 := ⟨fun w => by kernel_rfl, fun w => by kernel_rfl⟩
instance : TInfo PP 125 8 := ⟨fun w => ⟨Tryz.t125, by rw [PP_def]; exact Tryz.typeInfo125 w, rfl⟩⟩
instance : TZero PP 125 [.nilFunc] := ⟨fun w => ⟨.nilFunc, by kernel_rfl, by kernel_rfl⟩⟩
instance : TZeroV PP 125 (.nilFunc) := ⟨fun w => by kernel_rfl⟩
instance : TShape PP 127 false 1 := ⟨fun w => by kernel_rfl, fun w => by kernel_rfl⟩
instance : TInfo PP 127 8 := ⟨fun w => ⟨Tryz.t127, by rw [PP_def]; exact Tryz.typeInfo127 w, rfl⟩⟩
instance : TZero PP 127 [.nilFunc] := ⟨fun w => ⟨.nilFunc, by kernel_rfl, by kernel_rfl⟩⟩
instance : TZeroV PP 127 (.nilFunc) := ⟨fun w => by kernel_rfl⟩
instance : TShape PP 128 false 1 := ⟨fun w => by kernel_rfl, fun w => by kernel_rfl⟩
instance : TInfo PP 128 24 := ⟨fun w => ⟨Tryz.t128, by rw [PP_def]; exact Tryz.typeInfo128 w, rfl⟩⟩
instance : TZero PP 128 [.slice none 0 0] := ⟨fun w => ⟨.slice none 0 0, by kernel_rfl, by kernel_rfl⟩⟩
instance : TZeroV PP 128 (.slice none 0 0) := ⟨fun w => by kernel_rfl⟩
instance : TUnd PP 128 (.slice 134) := ⟨by kernel_rfl⟩
instance : TShape PP 130 false 1 := ⟨fun w => by kernel_rfl, fun w => by kernel_rfl⟩
instance : TInfo PP 130 8 := ⟨fun w => ⟨Tryz.t130, by rw [PP_def]; exact Tryz.typeInfo130 w, rfl⟩⟩
instance : TZero PP 130 [.nilFunc] := ⟨fun w => ⟨.nilFunc, by kernel_rfl, by kernel_rfl⟩⟩
instance : TZeroV PP 130 (.nilFunc) := ⟨fun w => by kernel_rfl⟩
instance : TShape PP 131 false 1 := ⟨fun w => by kernel_rfl, fun w => by kernel_rfl⟩
instance : TInfo PP 131 8 := ⟨fun w => ⟨Tryz.t131, by rw [PP_def]; exact Tryz.typeInfo131 w, rfl⟩⟩
instance : TZero PP 131 [.pointer none] := ⟨fun w => ⟨.pointer none, by kernel_rfl, by kernel_rfl⟩⟩
instance : TZeroV PP 131 (.pointer none) := ⟨fun w => by kernel_rfl⟩
instance : TUnd PP 131 (.pointer 3) := ⟨by kernel_rfl⟩
instance : TShape PP 132 false 1 := ⟨fun w => by kernel_rfl, fun w => by kernel_rfl⟩
instance : TInfo PP 132 8 := ⟨fun w => ⟨Tryz.t132, by rw [PP_def]; exact Tryz.typeInfo132 w, rfl⟩⟩
instance : TZero PP 132 [.nilFunc] := ⟨fun w => ⟨.nilFunc, by kernel_rfl, by kernel_rfl⟩⟩
instance : TZeroV PP 132 (.nilFunc) := ⟨fun w => by kernel_rfl⟩
instance : TShape PP 133 true 2 := ⟨fun w => by kernel_rfl, fun w => by kernel_rfl⟩
instance : TInfo PP 133 16 := ⟨fun w => ⟨Tryz.t133, by rw [PP_def]; exact Tryz.typeInfo133 w, rfl⟩⟩
instance : TZero PP 133 [.int .i64 0, .int .i64 0] := ⟨fun w => ⟨.agg #[.int .i64 0, .int .i64 0], by kernel_rfl, by kernel_rfl⟩⟩
instance : TZeroV PP 133 (.agg #[.int .i64 0, .int .i64 0]) := ⟨fun w => by kernel_rfl⟩
instance : TStruct PP 133 [.int .i64 0, .int .i64 0] [(0, 1), (1, 1)] := ⟨⟨_, by rw [PP_def]; exact Tryz.underlying133, fun w => by kernel_rfl⟩, fun w => ⟨.agg #[.int .i64 0, .int .i64 0], by kernel_rfl, by kernel_rfl⟩⟩
instance : TField PP 133 0 0 := ⟨fun b o w => by kernel_rfl⟩
instance : TPart PP 133 0 false 0 1 := part_lemma (ft := 2) (by rw [PP_def]; exact Tryz.underlying133) rfl rfl rfl
instance : TField PP 133 1 1 := ⟨fun b o w => by kernel_rfl⟩
instance : TPart PP 133 1 false 1 1 := part_lemma (ft := 2) (by rw [PP_def]; exact Tryz.underlying133) rfl rfl rfl
instance : TShape PP 134 true 2 := ⟨fun w => by kernel_rfl, fun w => by kernel_rfl⟩
instance : TInfo PP 134 16 := ⟨fun w => ⟨Tryz.t134, by rw [PP_def]; exact Tryz.typeInfo134 w, rfl⟩⟩
instance : TZero PP 134 [.int .i64 0, .int .i64 0] := ⟨fun w => ⟨.agg #[.int .i64 0, .int .i64 0], by kernel_rfl, by kernel_rfl⟩⟩
instance : TZeroV PP 134 (.agg #[.int .i64 0, .int .i64 0]) := ⟨fun w => by kernel_rfl⟩
instance : TStruct PP 134 [.int .i64 0, .int .i64 0] [(0, 1), (1, 1)] := ⟨⟨_, by rw [PP_def]; exact Tryz.underlying134, fun w => by kernel_rfl⟩, fun w => ⟨.agg #[.int .i64 0, .int .i64 0], by kernel_rfl, by kernel_rfl⟩⟩
instance : TField PP 134 0 0 := ⟨fun b o w => by kernel_rfl⟩
instance : TPart PP 134 0 false 0 1 := part_lemma (ft := 2) (by rw [PP_def]; exact Tryz.underlying134) rfl rfl rfl
instance : TField PP 134 1 1 := ⟨fun b o w => by kernel_rfl⟩
instance : TPart PP 134 1 false 1 1 := part_lemma (ft := 2) (by rw [PP_def]; exact Tryz.underlying134) rfl rfl rfl
instance : TShape PP 135 false 1 := ⟨fun w => by kernel_rfl, fun w => by kernel_rfl⟩
instance : TInfo PP 135 8 := ⟨fun w => ⟨Tryz.t135, by rw [PP_def]; exact Tryz.typeInfo135 w, rfl⟩⟩
instance : TZero PP 135 [.nilFunc] := ⟨fun w => ⟨.nilFunc, by kernel_rfl, by kernel_rfl⟩⟩
instance : TZeroV PP 135 (.nilFunc) := ⟨fun w => by kernel_rfl⟩
instance : TShape PP 136 false 1 := ⟨fun w => by kernel_rfl, fun w => by kernel_rfl⟩
instance : TInfo PP 136 8 := ⟨fun w => ⟨Tryz.t136, by rw [PP_def]; exact Tryz.typeInfo136 w, rfl⟩⟩
instance : TZero PP 136 [.nilFunc] := ⟨fun w => ⟨.nilFunc, by kernel_rfl, by kernel_rfl⟩⟩
instance : TZeroV PP 136 (.nilFunc) := ⟨fun w => by kernel_rfl⟩
instance : TShape PP 137 false 1 := ⟨fun w => by kernel_rfl, fun w => by kernel_rfl⟩
instance : TInfo PP 137 8 := ⟨fun w => ⟨Tryz.t137, by rw [PP_def]; exact Tryz.typeInfo137 w, rfl⟩⟩
instance : TZero PP 137 [.nilFunc] := ⟨fun w => ⟨.nilFunc, by kernel_rfl, by kernel_rfl⟩⟩
instance : TZeroV PP 137 (.nilFunc) := ⟨fun w => by kernel_rfl⟩
instance : TShape PP 139 false 1 := ⟨fun w => by kernel_rfl, fun w => by kernel_rfl⟩
instance : TInfo PP 139 8 := ⟨fun w => ⟨Tryz.t139, by rw [PP_def]; exact Tryz.typeInfo139 w, rfl⟩⟩
instance : TZero PP 139 [.nilFunc] := ⟨fun w => ⟨.nilFunc, by kernel_rfl, by kernel_rfl⟩⟩
instance : TZeroV PP 139 (.nilFunc) := ⟨fun w => by kernel_rfl⟩
instance : TShape PP 140 false 1 := ⟨fun w => by kernel_rfl, fun w => by kernel_rfl⟩
instance : TInfo PP 140 8 := ⟨fun w => ⟨Tryz.t140, by rw [PP_def]; exact Tryz.typeInfo140 w, rfl⟩⟩
instance : TZero PP 140 [.nilFunc] := ⟨fun w => ⟨.nilFunc, by kernel_rfl, by kernel_rfl⟩⟩
instance : TZeroV PP 140 (.nilFunc) := ⟨fun w => by kernel_rfl⟩
instance : TShape PP 141 false 1 := ⟨fun w => by kernel_rfl, fun w => by kernel_rfl⟩
instance : TInfo PP 141 8 := ⟨fun w => ⟨Tryz.t141, by rw [PP_def]; exact Tryz.typeInfo141 w, rfl⟩⟩
instance : TZero PP 141 [.nilFunc] := ⟨fun w => ⟨.nilFunc, by kernel_rfl, by kernel_rfl⟩⟩
instance : TZeroV PP 141 (.nilFunc) := ⟨fun w => by kernel_rfl⟩
instance : TShape PP 142 false 1 := ⟨fun w => by kernel_rfl, fun w => by kernel_rfl⟩
instance : TInfo PP 142 8 := ⟨fun w => ⟨Tryz.t142, by rw [PP_def]; exact Tryz.typeInfo142 w, rfl⟩⟩
instance : TZero PP 142 [.nilFunc] := ⟨fun w => ⟨.nilFunc, by kernel_rfl, by kernel_rfl⟩⟩
instance : TZeroV PP 142 (.nilFunc) := ⟨fun w => by kernel_rfl⟩
instance : TShape PP 143 false 1 := ⟨fun w => by kernel_rfl, fun w => by kernel_rfl⟩
instance : TInfo PP 143 8 := ⟨fun w => ⟨Tryz.t143, by rw [PP_def]; exact Tryz.typeInfo143 w, rfl⟩⟩
instance : TZero PP 143 [.nilFunc] := ⟨fun w => ⟨.nilFunc, by kernel_rfl, by kernel_rfl⟩⟩
instance : TZeroV PP 143 (.nilFunc) := ⟨fun w => by kernel_rfl⟩
instance : TShape PP 144 false 1 := ⟨fun w => by kernel_rfl, fun w => by kernel_rfl⟩
instance : TInfo PP 144 8 := ⟨fun w => ⟨Tryz.t144, by rw [PP_def]; exact Tryz.typeInfo144 w, rfl⟩⟩
instance : TZero PP 144 [.nilFunc] := ⟨fun w => ⟨.nilFunc, by kernel_rfl, by kernel_rfl⟩⟩
instance : TZeroV PP 144 (.nilFunc) := ⟨fun w => by kernel_rfl⟩
instance : TShape PP 145 false 1 := ⟨fun w => by kernel_rfl, fun w => by kernel_rfl⟩
instance : TInfo PP 145 8 := ⟨fun w => ⟨Tryz.t145, by rw [PP_def]; exact Tryz.typeInfo145 w, rfl⟩⟩
instance : TZero PP 145 [.nilFunc] := ⟨fun w => ⟨.nilFunc, by kernel_rfl, by kernel_rfl⟩⟩
instance : TZeroV PP 145 (.nilFunc) := ⟨fun w => by kernel_rfl⟩
instance : TShape PP 146 false 1 := ⟨fun w => by kernel_rfl, fun w => by kernel_rfl⟩
instance : TInfo PP 146 8 := ⟨fun w => ⟨Tryz.t146, by rw [PP_def]; exact Tryz.typeInfo146 w, rfl⟩⟩
instance : TZero PP 146 [.nilFunc] := ⟨fun w => ⟨.nilFunc, by kernel_rfl, by kernel_rfl⟩⟩
instance : TZeroV PP 146 (.nilFunc) := ⟨fun w => by kernel_rfl⟩
instance : TShape PP 147 false 1 := ⟨fun w => by kernel_rfl, fun w => by kernel_rfl⟩
instance : TInfo PP 147 8 := ⟨fun w => ⟨Tryz.t147, by rw [PP_def]; exact Tryz.typeInfo147 w, rfl⟩⟩
instance : TZero PP 147 [.nilFunc] := ⟨fun w => ⟨.nilFunc, by kernel_rfl, by kernel_rfl⟩⟩
instance : TZeroV PP 147 (.nilFunc) := ⟨fun w => by kernel_rfl⟩
instance : TShape PP 148 false 1 := ⟨fun w => by kernel_rfl, fun w => by kernel_rfl⟩
instance : TInfo PP 148 8 := ⟨fun w => ⟨Tryz.t148, by rw [PP_def]; exact Tryz.typeInfo148 w, rfl⟩⟩
instance : TZero PP 148 [.nilFunc] := ⟨fun w => ⟨.nilFunc, by kernel_rfl, by kernel_rfl⟩⟩
instance : TZeroV PP 148 (.nilFunc) := ⟨fun w => by kernel_rfl⟩
instance : TShape PP 149 false 1 := ⟨fun w => by kernel_rfl, fun w => by kernel_rfl⟩
instance : TInfo PP 149 8 := ⟨fun w => ⟨Tryz.t149, by rw [PP_def]; exact Tryz.typeInfo149 w, rfl⟩⟩
instance : TZero PP 149 [.nilFunc] := ⟨fun w => ⟨.nilFunc, by kernel_rfl, by kernel_rfl⟩⟩
instance : TZeroV PP 149 (.nilFunc) := ⟨fun w => by kernel_rfl⟩
instance : TShape PP 150 false 1 := ⟨fun w => by kernel_rfl, fun w => by kernel_rfl⟩
instance : TInfo PP 150 24 := ⟨fun w => ⟨Tryz.t150, by rw [PP_def]; exact Tryz.typeInfo150 w, rfl⟩⟩
instance : TZero PP 150 [.slice none 0 0] := ⟨fun w => ⟨.slice none 0 0, by kernel_rfl, by kernel_rfl⟩⟩
instance : TZeroV PP 150 (.slice none 0 0) := ⟨fun w => by kernel_rfl⟩
instance : TUnd PP 150 (.slice 50) := ⟨by kernel_rfl⟩
instance : TShape PP 152 false 1 := ⟨fun w => by kernel_rfl, fun w => by kernel_rfl⟩
instance : TInfo PP 152 8 := ⟨fun w => ⟨Tryz.t152, by rw [PP_def]; exact Tryz.typeInfo152 w, rfl⟩⟩
instance : TZero PP 152 [.nilFunc] := ⟨fun w => ⟨.nilFunc, by kernel_rfl, by kernel_rfl⟩⟩
instance : TZeroV PP 152 (.nilFunc) := ⟨fun w => by kernel_rfl⟩
instance : TShape PP 153 false 1 := ⟨fun w => by kernel_rfl, fun w => by kernel_rfl⟩
instance : TInfo PP 153 8 := ⟨fun w => ⟨Tryz.t153, by rw [PP_def]; exact Tryz.typeInfo153 w, rfl⟩⟩
instance : TZero PP 153 [.map none] := ⟨fun w => ⟨.map none, by kernel_rfl, by kernel_rfl⟩⟩
instance : TZeroV PP 153 (.map none) := ⟨fun w => by kernel_rfl⟩
instance : TUnd PP 153 (.map 28 4) := ⟨by kernel_rfl⟩
instance : TShape PP 154 false 1 := ⟨fun w => by kernel_rfl, fun w => by kernel_rfl⟩
instance : TInfo PP 154 24 := ⟨fun w => ⟨Tryz.t154, by rw [PP_def]; exact Tryz.typeInfo154 w, rfl⟩⟩
instance : TZero PP 154 [.slice none 0 0] := ⟨fun w => ⟨.slice none 0 0, by kernel_rfl, by kernel_rfl⟩⟩
instance : TZeroV PP 154 (.slice none 0 0) := ⟨fun w => by kernel_rfl⟩
instance : TUnd PP 154 (.slice 160) := ⟨by kernel_rfl⟩
instance : TShape PP 155 true 5 := ⟨fun w => by kernel_rfl, fun w => by kernel_rfl⟩
instance : TInfo PP 155 56 := ⟨fun w => ⟨Tryz.t155, by rw [PP_def]; exact Tryz.typeInfo155 w, rfl⟩⟩
instance : TZero PP 155 [.map none, .map none, .slice none 0 0, .int .i64 0, .bool false] := ⟨fun w => ⟨.agg #[.map none, .map none, .slice none 0 0, .int .i64 0, .bool false], by kernel_rfl, by kernel_rfl⟩⟩
instance : TZeroV PP 155 (.agg #[.map none, .map none, .slice none 0 0, .int .i64 0, .bool false]) := ⟨fun w => by kernel_rfl⟩
instance : TStruct PP 155 [.map none, .map none, .slice none 0 0, .int .i64 0, .bool false] [(0, 1), (1, 1), (2, 1), (3, 1), (4, 1)] := ⟨⟨_, by rw [PP_def]; exact Tryz.underlying155, fun w => by kernel_rfl⟩, fun w => ⟨.agg #[.map none, .map none, .slice none 0 0, .int .i64 0, .bool false], by kernel_rfl, by kernel_rfl⟩⟩
instance : TField PP 155 0 0 := ⟨fun b o w => by kernel_rfl⟩
instance : TPart PP 155 0 false 0 1 := part_lemma (ft := 24) (by rw [PP_def]; exact Tryz.underlying155) rfl rfl rfl
instance : TField PP 155 1 1 := ⟨fun b o w => by kernel_rfl⟩
instance : TPart PP 155 1 false 1 1 := part_lemma (ft := 153) (by rw [PP_def]; exact Tryz.underlying155) rfl rfl rfl
instance : TField PP 155 2 2 := ⟨fun b o w => by kernel_rfl⟩
instance : TPart PP 155 2 false 2 1 := part_lemma (ft := 154) (by rw [PP_def]; exact Tryz.underlying155) rfl rfl rfl
instance : TField PP 155 3 3 := ⟨fun b o w => by kernel_rfl⟩
instance : TPart PP 155 3 false 3 1 := part_lemma (ft := 28) (by rw [PP_def]; exact Tryz.underlying155) rfl rfl rfl
instance : TField PP 155 4 4 := ⟨fun b o w => by kernel_rfl⟩
instance : TPart PP 155 4 false 4 1 := part_lemma (ft := 4) (by rw [PP_def]; exact Tryz.underlying155) rfl rfl rfl
instance : TShape PP 156 true 5 := ⟨fun w => by kernel_rfl, fun w => by kernel_rfl⟩
instance : TInfo PP 156 56 := ⟨fun w => ⟨Tryz.t156, by rw [PP_def]; exact Tryz.typeInfo156 w, rfl⟩⟩
instance : TZero PP 156 [.map none, .map none, .slice none 0 0, .int .i64 0, .bool false] := ⟨fun w => ⟨.agg #[.map none, .map none, .slice none 0 0, .int .i64 0, .bool false], by kernel_rfl, by kernel_rfl⟩⟩
instance : TZeroV PP 156 (.agg #[.map none, .map none, .slice none 0 0, .int .i64 0, .bool false]) := ⟨fun w => by kernel_rfl⟩
instance : TStruct PP 156 [.map none, .map none, .slice none 0 0, .int .i64 0, .bool false] [(0, 1), (1, 1), (2, 1), (3, 1), (4, 1)] := ⟨⟨_, by rw [PP_def]; exact Tryz.underlying156, fun w => by kernel_rfl⟩, fun w => ⟨.agg #[.map none, .map none, .slice none 0 0, .int .i64 0, .bool false], by kernel_rfl, by kernel_rfl⟩⟩
instance : TField PP 156 0 0 := ⟨fun b o w => by kernel_rfl⟩
instance : TPart PP 156 0 false 0 1 := part_lemma (ft := 24) (by rw [PP_def]; exact Tryz.underlying156) rfl rfl rfl
instance : TField PP 156 1 1 := ⟨fun b o w => by kernel_rfl⟩
instance : TPart PP 156 1 false 1 1 := part_lemma (ft := 153) (by rw [PP_def]; exact Tryz.underlying156) rfl rfl rfl
instance : TField PP 156 2 2 := ⟨fun b o w => by kernel_rfl⟩
instance : TPart PP 156 2 false 2 1 := part_lemma (ft := 154) (by rw [PP_def]; exact Tryz.underlying156) rfl rfl rfl
instance : TField PP 156 3 3 := ⟨fun b o w => by kernel_rfl⟩
instance : TPart PP 156 3 false 3 1 := part_lemma (ft := 28) (by rw [PP_def]; exact Tryz.underlying156) rfl rfl rfl
instance : TField PP 156 4 4 := ⟨fun b o w => by kernel_rfl⟩
instance : TPart PP 156 4 false 4 1 := part_lemma (ft := 4) (by rw [PP_def]; exact Tryz.underlying156) rfl rfl rfl
instance : TShape PP 157 false 1 := ⟨fun w => by kernel_rfl, fun w => by kernel_rfl⟩
instance : TInfo PP 157 8 := ⟨fun w => ⟨Tryz.t157, by rw [PP_def]; exact Tryz.typeInfo157 w, rfl⟩⟩
instance : TZero PP 157 [.nilFunc] := ⟨fun w => ⟨.nilFunc, by kernel_rfl, by kernel_rfl⟩⟩
instance : TZeroV PP 157 (.nilFunc) := ⟨fun w => by kernel_rfl⟩
instance : TShape PP 158 false 1 := ⟨fun w => by kernel_rfl, fun w => by kernel_rfl⟩
instance : TInfo PP 158 8 := ⟨fun w => ⟨Tryz.t158, by rw [PP_def]; exact Tryz.typeInfo158 w, rfl⟩⟩
instance : TZero PP 158 [.nilFunc] := ⟨fun w => ⟨.nilFunc, by kernel_rfl, by kernel_rfl⟩⟩
instance : TZeroV PP 158 (.nilFunc) := ⟨fun w => by kernel_rfl⟩
instance : TShape PP 159 true 2 := ⟨fun w => by kernel_rfl, fun w => by kernel_rfl⟩
instance : TInfo PP 159 16 := ⟨fun w => ⟨Tryz.t159, by rw [PP_def]; exact Tryz.typeInfo159 w, rfl⟩⟩
instance : TZero PP 159 [.int .i64 0, .int .i64 0] := ⟨fun w => ⟨.agg #[.int .i64 0, .int .i64 0], by kernel_rfl, by kernel_rfl⟩⟩
instance : TZeroV PP 159 (.agg #[.int .i64 0, .int .i64 0]) := ⟨fun w => by kernel_rfl⟩
instance : TStruct PP 159 [.int .i64 0, .int .i64 0] [(0, 1), (1, 1)] := ⟨⟨_, by rw [PP_def]; exact Tryz.underlying159, fun w => by kernel_rfl⟩, fun w => ⟨.agg #[.int .i64 0, .int .i64 0], by kernel_rfl, by kernel_rfl⟩⟩
instance : TField PP 159 0 0 := ⟨fun b o w => by kernel_rfl⟩
instance : TPart PP 159 0 false 0 1 := part_lemma (ft := 28) (by rw [PP_def]; exact Tryz.underlying159) rfl rfl rfl
instance : TField PP 159 1 1 := ⟨fun b o w => by kernel_rfl⟩
instance : TPart PP 159 1 false 1 1 := part_lemma (ft := 2) (by rw [PP_def]; exact Tryz.underlying159) rfl rfl rfl
instance : TShape PP 160 true 2 := ⟨fun w => by kernel_rfl, fun w => by kernel_rfl⟩
instance : TInfo PP 160 16 := ⟨fun w => ⟨Tryz.t160, by rw [PP_def]; exact Tryz.typeInfo160 w, rfl⟩⟩
instance : TZero PP 160 [.int .i64 0, .int .i64 0] := ⟨fun w => ⟨.agg #[.int .i64 0, .int .i64 0], by kernel_rfl, by kernel_rfl⟩⟩
instance : TZeroV PP 160 (.agg #[.int .i64 0, .int .i64 0]) := ⟨fun w => by kernel_rfl⟩
instance : TStruct PP 160 [.int .i64 0, .int .i64 0] [(0, 1), (1, 1)] := ⟨⟨_, by rw [PP_def]; exact Tryz.underlying160, fun w => by kernel_rfl⟩, fun w => ⟨.agg #[.int .i64 0, .int .i64 0], by kernel_rfl, by kernel_rfl⟩⟩
instance : TField PP 160 0 0 := ⟨fun b o w => by kernel_rfl⟩
instance : TPart PP 160 0 false 0 1 := part_lemma (ft := 28) (by rw [PP_def]; exact Tryz.underlying160) rfl rfl rfl
instance : TField PP 160 1 1 := ⟨fun b o w => by kernel_rfl⟩
instance : TPart PP 160 1 false 1 1 := part_lemma (ft := 2) (by rw [PP_def]; exact Tryz.underlying160) rfl rfl rfl
instance : TShape PP 161 false 1 := ⟨fun w => by kernel_rfl, fun w => by kernel_rfl⟩
instance : TInfo PP 161 8 := ⟨fun w => ⟨Tryz.t161, by rw [PP_def]; exact Tryz.typeInfo161 w, rfl⟩⟩
instance : TZero PP 161 [.nilFunc] := ⟨fun w => ⟨.nilFunc, by kernel_rfl, by kernel_rfl⟩⟩
instance : TZeroV PP 161 (.nilFunc) := ⟨fun w => by kernel_rfl⟩
instance : TShape PP 162 false 1 := ⟨fun w => by kernel_rfl, fun w => by kernel_rfl⟩
instance : TInfo PP 162 8 := ⟨fun w => ⟨Tryz.t162, by rw [PP_def]; exact Tryz.typeInfo162 w, rfl⟩⟩
instance : TZero PP 162 [.nilFunc] := ⟨fun w => ⟨.nilFunc, by kernel_rfl, by kernel_rfl⟩⟩
instance : TZeroV PP 162 (.nilFunc) := ⟨fun w => by kernel_rfl⟩
instance : TShape PP 163 false 1 := ⟨fun w => by kernel_rfl, fun w => by kernel_rfl⟩
instance : TInfo PP 163 8 := ⟨fun w => ⟨Tryz.t163, by rw [PP_def]; exact Tryz.typeInfo163 w, rfl⟩⟩
instance : TZero PP 163 [.nilFunc] := ⟨fun w => ⟨.nilFunc, by kernel_rfl, by kernel_rfl⟩⟩
instance : TZeroV PP 163 (.nilFunc) := ⟨fun w => by kernel_rfl⟩
instance : TShape PP 165 false 1 := ⟨fun w => by kernel_rfl, fun w => by kernel_rfl⟩
instance : TInfo PP 165 8 := ⟨fun w => ⟨Tryz.t165, by rw [PP_def]; exact Tryz.typeInfo165 w, rfl⟩⟩
instance : TZero PP 165 [.nilFunc] := ⟨fun w => ⟨.nilFunc, by kernel_rfl, by kernel_rfl⟩⟩
instance : TZeroV PP 165 (.nilFunc) := ⟨fun w => by kernel_rfl⟩
instance : TShape PP 166 false 1 := ⟨fun w => by kernel_rfl, fun w => by kernel_rfl⟩
instance : TInfo PP 166 8 := ⟨fun w => ⟨Tryz.t166, by rw [PP_def]; exact Tryz.typeInfo166 w, rfl⟩⟩
instance : TZero PP 166 [.nilFunc] := ⟨fun w => ⟨.nilFunc, by kernel_rfl, by kernel_rfl⟩⟩
instance : TZeroV PP 166 (.nilFunc) := ⟨fun w => by kernel_rfl⟩
instance : TShape PP 167 false 1 := ⟨fun w => by kernel_rfl, fun w => by kernel_rfl⟩
instance : TInfo PP 167 8 := ⟨fun w => ⟨Tryz.t167, by rw [PP_def]; exact Tryz.typeInfo167 w, rfl⟩⟩
instance : TZero PP 167 [.nilFunc] := ⟨fun w => ⟨.nilFunc, by kernel_rfl, by kernel_rfl⟩⟩
instance : TZeroV PP 167 (.nilFunc) := ⟨fun w => by kernel_rfl⟩
instance : TShape PP 168 false 1 := ⟨fun w => by kernel_rfl, fun w => by kernel_rfl⟩
instance : TInfo PP 168 8 := ⟨fun w => ⟨Tryz.t168, by rw [PP_def]; exact Tryz.typeInfo168 w, rfl⟩⟩
instance : TZero PP 168 [.nilFunc] := ⟨fun w => ⟨.nilFunc, by kernel_rfl, by kernel_rfl⟩⟩
instance : TZeroV PP 168 (.nilFunc) := ⟨fun w => by kernel_rfl⟩
instance : TShape PP 170 false 1 := ⟨fun w => by kernel_rfl, fun w => by kernel_rfl⟩
instance : TInfo PP 170 8 := ⟨fun w => ⟨Tryz.t170, by rw [PP_def]; exact Tryz.typeInfo170 w, rfl⟩⟩
instance : TZero PP 170 [.nilFunc] := ⟨fun w => ⟨.nilFunc, by kernel_rfl, by kernel_rfl⟩⟩
instance : TZeroV PP 170 (.nilFunc) := ⟨fun w => by kernel_rfl⟩
instance : TShape PP 171 false 1 := ⟨fun w => by kernel_rfl, fun w => by kernel_rfl⟩
instance : TInfo PP 171 8 := ⟨fun w => ⟨Tryz.t171, by rw [PP_def]; exact Tryz.typeInfo171 w, rfl⟩⟩
instance : TZero PP 171 [.nilFunc] := ⟨fun w => ⟨.nilFunc, by kernel_rfl, by kernel_rfl⟩⟩
instance : TZeroV PP 171 (.nilFunc) := ⟨fun w => by kernel_rfl⟩
instance : TShape PP 172 false 1 := ⟨fun w => by kernel_rfl, fun w => by kernel_rfl⟩
instance : TInfo PP 172 8 := ⟨fun w => ⟨Tryz.t172, by rw [PP_def]; exact Tryz.typeInfo172 w, rfl⟩⟩
instance : TZero PP 172 [.nilFunc] := ⟨fun w => ⟨.nilFunc, by kernel_rfl, by kernel_rfl⟩⟩
instance : TZeroV PP 172 (.nilFunc) := ⟨fun w => by kernel_rfl⟩
instance : TShape PP 173 false 1 := ⟨fun w => by kernel_rfl, fun w => by kernel_rfl⟩
instance : TInfo PP 173 8 := ⟨fun w => ⟨Tryz.t173, by rw [PP_def]; exact Tryz.typeInfo173 w, rfl⟩⟩
instance : TZero PP 173 [.nilFunc] := ⟨fun w => ⟨.nilFunc, by kernel_rfl, by kernel_rfl⟩⟩
instance : TZeroV PP 173 (.nilFunc) := ⟨fun w => by kernel_rfl⟩
instance : TShape PP 174 false 1 := ⟨fun w => by kernel_rfl, fun w => by kernel_rfl⟩
instance : TInfo PP 174 8 := ⟨fun w => ⟨Tryz.t174, by rw [PP_def]; exact Tryz.typeInfo174 w, rfl⟩⟩
instance : TZero PP 174 [.nilFunc] := ⟨fun w => ⟨.nilFunc, by kernel_rfl, by kernel_rfl⟩⟩
instance : TZeroV PP 174 (.nilFunc) := ⟨fun w => by kernel_rfl⟩
instance : TShape PP 175 false 1 := ⟨fun w => by kernel_rfl, fun w => by kernel_rfl⟩
instance : TInfo PP 175 8 := ⟨fun w => ⟨Tryz.t175, by rw [PP_def]; exact Tryz.typeInfo175 w, rfl⟩⟩
instance : TZero PP 175 [.nilFunc] := ⟨fun w => ⟨.nilFunc, by kernel_rfl, by kernel_rfl⟩⟩
instance : TZeroV PP 175 (.nilFunc) := ⟨fun w => by kernel_rfl⟩
instance : TShape PP 176 false 1 := ⟨fun w => by kernel_rfl, fun w => by kernel_rfl⟩
instance : TInfo PP 176 8 := ⟨fun w => ⟨Tryz.t176, by rw [PP_def]; exact Tryz.typeInfo176 w, rfl⟩⟩
instance : TZero PP 176 [.nilFunc] := ⟨fun w => ⟨.nilFunc, by kernel_rfl, by kernel_rfl⟩⟩
instance : TZeroV PP 176 (.nilFunc) := ⟨fun w => by kernel_rfl⟩
instance : TShape PP 177 false 1 := ⟨fun w => by kernel_rfl, fun w => by kernel_rfl⟩
instance : TInfo PP 177 8 := ⟨fun w => ⟨Tryz.t177, by rw [PP_def]; exact Tryz.typeInfo177 w, rfl⟩⟩
instance : TZero PP 177 [.nilFunc] := ⟨fun w => ⟨.nilFunc, by kernel_rfl, by kernel_rfl⟩⟩
instance : TZeroV PP 177 (.nilFunc) := ⟨fun w => by kernel_rfl⟩
instance : TShape PP 178 false 1 := ⟨fun w => by kernel_rfl, fun w => by kernel_rfl⟩
instance : TInfo PP 178 8 := ⟨fun w => ⟨Tryz.t178, by rw [PP_def]; exact Tryz.typeInfo178 w, rfl⟩⟩
instance : TZero PP 178 [.int .i64 0] := ⟨fun w => ⟨.int .i64 0, by kernel_rfl, by kernel_rfl⟩⟩
instance : TZeroV PP 178 (.int .i64 0) := ⟨fun w => by kernel_rfl⟩
instance : TUnd PP 178 (.int (.i64)) := ⟨by kernel_rfl⟩
instance : TShape PP 180 false 1 := ⟨fun w => by kernel_rfl, fun w => by kernel_rfl⟩
instance : TInfo PP 180 8 := ⟨fun w => ⟨Tryz.t180, by rw [PP_def]; exact Tryz.typeInfo180 w, rfl⟩⟩
instance : TZero PP 180 [.nilFunc] := ⟨fun w => ⟨.nilFunc, by kernel_rfl, by kernel_rfl⟩⟩
instance : TZeroV PP 180 (.nilFunc) := ⟨fun w => by kernel_rfl⟩
instance : TShape PP 181 false 1 := ⟨fun w => by kernel_rfl, fun w => by kernel_rfl⟩
instance : TInfo PP 181 8 := ⟨fun w => ⟨Tryz.t181, by rw [PP_def]; exact Tryz.typeInfo181 w, rfl⟩⟩
instance : TZero PP 181 [.nilFunc] := ⟨fun w => ⟨.nilFunc, by kernel_rfl, by kernel_rfl⟩⟩
instance : TZeroV PP 181 (.nilFunc) := ⟨fun w => by kernel_rfl⟩
instance : TShape PP 182 false 1 := ⟨fun w => by kernel_rfl, fun w => by kernel_rfl⟩
instance : TInfo PP 182 8 := ⟨fun w => ⟨Tryz.t182, by rw [PP_def]; exact Tryz.typeInfo182 w, rfl⟩⟩
instance : TZero PP 182 [.nilFunc] := ⟨fun w => ⟨.nilFunc, by kernel_rfl, by kernel_rfl⟩⟩
instance : TZeroV PP 182 (.nilFunc) := ⟨fun w => by kernel_rfl⟩
instance : TShape PP 183 false 1 := ⟨fun w => by kernel_rfl, fun w => by kernel_rfl⟩
instance : TInfo PP 183 8 := ⟨fun w => ⟨Tryz.t183, by rw [PP_def]; exact Tryz.typeInfo183 w, rfl⟩⟩
instance : TZero PP 183 [.nilFunc] := ⟨fun w => ⟨.nilFunc, by kernel_rfl, by kernel_rfl⟩⟩
instance : TZeroV PP 183 (.nilFunc) := ⟨fun w => by kernel_rfl⟩
instance : TShape PP 184 false 1 := ⟨fun w => by kernel_rfl, fun w => by kernel_rfl⟩
instance : TInfo PP 184 8 := ⟨fun w => ⟨Tryz.t184, by rw [PP_def]; exact Tryz.typeInfo184 w, rfl⟩⟩
instance : TZero PP 184 [.nilFunc] := ⟨fun w => ⟨.nilFunc, by kernel_rfl, by kernel_rfl⟩⟩
instance : TZeroV PP 184 (.nilFunc) := ⟨fun w => by kernel_rfl⟩
instance : TShape PP 185 false 1 := ⟨fun w => by kernel_rfl, fun w => by kernel_rfl⟩
instance : TInfo PP 185 8 := ⟨fun w => ⟨Tryz.t185, by rw [PP_def]; exact Tryz.typeInfo185 w, rfl⟩⟩
instance : TZero PP 185 [.nilFunc] := ⟨fun w => ⟨.nilFunc, by kernel_rfl, by kernel_rfl⟩⟩
instance : TZeroV PP 185 (.nilFunc) := ⟨fun w => by kernel_rfl⟩
instance : TShape PP 186 false 1 := ⟨fun w => by kernel_rfl, fun w => by kernel_rfl⟩
instance : TInfo PP 186 8 := ⟨fun w => ⟨Tryz.t186, by rw [PP_def]; exact Tryz.typeInfo186 w, rfl⟩⟩
instance : TZero PP 186 [.nilFunc] := ⟨fun w => ⟨.nilFunc, by kernel_rfl, by kernel_rfl⟩⟩
instance : TZeroV PP 186 (.nilFunc) := ⟨fun w => by kernel_rfl⟩
instance : TShape PP 187 false 1 := ⟨fun w => by kernel_rfl, fun w => by kernel_rfl⟩
instance : TInfo PP 187 8 := ⟨fun w => ⟨Tryz.t187, by rw [PP_def]; exact Tryz.typeInfo187 w, rfl⟩⟩
instance : TZero PP 187 [.nilFunc] := ⟨fun w => ⟨.nilFunc, by kernel_rfl, by kernel_rfl⟩⟩
instance : TZeroV PP 187 (.nilFunc) := ⟨fun w => by kernel_rfl⟩
instance : TShape PP 188 false 1 := ⟨fun w => by kernel_rfl, fun w => by kernel_rfl⟩
instance : TInfo PP 188 8 := ⟨fun w => ⟨Tryz.t188, by rw [PP_def]; exact Tryz.typeInfo188 w, rfl⟩⟩
instance : TZero PP 188 [.nilFunc] := ⟨fun w => ⟨.nilFunc, by kernel_rfl, by kernel_rfl⟩⟩
instance : TZeroV PP 188 (.nilFunc) := ⟨fun w => by kernel_rfl⟩
instance : TShape PP 189 false 1 := ⟨fun w => by kernel_rfl, fun w => by kernel_rfl⟩
instance : TInfo PP 189 8 := ⟨fun w => ⟨Tryz.t189, by rw [PP_def]; exact Tryz.typeInfo189 w, rfl⟩⟩
instance : TZero PP 189 [.nilFunc] := ⟨fun w => ⟨.nilFunc, by kernel_rfl, by kernel_rfl⟩⟩
instance : TZeroV PP 189 (.nilFunc) := ⟨fun w => by kernel_rfl⟩
instance : TShape PP 190 false 1 := ⟨fun w => by kernel_rfl, fun w => by kernel_rfl⟩
instance : TInfo PP 190 8 := ⟨fun w => ⟨Tryz.t190, by rw [PP_def]; exact Tryz.typeInfo190 w, rfl⟩⟩
instance : TZero PP 190 [.nilFunc] := ⟨fun w => ⟨.nilFunc, by kernel_rfl, by kernel_rfl⟩⟩
instance : TZeroV PP 190 (.nilFunc) := ⟨fun w => by kernel_rfl⟩
instance : TShape PP 191 false 1 := ⟨fun w => by kernel_rfl, fun w => by kernel_rfl⟩
instance : TInfo PP 191 8 := ⟨fun w => ⟨Tryz.t191, by rw [PP_def]; exact Tryz.typeInfo191 w, rfl⟩⟩
instance : TZero PP 191 [.nilFunc] := ⟨fun w => ⟨.nilFunc, by kernel_rfl, by kernel_rfl⟩⟩
instance : TZeroV PP 191 (.nilFunc) := ⟨fun w => by kernel_rfl⟩
instance : TShape PP 192 false 1 := ⟨fun w => by kernel_rfl, fun w => by kernel_rfl⟩
instance : TInfo PP 192 8 := ⟨fun w => ⟨Tryz.t192, by rw [PP_def]; exact Tryz.typeInfo192 w, rfl⟩⟩
instance : TZero PP 192 [.nilFunc] := ⟨fun w => ⟨.nilFunc, by kernel_rfl, by kernel_rfl⟩⟩
instance : TZeroV PP 192 (.nilFunc) := ⟨fun w => by kernel_rfl⟩
instance : TShape PP 193 false 1 := ⟨fun w => by kernel_rfl, fun w => by kernel_rfl⟩
instance : TInfo PP 193 8 := ⟨fun w => ⟨Tryz.t193, by rw [PP_def]; exact Tryz.typeInfo193 w, rfl⟩⟩
instance : TZero PP 193 [.nilFunc] := ⟨fun w => ⟨.nilFunc, by kernel_rfl, by kernel_rfl⟩⟩
instance : TZeroV PP 193 (.nilFunc) := ⟨fun w => by kernel_rfl⟩
instance : TShape PP 194 false 1 := ⟨fun w => by kernel_rfl, fun w => by kernel_rfl⟩
instance : TInfo PP 194 8 := ⟨fun w => ⟨Tryz.t194, by rw [PP_def]; exact Tryz.typeInfo194 w, rfl⟩⟩
instance : TZero PP 194 [.int .u64 0] := ⟨fun w => ⟨.int .u64 0, by kernel_rfl, by kernel_rfl⟩⟩
instance : TZeroV PP 194 (.int .u64 0) := ⟨fun w => by kernel_rfl⟩
instance : TUnd PP 194 (.int (.u64)) := ⟨by kernel_rfl⟩
instance : TShape PP 195 false 1 := ⟨fun w => by kernel_rfl, fun w => by kernel_rfl⟩
instance : TInfo PP 195 8 := ⟨fun w => ⟨Tryz.t195, by rw [PP_def]; exact Tryz.typeInfo195 w, rfl⟩⟩
instance : TZero PP 195 [.nilFunc] := ⟨fun w => ⟨.nilFunc, by kernel_rfl, by kernel_rfl⟩⟩
instance : TZeroV PP 195 (.nilFunc) := ⟨fun w => by kernel_rfl⟩
instance : TShape PP 196 false 1 := ⟨fun w => by kernel_rfl, fun w => by kernel_rfl⟩
instance : TInfo PP 196 8 := ⟨fun w => ⟨Tryz.t196, by rw [PP_def]; exact Tryz.typeInfo196 w, rfl⟩⟩
instance : TZero PP 196 [.nilFunc] := ⟨fun w => ⟨.nilFunc, by kernel_rfl, by kernel_rfl⟩⟩
instance : TZeroV PP 196 (.nilFunc) := ⟨fun w => by kernel_rfl⟩
instance : TShape PP 197 false 1 := ⟨fun w => by kernel_rfl, fun w => by kernel_rfl⟩
instance : TInfo PP 197 8 := ⟨fun w => ⟨Tryz.t197, by rw [PP_def]; exact Tryz.typeInfo197 w, rfl⟩⟩
instance : TZero PP 197 [.nilFunc] := ⟨fun w => ⟨.nilFunc, by kernel_rfl, by kernel_rfl⟩⟩
instance : TZeroV PP 197 (.nilFunc) := ⟨fun w => by kernel_rfl⟩
instance : TShape PP 198 false 1 := ⟨fun w => by kernel_rfl, fun w => by kernel_rfl⟩
instance : TInfo PP 198 8 := ⟨fun w => ⟨Tryz.t198, by rw [PP_def]; exact Tryz.typeInfo198 w, rfl⟩⟩
instance : TZero PP 198 [.nilFunc] := ⟨fun w => ⟨.nilFunc, by kernel_rfl, by kernel_rfl⟩⟩
instance : TZeroV PP 198 (.nilFunc) := ⟨fun w => by kernel_rfl⟩
instance : TShape PP 199 false 1 := ⟨fun w => by kernel_rfl, fun w => by kernel_rfl⟩
instance : TInfo PP 199 8 := ⟨fun w => ⟨Tryz.t199, by rw [PP_def]; exact Tryz.typeInfo199 w, rfl⟩⟩
instance : TZero PP 199 [.nilFunc] := ⟨fun w => ⟨.nilFunc, by kernel_rfl, by kernel_rfl⟩⟩
instance : TZeroV PP 199 (.nilFunc) := ⟨fun w => by kernel_rfl⟩
instance : TShape PP 200 false 1 := ⟨fun w => by kernel_rfl, fun w => by kernel_rfl⟩
instance : TInfo PP 200 8 := ⟨fun w => ⟨Tryz.t200, by rw [PP_def]; exact Tryz.typeInfo200 w, rfl⟩⟩
instance : TZero PP 200 [.nilFunc] := ⟨fun w => ⟨.nilFunc, by kernel_rfl, by kernel_rfl⟩⟩
instance : TZeroV PP 200 (.nilFunc) := ⟨fun w => by kernel_rfl⟩
instance : TShape PP 201 false 1 := ⟨fun w => by kernel_rfl, fun w => by kernel_rfl⟩
instance : TInfo PP 201 8 := ⟨fun w => ⟨Tryz.t201, by rw [PP_def]; exact Tryz.typeInfo201 w, rfl⟩⟩
instance : TZero PP 201 [.nilFunc] := ⟨fun w => ⟨.nilFunc, by kernel_rfl, by kernel_rfl⟩⟩
instance : TZeroV PP 201 (.nilFunc) := ⟨fun w => by kernel_rfl⟩
instance : TShape PP 202 false 1 := ⟨fun w => by kernel_rfl, fun w => by kernel_rfl⟩
instance : TInfo PP 202 8 := ⟨fun w => ⟨Tryz.t202, by rw [PP_def]; exact Tryz.typeInfo202 w, rfl⟩⟩
instance : TZero PP 202 [.pointer none] := ⟨fun w => ⟨.pointer none, by kernel_rfl, by kernel_rfl⟩⟩
instance : TZeroV PP 202 (.pointer none) := ⟨fun w => by kernel_rfl⟩
instance : TUnd PP 202 (.pointer 194) := ⟨by kernel_rfl⟩
instance : TShape PP 204 false 1 := ⟨fun w => by kernel_rfl, fun w => by kernel_rfl⟩
instance : TInfo PP 204 8 := ⟨fun w => ⟨Tryz.t204, by rw [PP_def]; exact Tryz.typeInfo204 w, rfl⟩⟩
instance : TZero PP 204 [.nilFunc] := ⟨fun w => ⟨.nilFunc, by kernel_rfl, by kernel_rfl⟩⟩
instance : TZeroV PP 204 (.nilFunc) := ⟨fun w => by kernel_rfl⟩
instance : TShape PP 205 false 1 := ⟨fun w => by kernel_rfl, fun w => by kernel_rfl⟩
instance : TInfo PP 205 8 := ⟨fun w => ⟨Tryz.t205, by rw [PP_def]; exact Tryz.typeInfo205 w, rfl⟩⟩
instance : TZero PP 205 [.nilFunc] := ⟨fun w => ⟨.nilFunc, by kernel_rfl, by kernel_rfl⟩⟩
instance : TZeroV PP 205 (.nilFunc) := ⟨fun w => by kernel_rfl⟩
instance : TShape PP 206 false 1 := ⟨fun w => by kernel_rfl, fun w => by kernel_rfl⟩
instance : TInfo PP 206 8 := ⟨fun w => ⟨Tryz.t206, by rw [PP_def]; exact Tryz.typeInfo206 w, rfl⟩⟩
instance : TZero PP 206 [.nilFunc] := ⟨fun w => ⟨.nilFunc, by kernel_rfl, by kernel_rfl⟩⟩
instance : TZeroV PP 206 (.nilFunc) := ⟨fun w => by kernel_rfl⟩
instance : TShape PP 208 false 1 := ⟨fun w => by kernel_rfl, fun w => by kernel_rfl⟩
instance : TInfo PP 208 8 := ⟨fun w => ⟨Tryz.t208, by rw [PP_def]; exact Tryz.typeInfo208 w, rfl⟩⟩
instance : TZero PP 208 [.nilFunc] := ⟨fun w => ⟨.nilFunc, by kernel_rfl, by kernel_rfl⟩⟩
instance : TZeroV PP 208 (.nilFunc) := ⟨fun w => by kernel_rfl⟩
instance : TShape PP 209 false 1 := ⟨fun w => by kernel_rfl, fun w => by kernel_rfl⟩
instance : TInfo PP 209 8 := ⟨fun w => ⟨Tryz.t209, by rw [PP_def]; exact Tryz.typeInfo209 w, rfl⟩⟩
instance : TZero PP 209 [.nilFunc] := ⟨fun w => ⟨.nilFunc, by kernel_rfl, by kernel_rfl⟩⟩
instance : TZeroV PP 209 (.nilFunc) := ⟨fun w => by kernel_rfl⟩
instance : TShape PP 210 true 4 := ⟨fun w => by kernel_rfl, fun w => by kernel_rfl⟩
instance : TInfo PP 210 40 := ⟨fun w => ⟨Tryz.t210, by rw [PP_def]; exact Tryz.typeInfo210 w, rfl⟩⟩
instance : TZero PP 210 [.pointer none, .pointer none, .pointer none, .string ByteArray.empty] := ⟨fun w => ⟨.agg #[.pointer none, .pointer none, .pointer none, .string ByteArray.empty], by kernel_rfl, by kernel_rfl⟩⟩
instance : TZeroV PP 210 (.agg #[.pointer none, .pointer none, .pointer none, .string ByteArray.empty]) := ⟨fun w => by kernel_rfl⟩
instance : TStruct PP 210 [.pointer none, .pointer none, .pointer none, .string ByteArray.empty] [(0, 1), (1, 1), (2, 1), (3, 1)] := ⟨⟨_, by rw [PP_def]; exact Tryz.underlying210, fun w => by kernel_rfl⟩, fun w => ⟨.agg #[.pointer none, .pointer none, .pointer none, .string ByteArray.empty], by kernel_rfl, by kernel_rfl⟩⟩
instance : TField PP 210 0 0 := ⟨fun b o w => by kernel_rfl⟩
instance : TPart PP 210 0 false 0 1 := part_lemma (ft := 17) (by rw [PP_def]; exact Tryz.underlying210) rfl rfl rfl
instance : TField PP 210 1 1 := ⟨fun b o w => by kernel_rfl⟩
instance : TPart PP 210 1 false 1 1 := part_lemma (ft := 17) (by rw [PP_def]; exact Tryz.underlying210) rfl rfl rfl
instance : TField PP 210 2 2 := ⟨fun b o w => by kernel_rfl⟩
instance : TPart PP 210 2 false 2 1 := part_lemma (ft := 17) (by rw [PP_def]; exact Tryz.underlying210) rfl rfl rfl
instance : TField PP 210 3 3 := ⟨fun b o w => by kernel_rfl⟩
instance : TPart PP 210 3 false 3 1 := part_lemma (ft := 9) (by rw [PP_def]; exact Tryz.underlying210) rfl rfl rfl
instance : TShape PP 211 true 4 := ⟨fun w => by kernel_rfl, fun w => by kernel_rfl⟩
instance : TInfo PP 211 40 := ⟨fun w => ⟨Tryz.t211, by rw [PP_def]; exact Tryz.typeInfo211 w, rfl⟩⟩
instance : TZero PP 211 [.pointer none, .pointer none, .pointer none, .string ByteArray.empty] := ⟨fun w => ⟨.agg #[.pointer none, .pointer none, .pointer none, .string ByteArray.empty], by kernel_rfl, by kernel_rfl⟩⟩
instance : TZeroV PP 211 (.agg #[.pointer none, .pointer none, .pointer none, .string ByteArray.empty]) := ⟨fun w => by kernel_rfl⟩
instance : TStruct PP 211 [.pointer none, .pointer none, .pointer none, .string ByteArray.empty] [(0, 1), (1, 1), (2, 1), (3, 1)] := ⟨⟨_, by rw [PP_def]; exact Tryz.underlying211, fun w => by kernel_rfl⟩, fun w => ⟨.agg #[.pointer none, .pointer none, .pointer none, .string ByteArray.empty], by kernel_rfl, by kernel_rfl⟩⟩
instance : TField PP 211 0 0 := ⟨fun b o w => by kernel_rfl⟩
instance : TPart PP 211 0 false 0 1 := part_lemma (ft := 17) (by rw [PP_def]; exact Tryz.underlying211) rfl rfl rfl
instance : TField PP 211 1 1 := ⟨fun b o w => by kernel_rfl⟩
instance : TPart PP 211 1 false 1 1 := part_lemma (ft := 17) (by rw [PP_def]; exact Tryz.underlying211) rfl rfl rfl
instance : TField PP 211 2 2 := ⟨fun b o w => by kernel_rfl⟩
instance : TPart PP 211 2 false 2 1 := part_lemma (ft := 17) (by rw [PP_def]; exact Tryz.underlying211) rfl rfl rfl
instance : TField PP 211 3 3 := ⟨fun b o w => by kernel_rfl⟩
instance : TPart PP 211 3 false 3 1 := part_lemma (ft := 9) (by rw [PP_def]; exact Tryz.underlying211) rfl rfl rfl
instance : TShape PP 212 true 0 := ⟨fun w => by kernel_rfl, fun w => by kernel_rfl⟩
instance : TInfo PP 212 0 := ⟨fun w => ⟨Tryz.t212, by rw [PP_def]; exact Tryz.typeInfo212 w, rfl⟩⟩
instance : TZero PP 212 [] := ⟨fun w => ⟨.agg #[], by kernel_rfl, by kernel_rfl⟩⟩
instance : TZeroV PP 212 (.agg #[]) := ⟨fun w => by kernel_rfl⟩
instance : TUnd PP 212 (.array 0 16) := ⟨by kernel_rfl⟩
instance : TShape PP 213 true 0 := ⟨fun w => by kernel_rfl, fun w => by kernel_rfl⟩
instance : TInfo PP 213 0 := ⟨fun w => ⟨Tryz.t213, by rw [PP_def]; exact Tryz.typeInfo213 w, rfl⟩⟩
instance : TZero PP 213 [] := ⟨fun w => ⟨.agg #[], by kernel_rfl, by kernel_rfl⟩⟩
instance : TZeroV PP 213 (.agg #[]) := ⟨fun w => by kernel_rfl⟩
instance : TShape PP 214 true 0 := ⟨fun w => by kernel_rfl, fun w => by kernel_rfl⟩
instance : TInfo PP 214 0 := ⟨fun w => ⟨Tryz.t214, by rw [PP_def]; exact Tryz.typeInfo214 w, rfl⟩⟩
instance : TZero PP 214 [] := ⟨fun w => ⟨.agg #[], by kernel_rfl, by kernel_rfl⟩⟩
instance : TZeroV PP 214 (.agg #[]) := ⟨fun w => by kernel_rfl⟩
instance : TShape PP 215 false 1 := ⟨fun w => by kernel_rfl, fun w => by kernel_rfl⟩
instance : TInfo PP 215 8 := ⟨fun w => ⟨Tryz.t215, by rw [PP_def]; exact Tryz.typeInfo215 w, rfl⟩⟩
instance : TZero PP 215 [.nilFunc] := ⟨fun w => ⟨.nilFunc, by kernel_rfl, by kernel_rfl⟩⟩
instance : TZeroV PP 215 (.nilFunc) := ⟨fun w => by kernel_rfl⟩
instance : TShape PP 216 false 1 := ⟨fun w => by kernel_rfl, fun w => by kernel_rfl⟩
instance : TInfo PP 216 1 := ⟨fun w => ⟨Tryz.t216, by rw [PP_def]; exact Tryz.typeInfo216 w, rfl⟩⟩
instance : TZero PP 216 [.int .u8 0] := ⟨fun w => ⟨.int .u8 0, by kernel_rfl, by kernel_rfl⟩⟩
instance : TZeroV PP 216 (.int .u8 0) := ⟨fun w => by kernel_rfl⟩
instance : TUnd PP 216 (.int (.u8)) := ⟨by kernel_rfl⟩
instance : TShape PP 217 false 1 := ⟨fun w => by kernel_rfl, fun w => by kernel_rfl⟩
instance : TInfo PP 217 1 := ⟨fun w => ⟨Tryz.t217, by rw [PP_def]; exact Tryz.typeInfo217 w, rfl⟩⟩
instance : TZero PP 217 [.int .u8 0] := ⟨fun w => ⟨.int .u8 0, by kernel_rfl, by kernel_rfl⟩⟩
instance : TZeroV PP 217 (.int .u8 0) := ⟨fun w => by kernel_rfl⟩
instance : TUnd PP 217 (.int (.u8)) := ⟨by kernel_rfl⟩
instance : TShape PP 218 false 1 := ⟨fun w => by kernel_rfl, fun w => by kernel_rfl⟩
instance : TInfo PP 218 8 := ⟨fun w => ⟨Tryz.t218, by rw [PP_def]; exact Tryz.typeInfo218 w, rfl⟩⟩
instance : TZero PP 218 [.nilFunc] := ⟨fun w => ⟨.nilFunc, by kernel_rfl, by kernel_rfl⟩⟩
instance : TZeroV PP 218 (.nilFunc) := ⟨fun w => by kernel_rfl⟩
instance : TShape PP 219 false 1 := ⟨fun w => by kernel_rfl, fun w => by kernel_rfl⟩
instance : TInfo PP 219 8 := ⟨fun w => ⟨Tryz.t219, by rw [PP_def]; exact Tryz.typeInfo219 w, rfl⟩⟩
instance : TZero PP 219 [.pointer none] := ⟨fun w => ⟨.pointer none, by kernel_rfl, by kernel_rfl⟩⟩
instance : TZeroV PP 219 (.pointer none) := ⟨fun w => by kernel_rfl⟩
instance : TUnd PP 219 (.pointer 5) := ⟨by kernel_rfl⟩
instance : TShape PP 220 false 1 := ⟨fun w => by kernel_rfl, fun w => by kernel_rfl⟩
instance : TInfo PP 220 4 := ⟨fun w => ⟨Tryz.t220, by rw [PP_def]; exact Tryz.typeInfo220 w, rfl⟩⟩
instance : TZero PP 220 [.int .i32 0] := ⟨fun w => ⟨.int .i32 0, by kernel_rfl, by kernel_rfl⟩⟩
instance : TZeroV PP 220 (.int .i32 0) := ⟨fun w => by kernel_rfl⟩
instance : TUnd PP 220 (.int (.i32)) := ⟨by kernel_rfl⟩
instance : TShape PP 221 false 1 := ⟨fun w => by kernel_rfl, fun w => by kernel_rfl⟩
instance : TInfo PP 221 4 := ⟨fun w => ⟨Tryz.t221, by rw [PP_def]; exact Tryz.typeInfo221 w, rfl⟩⟩
instance : TZero PP 221 [.int .i32 0] := ⟨fun w => ⟨.int .i32 0, by kernel_rfl, by kernel_rfl⟩⟩
instance : TZeroV PP 221 (.int .i32 0) := ⟨fun w => by kernel_rfl⟩
instance : TUnd PP 221 (.int (.i32)) := ⟨by kernel_rfl⟩
instance : TShape PP 222 true 11 := ⟨fun w => by kernel_rfl, fun w => by kernel_rfl⟩
instance : TInfo PP 222 48 := ⟨fun w => ⟨Tryz.t222, by rw [PP_def]; exact Tryz.typeInfo222 w, rfl⟩⟩
instance : TZero PP 222 [.int .u64 0, .int .u64 0, .int .u32 0, .int .u8 0, .int .u8 0, .int .u8 0, .int .u8 0, .nilFunc, .pointer none, .int .i32 0, .int .i32 0] := ⟨fun w => ⟨.agg #[.int .u64 0, .int .u64 0, .int .u32 0, .int .u8 0, .int .u8 0, .int .u8 0, .int .u8 0, .nilFunc, .pointer none, .int .i32 0, .int .i32 0], by kernel_rfl, by kernel_rfl⟩⟩
instance : TZeroV PP 222 (.agg #[.int .u64 0, .int .u64 0, .int .u32 0, .int .u8 0, .int .u8 0, .int .u8 0, .int .u8 0, .nilFunc, .pointer none, .int .i32 0, .int .i32 0]) := ⟨fun w => by kernel_rfl⟩
instance : TStruct PP 222 [.int .u64 0, .int .u64 0, .int .u32 0, .int .u8 0, .int .u8 0, .int .u8 0, .int .u8 0, .nilFunc, .pointer none, .int .i32 0, .int .i32 0] [(0, 1), (1, 1), (2, 1), (3, 1), (4, 1), (5, 1), (6, 1), (7, 1), (8, 1), (9, 1), (10, 1)] := ⟨⟨_, by rw [PP_def]; exact Tryz.underlying222, fun w => by kernel_rfl⟩, fun w => ⟨.agg #[.int .u64 0, .int .u64 0, .int .u32 0, .int .u8 0, .int .u8 0, .int .u8 0, .int .u8 0, .nilFunc, .pointer none, .int .i32 0, .int .i32 0], by kernel_rfl, by kernel_rfl⟩⟩
instance : TField PP 222 0 0 := ⟨fun b o w => by kernel_rfl⟩
instance : TPart PP 222 0 false 0 1 := part_lemma (ft := 12) (by rw [PP_def]; exact Tryz.underlying222) rfl rfl rfl
instance : TField PP 222 1 1 := ⟨fun b o w => by kernel_rfl⟩
instance : TPart PP 222 1 false 1 1 := part_lemma (ft := 12) (by rw [PP_def]; exact Tryz.underlying222) rfl rfl rfl
instance : TField PP 222 2 2 := ⟨fun b o w => by kernel_rfl⟩
instance : TPart PP 222 2 false 2 1 := part_lemma (ft := 66) (by rw [PP_def]; exact Tryz.underlying222) rfl rfl rfl
instance : TField PP 222 3 3 := ⟨fun b o w => by kernel_rfl⟩
instance : TPart PP 222 3 false 3 1 := part_lemma (ft := 216) (by rw [PP_def]; exact Tryz.underlying222) rfl rfl rfl
instance : TField PP 222 4 4 := ⟨fun b o w => by kernel_rfl⟩
instance : TPart PP 222 4 false 4 1 := part_lemma (ft := 5) (by rw [PP_def]; exact Tryz.underlying222) rfl rfl rfl
instance : TField PP 222 5 5 := ⟨fun b o w => by kernel_rfl⟩
instance : TPart PP 222 5 false 5 1 := part_lemma (ft := 5) (by rw [PP_def]; exact Tryz.underlying222) rfl rfl rfl
instance : TField PP 222 6 6 := ⟨fun b o w => by kernel_rfl⟩
instance : TPart PP 222 6 false 6 1 := part_lemma (ft := 217) (by rw [PP_def]; exact Tryz.underlying222) rfl rfl rfl
instance : TField PP 222 7 7 := ⟨fun b o w => by kernel_rfl⟩
instance : TPart PP 222 7 false 7 1 := part_lemma (ft := 218) (by rw [PP_def]; exact Tryz.underlying222) rfl rfl rfl
instance : TField PP 222 8 8 := ⟨fun b o w => by kernel_rfl⟩
instance : TPart PP 222 8 false 8 1 := part_lemma (ft := 219) (by rw [PP_def]; exact Tryz.underlying222) rfl rfl rfl
instance : TField PP 222 9 9 := ⟨fun b o w => by kernel_rfl⟩
instance : TPart PP 222 9 false 9 1 := part_lemma (ft := 220) (by rw [PP_def]; exact Tryz.underlying222) rfl rfl rfl
instance : TField PP 222 10 10 := ⟨fun b o w => by kernel_rfl⟩
instance : TPart PP 222 10 false 10 1 := part_lemma (ft := 221) (by rw [PP_def]; exact Tryz.underlying222) rfl rfl rfl
instance : TShape PP 223 true 11 := ⟨fun w => by kernel_rfl, fun w => by kernel_rfl⟩
instance : TInfo PP 223 48 := ⟨fun w => ⟨Tryz.t223, by rw [PP_def]; exact Tryz.typeInfo223 w, rfl⟩⟩
instance : TZero PP 223 [.int .u64 0, .int .u64 0, .int .u32 0, .int .u8 0, .int .u8 0, .int .u8 0, .int .u8 0, .nilFunc, .pointer none, .int .i32 0, .int .i32 0] := ⟨fun w => ⟨.agg #[.int .u64 0, .int .u64 0, .int .u32 0, .int .u8 0, .int .u8 0, .int .u8 0, .int .u8 0, .nilFunc, .pointer none, .int .i32 0, .int .i32 0], by kernel_rfl, by kernel_rfl⟩⟩
instance : TZeroV PP 223 (.agg #[.int .u64 0, .int .u64 0, .int .u32 0, .int .u8 0, .int .u8 0, .int .u8 0, .int .u8 0, .nilFunc, .pointer none, .int .i32 0, .int .i32 0]) := ⟨fun w => by kernel_rfl⟩
instance : TStruct PP 223 [.int .u64 0, .int .u64 0, .int .u32 0, .int .u8 0, .int .u8 0, .int .u8 0, .int .u8 0, .nilFunc, .pointer none, .int .i32 0, .int .i32 0] [(0, 1), (1, 1), (2, 1), (3, 1), (4, 1), (5, 1), (6, 1), (7, 1), (8, 1), (9, 1), (10, 1)] := ⟨⟨_, by rw [PP_def]; exact Tryz.underlying223, fun w => by kernel_rfl⟩, fun w => ⟨.agg #[.int .u64 0, .int .u64 0, .int .u32 0, .int .u8 0, .int .u8 0, .int .u8 0, .int .u8 0, .nilFunc, .pointer none, .int .i32 0, .int .i32 0], by kernel_rfl, by kernel_rfl⟩⟩
instance : TField PP 223 0 0 := ⟨fun b o w => by kernel_rfl⟩
instance : TPart PP 223 0 false 0 1 := part_lemma (ft := 12) (by rw [PP_def]; exact Tryz.underlying223) rfl rfl rfl
instance : TField PP 223 1 1 := ⟨fun b o w => by kernel_rfl⟩
instance : TPart PP 223 1 false 1 1 := part_lemma (ft := 12) (by rw [PP_def]; exact Tryz.underlying223) rfl rfl rfl
instance : TField PP 223 2 2 := ⟨fun b o w => by kernel_rfl⟩
instance : TPart PP 223 2 false 2 1 := part_lemma (ft := 66) (by rw [PP_def]; exact Tryz.underlying223) rfl rfl rfl
instance : TField PP 223 3 3 := ⟨fun b o w => by kernel_rfl⟩
instance : TPart PP 223 3 false 3 1 := part_lemma (ft := 216) (by rw [PP_def]; exact Tryz.underlying223) rfl rfl rfl
instance : TField PP 223 4 4 := ⟨fun b o w => by kernel_rfl⟩
instance : TPart PP 223 4 false 4 1 := part_lemma (ft := 5) (by rw [PP_def]; exact Tryz.underlying223) rfl rfl rfl
instance : TField PP 223 5 5 := ⟨fun b o w => by kernel_rfl⟩
instance : TPart PP 223 5 false 5 1 := part_lemma (ft := 5) (by rw [PP_def]; exact Tryz.underlying223) rfl rfl rfl
instance : TField PP 223 6 6 := ⟨fun b o w => by kernel_rfl⟩
instance : TPart PP 223 6 false 6 1 := part_lemma (ft := 217) (by rw [PP_def]; exact Tryz.underlying223) rfl rfl rfl
instance : TField PP 223 7 7 := ⟨fun b o w => by kernel_rfl⟩
instance : TPart PP 223 7 false 7 1 := part_lemma (ft := 218) (by rw [PP_def]; exact Tryz.underlying223) rfl rfl rfl
instance : TField PP 223 8 8 := ⟨fun b o w => by kernel_rfl⟩
instance : TPart PP 223 8 false 8 1 := part_lemma (ft := 219) (by rw [PP_def]; exact Tryz.underlying223) rfl rfl rfl
instance : TField PP 223 9 9 := ⟨fun b o w => by kernel_rfl⟩
instance : TPart PP 223 9 false 9 1 := part_lemma (ft := 220) (by rw [PP_def]; exact Tryz.underlying223) rfl rfl rfl
instance : TField PP 223 10 10 := ⟨fun b o w => by kernel_rfl⟩
instance : TPart PP 223 10 false 10 1 := part_lemma (ft := 221) (by rw [PP_def]; exact Tryz.underlying223) rfl rfl rfl
instance : TShape PP 224 false 1 := ⟨fun w => by kernel_rfl, fun w => by kernel_rfl⟩
instance : TInfo PP 224 8 := ⟨fun w => ⟨Tryz.t224, by rw [PP_def]; exact Tryz.typeInfo224 w, rfl⟩⟩
instance : TZero PP 224 [.nilFunc] := ⟨fun w => ⟨.nilFunc, by kernel_rfl, by kernel_rfl⟩⟩
instance : TZeroV PP 224 (.nilFunc) := ⟨fun w => by kernel_rfl⟩
instance : TShape PP 225 false 1 := ⟨fun w => by kernel_rfl, fun w => by kernel_rfl⟩
instance : TInfo PP 225 8 := ⟨fun w => ⟨Tryz.t225, by rw [PP_def]; exact Tryz.typeInfo225 w, rfl⟩⟩
instance : TZero PP 225 [.pointer none] := ⟨fun w => ⟨.pointer none, by kernel_rfl, by kernel_rfl⟩⟩
instance : TZeroV PP 225 (.pointer none) := ⟨fun w => by kernel_rfl⟩
instance : TShape PP 226 false 1 := ⟨fun w => by kernel_rfl, fun w => by kernel_rfl⟩
instance : TInfo PP 226 8 := ⟨fun w => ⟨Tryz.t226, by rw [PP_def]; exact Tryz.typeInfo226 w, rfl⟩⟩
instance : TZero PP 226 [.map none] := ⟨fun w => ⟨.map none, by kernel_rfl, by kernel_rfl⟩⟩
instance : TZeroV PP 226 (.map none) := ⟨fun w => by kernel_rfl⟩
instance : TUnd PP 226 (.map 28 2) := ⟨by kernel_rfl⟩
theorem en8 : Enters PP 8 := fun args w => by rw [PP_def]; exact Tryz.call8 args w
theorem fn8 : PP.funcs[8]? = some Tryz.f8 := by rw [PP_def]; exact Tryz.func8
theorem en9 : Enters PP 9 := fun args w => by rw [PP_def]; exact Tryz.call9 args w
theorem fn9 : PP.funcs[9]? = some Tryz.f9 := by rw [PP_def]; exact Tryz.func9
theorem en10 : Enters PP 10 := fun args w => by rw [PP_def]; exact Tryz.call10 args w
theorem fn10 : PP.funcs[10]? = some Tryz.f10 := by rw [PP_def]; exact Tryz.func10
theorem en11 : Enters PP 11 := fun args w => by rw [PP_def]; exact Tryz.call11 args w
theorem fn11 : PP.funcs[11]? = some Tryz.f11 := by rw [PP_def]; exact Tryz.func11
theorem en13 : Enters PP 13 := fun args w => by rw [PP_def]; exact Tryz.call13 args w
theorem fn13 : PP.funcs[13]? = some Tryz.f13 := by rw [PP_def]; exact Tryz.func13
theorem en14 : Enters PP 14 := fun args w => by rw [PP_def]; exact Tryz.call14 args w
theorem fn14 : PP.funcs[14]? = some Tryz.f14 := by rw [PP_def]; exact Tryz.func14
theorem en15 : Enters PP 15 := fun args w => by rw [PP_def]; exact Tryz.call15 args w
theorem fn15 : PP.funcs[15]? = some Tryz.f15 := by rw [PP_def]; exact Tryz.func15
theorem en16 : Enters PP 16 := fun args w => by rw [PP_def]; exact Tryz.call16 args w
theorem fn16 : PP.funcs[16]? = some Tryz.f16 := by rw [PP_def]; exact Tryz.func16
theorem en18 : Enters PP 18 := fun args w => by rw [PP_def]; exact Tryz.call18 args w
theorem fn18 : PP.funcs[18]? = some Tryz.f18 := by rw [PP_def]; exact Tryz.func18
theorem en19 : Enters PP 19 := fun args w => by rw [PP_def]; exact Tryz.call19 args w
theorem fn19 : PP.funcs[19]? = some Tryz.f19 := by rw [PP_def]; exact Tryz.func19
theorem en21 : Enters PP 21 := fun args w => by rw [PP_def]; exact Tryz.call21 args w
theorem fn21 : PP.funcs[21]? = some Tryz.f21 := by rw [PP_def]; exact Tryz.func21
theorem en22 : Enters PP 22 := fun args w => by rw [PP_def]; exact Tryz.call22 args w
theorem fn22 : PP.funcs[22]? = some Tryz.f22 := by rw [PP_def]; exact Tryz.func22
theorem en24 : Enters PP 24 := fun args w => by rw [PP_def]; exact Tryz.call24 args w
theorem fn24 : PP.funcs[24]? = some Tryz.f24 := by rw [PP_def]; exact Tryz.func24
theorem en25 : Enters PP 25 := fun args w => by rw [PP_def]; exact Tryz.call25 args w
theorem fn25 : PP.funcs[25]? = some Tryz.f25 := by rw [PP_def]; exact Tryz.func25
theorem en26 : Enters PP 26 := fun args w => by rw [PP_def]; exact Tryz.call26 args w
theorem fn26 : PP.funcs[26]? = some Tryz.f26 := by rw [PP_def]; exact Tryz.func26
theorem en36 : Enters PP 36 := fun args w => by rw [PP_def]; exact Tryz.call36 args w
theorem fn36 : PP.funcs[36]? = some Tryz.f36 := by rw [PP_def]; exact Tryz.func36
theorem en37 : Enters PP 37 := fun args w => by rw [PP_def]; exact Tryz.call37 args w
theorem fn37 : PP.funcs[37]? = some Tryz.f37 := by rw [PP_def]; exact Tryz.func37
theorem en38 : Enters PP 38 := fun args w => by rw [PP_def]; exact Tryz.call38 args w
theorem fn38 : PP.funcs[38]? = some Tryz.f38 := by rw [PP_def]; exact Tryz.func38
theorem en39 : Enters PP 39 := fun args w => by rw [PP_def]; exact Tryz.call39 args w
theorem fn39 : PP.funcs[39]? = some Tryz.f39 := by rw [PP_def]; exact Tryz.func39
theorem en40 : Enters PP 40 := fun args w => by rw [PP_def]; exact Tryz.call40 args w
theorem fn40 : PP.funcs[40]? = some Tryz.f40 := by rw [PP_def]; exact Tryz.func40
theorem en43 : Enters PP 43 := fun args w => by rw [PP_def]; exact Tryz.call43 args w
theorem fn43 : PP.funcs[43]? = some Tryz.f43 := by rw [PP_def]; exact Tryz.func43
theorem en44 : Enters PP 44 := fun args w => by rw [PP_def]; exact Tryz.call44 args w
theorem fn44 : PP.funcs[44]? = some Tryz.f44 := by rw [PP_def]; exact Tryz.func44
theorem en45 : Enters PP 45 := fun args w => by rw [PP_def]; exact Tryz.call45 args w
theorem fn45 : PP.funcs[45]? = some Tryz.f45 := by rw [PP_def]; exact Tryz.func45
theorem en46 : Enters PP 46 := fun args w => by rw [PP_def]; exact Tryz.call46 args w
theorem fn46 : PP.funcs[46]? = some Tryz.f46 := by rw [PP_def]; exact Tryz.func46
theorem en47 : Enters PP 47 := fun args w => by rw [PP_def]; exact Tryz.call47 args w
theorem fn47 : PP.funcs[47]? = some Tryz.f47 := by rw [PP_def]; exact Tryz.func47
theorem en48 : Enters PP 48 := fun args w => by rw [PP_def]; exact Tryz.call48 args w
theorem fn48 : PP.funcs[48]? = some Tryz.f48 := by rw [PP_def]; exact Tryz.func48
theorem en49 : Enters PP 49 := fun args w => by rw [PP_def]; exact Tryz.call49 args w
theorem fn49 : PP.funcs[49]? = some Tryz.f49 := by rw [PP_def]; exact Tryz.func49
theorem en50 : Enters PP 50 := fun args w => by rw [PP_def]; exact Tryz.call50 args w
theorem fn50 : PP.funcs[50]? = some Tryz.f50 := by rw [PP_def]; exact Tryz.func50
theorem en51 : Enters PP 51 := fun args w => by rw [PP_def]; exact Tryz.call51 args w
theorem fn51 : PP.funcs[51]? = some Tryz.f51 := by rw [PP_def]; exact Tryz.func51
theorem en52 : Enters PP 52 := fun args w => by rw [PP_def]; exact Tryz.call52 args w
theorem fn52 : PP.funcs[52]? = some Tryz.f52 := by rw [PP_def]; exact Tryz.func52
theorem en53 : Enters PP 53 := fun args w => by rw [PP_def]; exact Tryz.call53 args w
theorem fn53 : PP.funcs[53]? = some Tryz.f53 := by rw [PP_def]; exact Tryz.func53
theorem en54 : Enters PP 54 := fun args w => by rw [PP_def]; exact Tryz.call54 args w
theorem fn54 : PP.funcs[54]? = some Tryz.f54 := by rw [PP_def]; exact Tryz.func54
theorem en55 : Enters PP 55 := fun args w => by rw [PP_def]; exact Tryz.call55 args w
theorem fn55 : PP.funcs[55]? = some Tryz.f55 := by rw [PP_def]; exact Tryz.func55
theorem en56 : Enters PP 56 := fun args w => by rw [PP_def]; exact Tryz.call56 args w
theorem fn56 : PP.funcs[56]? = some Tryz.f56 := by rw [PP_def]; exact Tryz.func56
theorem en57 : Enters PP 57 := fun args w => by rw [PP_def]; exact Tryz.call57 args w
theorem fn57 : PP.funcs[57]? = some Tryz.f57 := by rw [PP_def]; exact Tryz.func57
theorem en58 : Enters PP 58 := fun args w => by rw [PP_def]; exact Tryz.call58 args w
theorem fn58 : PP.funcs[58]? = some Tryz.f58 := by rw [PP_def]; exact Tryz.func58
theorem en59 : Enters PP 59 := fun args w => by rw [PP_def]; exact Tryz.call59 args w
theorem fn59 : PP.funcs[59]? = some Tryz.f59 := by rw [PP_def]; exact Tryz.func59
theorem en60 : Enters PP 60 := fun args w => by rw [PP_def]; exact Tryz.call60 args w
theorem fn60 : PP.funcs[60]? = some Tryz.f60 := by rw [PP_def]; exact Tryz.func60
theorem en61 : Enters PP 61 := fun args w => by rw [PP_def]; exact Tryz.call61 args w
theorem fn61 : PP.funcs[61]? = some Tryz.f61 := by rw [PP_def]; exact Tryz.func61
theorem en62 : Enters PP 62 := fun args w => by rw [PP_def]; exact Tryz.call62 args w
theorem fn62 : PP.funcs[62]? = some Tryz.f62 := by rw [PP_def]; exact Tryz.func62
theorem en63 : Enters PP 63 := fun args w => by rw [PP_def]; exact Tryz.call63 args w
theorem fn63 : PP.funcs[63]? = some Tryz.f63 := by rw [PP_def]; exact Tryz.func63
theorem en65 : Enters PP 65 := fun args w => by rw [PP_def]; exact Tryz.call65 args w
theorem fn65 : PP.funcs[65]? = some Tryz.f65 := by rw [PP_def]; exact Tryz.func65
theorem en66 : Enters PP 66 := fun args w => by rw [PP_def]; exact Tryz.call66 args w
theorem fn66 : PP.funcs[66]? = some Tryz.f66 := by rw [PP_def]; exact Tryz.func66
theorem en67 : Enters PP 67 := fun args w => by rw [PP_def]; exact Tryz.call67 args w
theorem fn67 : PP.funcs[67]? = some Tryz.f67 := by rw [PP_def]; exact Tryz.func67
theorem en68 : Enters PP 68 := fun args w => by rw [PP_def]; exact Tryz.call68 args w
theorem fn68 : PP.funcs[68]? = some Tryz.f68 := by rw [PP_def]; exact Tryz.func68
theorem en69 : Enters PP 69 := fun args w => by rw [PP_def]; exact Tryz.call69 args w
theorem fn69 : PP.funcs[69]? = some Tryz.f69 := by rw [PP_def]; exact Tryz.func69
theorem en70 : Enters PP 70 := fun args w => by rw [PP_def]; exact Tryz.call70 args w
theorem fn70 : PP.funcs[70]? = some Tryz.f70 := by rw [PP_def]; exact Tryz.func70
theorem en71 : Enters PP 71 := fun args w => by rw [PP_def]; exact Tryz.call71 args w
theorem fn71 : PP.funcs[71]? = some Tryz.f71 := by rw [PP_def]; exact Tryz.func71
theorem en72 : Enters PP 72 := fun args w => by rw [PP_def]; exact Tryz.call72 args w
theorem fn72 : PP.funcs[72]? = some Tryz.f72 := by rw [PP_def]; exact Tryz.func72
theorem en80 : Enters PP 80 := fun args w => by rw [PP_def]; exact Tryz.call80 args w
theorem fn80 : PP.funcs[80]? = some Tryz.f80 := by rw [PP_def]; exact Tryz.func80
theorem en81 : Enters PP 81 := fun args w => by rw [PP_def]; exact Tryz.call81 args w
theorem fn81 : PP.funcs[81]? = some Tryz.f81 := by rw [PP_def]; exact Tryz.func81
theorem en82 : Enters PP 82 := fun args w => by rw [PP_def]; exact Tryz.call82 args w
theorem fn82 : PP.funcs[82]? = some Tryz.f82 := by rw [PP_def]; exact Tryz.func82
theorem en83 : Enters PP 83 := fun args w => by rw [PP_def]; exact Tryz.call83 args w
theorem fn83 : PP.funcs[83]? = some Tryz.f83 := by rw [PP_def]; exact Tryz.func83
theorem en84 : Enters PP 84 := fun args w => by rw [PP_def]; exact Tryz.call84 args w
theorem fn84 : PP.funcs[84]? = some Tryz.f84 := by rw [PP_def]; exact Tryz.func84
theorem en85 : Enters PP 85 := fun args w => by rw [PP_def]; exact Tryz.call85 args w
theorem fn85 : PP.funcs[85]? = some Tryz.f85 := by rw [PP_def]; exact Tryz.func85
theorem en86 : Enters PP 86 := fun args w => by rw [PP_def]; exact Tryz.call86 args w
theorem fn86 : PP.funcs[86]? = some Tryz.f86 := by rw [PP_def]; exact Tryz.func86
theorem en87 : Enters PP 87 := fun args w => by rw [PP_def]; exact Tryz.call87 args w
theorem fn87 : PP.funcs[87]? = some Tryz.f87 := by rw [PP_def]; exact Tryz.func87
theorem en88 : Enters PP 88 := fun args w => by rw [PP_def]; exact Tryz.call88 args w
theorem fn88 : PP.funcs[88]? = some Tryz.f88 := by rw [PP_def]; exact Tryz.func88
theorem en89 : Enters PP 89 := fun args w => by rw [PP_def]; exact Tryz.call89 args w
theorem fn89 : PP.funcs[89]? = some Tryz.f89 := by rw [PP_def]; exact Tryz.func89
theorem en90 : Enters PP 90 := fun args w => by rw [PP_def]; exact Tryz.call90 args w
theorem fn90 : PP.funcs[90]? = some Tryz.f90 := by rw [PP_def]; exact Tryz.func90
theorem en91 : Enters PP 91 := fun args w => by rw [PP_def]; exact Tryz.call91 args w
theorem fn91 : PP.funcs[91]? = some Tryz.f91 := by rw [PP_def]; exact Tryz.func91
theorem en103 : Enters PP 103 := fun args w => by rw [PP_def]; exact Tryz.call103 args w
theorem fn103 : PP.funcs[103]? = some Tryz.f103 := by rw [PP_def]; exact Tryz.func103
theorem en104 : Enters PP 104 := fun args w => by rw [PP_def]; exact Tryz.call104 args w
theorem fn104 : PP.funcs[104]? = some Tryz.f104 := by rw [PP_def]; exact Tryz.func104
theorem en105 : Enters PP 105 := fun args w => by rw [PP_def]; exact Tryz.call105 args w
theorem fn105 : PP.funcs[105]? = some Tryz.f105 := by rw [PP_def]; exact Tryz.func105
theorem en106 : Enters PP 106 := fun args w => by rw [PP_def]; exact Tryz.call106 args w
theorem fn106 : PP.funcs[106]? = some Tryz.f106 := by rw [PP_def]; exact Tryz.func106
theorem en107 : Enters PP 107 := fun args w => by rw [PP_def]; exact Tryz.call107 args w
theorem fn107 : PP.funcs[107]? = some Tryz.f107 := by rw [PP_def]; exact Tryz.func107
theorem en108 : Enters PP 108 := fun args w => by rw [PP_def]; exact Tryz.call108 args w
theorem fn108 : PP.funcs[108]? = some Tryz.f108 := by rw [PP_def]; exact Tryz.func108
theorem en109 : Enters PP 109 := fun args w => by rw [PP_def]; exact Tryz.call109 args w
theorem fn109 : PP.funcs[109]? = some Tryz.f109 := by rw [PP_def]; exact Tryz.func109
theorem en110 : Enters PP 110 := fun args w => by rw [PP_def]; exact Tryz.call110 args w
theorem fn110 : PP.funcs[110]? = some Tryz.f110 := by rw [PP_def]; exact Tryz.func110
theorem en111 : Enters PP 111 := fun args w => by rw [PP_def]; exact Tryz.call111 args w
theorem fn111 : PP.funcs[111]? = some Tryz.f111 := by rw [PP_def]; exact Tryz.func111
theorem en112 : Enters PP 112 := fun args w => by rw [PP_def]; exact Tryz.call112 args w
theorem fn112 : PP.funcs[112]? = some Tryz.f112 := by rw [PP_def]; exact Tryz.func112
theorem en113 : Enters PP 113 := fun args w => by rw [PP_def]; exact Tryz.call113 args w
theorem fn113 : PP.funcs[113]? = some Tryz.f113 := by rw [PP_def]; exact Tryz.func113
theorem en114 : Enters PP 114 := fun args w => by rw [PP_def]; exact Tryz.call114 args w
theorem fn114 : PP.funcs[114]? = some Tryz.f114 := by rw [PP_def]; exact Tryz.func114
theorem en115 : Enters PP 115 := fun args w => by rw [PP_def]; exact Tryz.call115 args w
theorem fn115 : PP.funcs[115]? = some Tryz.f115 := by rw [PP_def]; exact Tryz.func115
theorem en116 : Enters PP 116 := fun args w => by rw [PP_def]; exact Tryz.call116 args w
theorem fn116 : PP.funcs[116]? = some Tryz.f116 := by rw [PP_def]; exact Tryz.func116
theorem en117 : Enters PP 117 := fun args w => by rw [PP_def]; exact Tryz.call117 args w
theorem fn117 : PP.funcs[117]? = some Tryz.f117 := by rw [PP_def]; exact Tryz.func117
theorem en119 : Enters PP 119 := fun args w => by rw [PP_def]; exact Tryz.call119 args w
theorem fn119 : PP.funcs[119]? = some Tryz.f119 := by rw [PP_def]; exact Tryz.func119
theorem en121 : Enters PP 121 := fun args w => by rw [PP_def]; exact Tryz.call121 args w
theorem fn121 : PP.funcs[121]? = some Tryz.f121 := by rw [PP_def]; exact Tryz.func121
theorem en122 : Enters PP 122 := fun args w => by rw [PP_def]; exact Tryz.call122 args w
theorem fn122 : PP.funcs[122]? = some Tryz.f122 := by rw [PP_def]; exact Tryz.func122
theorem en123 : Enters PP 123 := fun args w => by rw [PP_def]; exact Tryz.call123 args w
theorem fn123 : PP.funcs[123]? = some Tryz.f123 := by rw [PP_def]; exact Tryz.func123
theorem en124 : Enters PP 124 := fun args w => by rw [PP_def]; exact Tryz.call124 args w
theorem fn124 : PP.funcs[124]? = some Tryz.f124 := by rw [PP_def]; exact Tryz.func124
theorem en125 : Enters PP 125 := fun args w => by rw [PP_def]; exact Tryz.call125 args w
theorem fn125 : PP.funcs[125]? = some Tryz.f125 := by rw [PP_def]; exact Tryz.func125
theorem en126 : Enters PP 126 := fun args w => by rw [PP_def]; exact Tryz.call126 args w
theorem fn126 : PP.funcs[126]? = some Tryz.f126 := by rw [PP_def]; exact Tryz.func126
theorem en127 : Enters PP 127 := fun args w => by rw [PP_def]; exact Tryz.call127 args w
theorem fn127 : PP.funcs[127]? = some Tryz.f127 := by rw [PP_def]; exact Tryz.func127
theorem en128 : Enters PP 128 := fun args w => by rw [PP_def]; exact Tryz.call128 args w
theorem fn128 : PP.funcs[128]? = some Tryz.f128 := by rw [PP_def]; exact Tryz.func128
theorem en129 : Enters PP 129 := fun args w => by rw [PP_def]; exact Tryz.call129 args w
theorem fn129 : PP.funcs[129]? = some Tryz.f129 := by rw [PP_def]; exact Tryz.func129
theorem en130 : Enters PP 130 := fun args w => by rw [PP_def]; exact Tryz.call130 args w
theorem fn130 : PP.funcs[130]? = some Tryz.f130 := by rw [PP_def]; exact Tryz.func130
theorem en131 : Enters PP 131 := fun args w => by rw [PP_def]; exact Tryz.call131 args w
theorem fn131 : PP.funcs[131]? = some Tryz.f131 := by rw [PP_def]; exact Tryz.func131
theorem en132 : Enters PP 132 := fun args w => by rw [PP_def]; exact Tryz.call132 args w
theorem fn132 : PP.funcs[132]? = some Tryz.f132 := by rw [PP_def]; exact Tryz.func132
theorem en133 : Enters PP 133 := fun args w => by rw [PP_def]; exact Tryz.call133 args w
theorem fn133 : PP.funcs[133]? = some Tryz.f133 := by rw [PP_def]; exact Tryz.func133
theorem en134 : Enters PP 134 := fun args w => by rw [PP_def]; exact Tryz.call134 args w
theorem fn134 : PP.funcs[134]? = some Tryz.f134 := by rw [PP_def]; exact Tryz.func134
theorem en135 : Enters PP 135 := fun args w => by rw [PP_def]; exact Tryz.call135 args w
theorem fn135 : PP.funcs[135]? = some Tryz.f135 := by rw [PP_def]; exact Tryz.func135
theorem en136 : Enters PP 136 := fun args w => by rw [PP_def]; exact Tryz.call136 args w
theorem fn136 : PP.funcs[136]? = some Tryz.f136 := by rw [PP_def]; exact Tryz.func136
theorem en137 : Enters PP 137 := fun args w => by rw [PP_def]; exact Tryz.call137 args w
theorem fn137 : PP.funcs[137]? = some Tryz.f137 := by rw [PP_def]; exact Tryz.func137
theorem en138 : Enters PP 138 := fun args w => by rw [PP_def]; exact Tryz.call138 args w
theorem fn138 : PP.funcs[138]? = some Tryz.f138 := by rw [PP_def]; exact Tryz.func138
theorem en139 : Enters PP 139 := fun args w => by rw [PP_def]; exact Tryz.call139 args w
theorem fn139 : PP.funcs[139]? = some Tryz.f139 := by rw [PP_def]; exact Tryz.func139
theorem en140 : Enters PP 140 := fun args w => by rw [PP_def]; exact Tryz.call140 args w
theorem fn140 : PP.funcs[140]? = some Tryz.f140 := by rw [PP_def]; exact Tryz.func140
theorem en141 : Enters PP 141 := fun args w => by rw [PP_def]; exact Tryz.call141 args w
theorem fn141 : PP.funcs[141]? = some Tryz.f141 := by rw [PP_def]; exact Tryz.func141
theorem en142 : Enters PP 142 := fun args w => by rw [PP_def]; exact Tryz.call142 args w
theorem fn142 : PP.funcs[142]? = some Tryz.f142 := by rw [PP_def]; exact Tryz.func142
theorem en143 : Enters PP 143 := fun args w => by rw [PP_def]; exact Tryz.call143 args w
theorem fn143 : PP.funcs[143]? = some Tryz.f143 := by rw [PP_def]; exact Tryz.func143
theorem en144 : Enters PP 144 := fun args w => by rw [PP_def]; exact Tryz.call144 args w
theorem fn144 : PP.funcs[144]? = some Tryz.f144 := by rw [PP_def]; exact Tryz.func144
theorem en145 : Enters PP 145 := fun args w => by rw [PP_def]; exact Tryz.call145 args w
theorem fn145 : PP.funcs[145]? = some Tryz.f145 := by rw [PP_def]; exact Tryz.func145
end Go.Proofs.YtloekplbhknepaaGreat

namespace Go.Proofs.YtloekplbhknepaaGreat
open Go.Vc Sim

def SpaceParts (p : Nat) (s : Sp) (i : Nat × Nat × Option Addr × Nat) : List Asn :=
  [pt p (.cells #[.map (some i.1), .map (some i.2.1), .slice i.2.2.1 s.puts.length i.2.2.2, .int .i64 s.need, .bool s.ended] 156 (0, 0)),
   pt i.1 (mapI (knM s.kn)), pt i.2.1 (mapI (rdM s.rd)), SlA 160 2 i.2.2.1 s.puts.length i.2.2.2 (flat s.puts)]
def SpaceA (p : Nat) (s : Sp) : Asn := fun h => ∃ i, Stars (SpaceParts p s i) h
abbrev spP (p : Nat) : Value := .pointer (some ⟨p, 0, none⟩)

theorem ended_spec (w0 : World) (p : Nat) (s : Sp) : FnE PP w0 [] 47 [spP p] [SpaceA p s] (.bool s.ended) [SpaceA p s] := by
  refine fn_of_run en47 fn47 rfl rfl rfl ?_
  refine run_open [0] (SpaceParts p s) rfl (fun _ h => h) ?_
  rintro ⟨bk, br, a, cap⟩
  repeat' (first | refine zck ?_ | refine zcp (by kernel_rfl) ?_ | (refine zap rfl ?_; first | ((with_reducible refine zct ?_); refine zaj rfl ?_) | ((with_reducible refine zcu ?_); refine zan rfl ?_) | ((with_reducible refine zcv ?_); refine zan rfl ?_) | ((with_reducible refine zcw ?_); refine zab 0 rfl rfl rfl ?_) | ((with_reducible refine zcy ?_); refine zao rfl ?_) | ((with_reducible refine zda ?_); refine zaz rfl rfl ?_) | ((with_reducible refine zdc ?_); refine zbv rfl ?_) | ((with_reducible refine zde ?_); refine zan rfl ?_)) | refine zch ?_)
  refine run_close1 (A := SpaceA p s) [0, 0, 0, 0] rfl (fun _ h => ⟨(_, _, _, _), h⟩) ?_
  refine ret_tmp1 rfl ⟨rfl, rfl⟩

theorem mark_spec (w0 : World) (p : Nat) (s : Sp) : FnE PP w0 [] 48 [spP p] [SpaceA p s] (.int .i64 s.puts.length) [SpaceA p s] := by
  refine fn_of_run en48 fn48 rfl rfl rfl ?_
  refine run_open [0] (SpaceParts p s) rfl (fun _ h => h) ?_
  rintro ⟨bk, br, a, cap⟩
  repeat' (first | refine zck ?_ | refine zcp (by kernel_rfl) ?_ | refine zcm ?_ | (refine zap rfl ?_; first | ((with_reducible refine zcu ?_); refine zan rfl ?_) | ((with_reducible refine zcv ?_); refine zan rfl ?_) | ((with_reducible refine zcw ?_); refine zab 0 rfl rfl rfl ?_) | ((with_reducible refine zcx ?_); refine zce rfl ?_) | ((with_reducible refine zcy ?_); refine zao rfl ?_) | ((with_reducible refine zda ?_); refine zaz rfl rfl ?_) | ((with_reducible refine zde ?_); refine zan rfl ?_)) | refine zch ?_ | refine zcj rfl ?_)
  refine run_close1 (A := SpaceA p s) [0, 0, 0, 0] rfl (fun _ h => ⟨(_, _, _, _), h⟩) ?_
  refine ret_tmp1 rfl ⟨rfl, rfl⟩

theorem reads_spec (w0 : World) (p : Nat) (s : Sp) (a : Int) : FnE PP w0 [] 85 [spP p, .int .i64 a] [SpaceA p s] (.bool (s.reads a).1) [SpaceA p (s.reads a).2] := by
  refine fn_of_run en85 fn85 rfl rfl rfl ?_
  repeat' (first | refine zck ?_ | refine zcp (by kernel_rfl) ?_ | (refine zap rfl ?_; first | ((with_reducible refine zcu ?_); refine zan rfl ?_) | ((with_reducible refine zcv ?_); refine zan rfl ?_) | ((with_reducible refine zcx ?_); refine zah [0] (ended_spec w0 _ _) rfl rfl rfl sub_nil rfl ?_)) | refine zch ?_)
  refine run_condV rfl (fun hE => ?_) (fun hE => ?_)
  · repeat' (first | refine zck ?_ | refine zcp (by kernel_rfl) ?_ | (refine zap rfl ?_; first | ((with_reducible refine zcv ?_); refine zan rfl ?_)) | refine zch ?_)
    refine ret_tmp1 rfl ?_
    have e : s.reads a = (false, s) := by simp [Sp.reads, hE]
    rw [e]; exact ⟨rfl, rfl⟩
  · refine run_open [0] (SpaceParts p s) rfl (fun _ h => h) ?_
    rintro ⟨bk, br, sa, cap⟩
    cases hk : lookW s.kn a with
    | none =>
      have hl : Vc.look (knM s.kn) a = none := by rw [look_knM, hk]; rfl
      repeat' (first | refine zck ?_ | refine zcp (by kernel_rfl) ?_ | refine zcm ?_ | (refine zap rfl ?_; first | refine reg_lookupOk 1 rfl rfl rfl hl ?_ | ((with_reducible refine zcu ?_); refine zan rfl ?_) | ((with_reducible refine zcv ?_); refine zan rfl ?_) | ((with_reducible refine zcw ?_); refine zab 0 rfl rfl rfl ?_) | ((with_reducible refine zcy ?_); refine zao rfl ?_) | ((with_reducible refine zcz ?_); refine zan rfl ?_) | ((with_reducible refine zdb ?_); refine zbx rfl ?_) | ((with_reducible refine zdd ?_); first | refine zae 0 rfl rfl rfl rfl rfl rfl rfl ?_ | refine zae 4 rfl rfl rfl rfl rfl rfl rfl ?_) | ((with_reducible refine zde ?_); refine zan rfl ?_) | ((with_reducible refine zdh ?_); refine zar (fun nb => ?_))) | refine zch ?_ | refine zci rfl ?_)
      have e : s.reads a = (false, { s with ended := true, need := a }) := by simp [Sp.reads, hE, hk]
      rw [e]
      refine run_close1 (A := SpaceA p { s with ended := true, need := a }) [0, 0, 0, 0] rfl (fun _ h => ⟨(_, _, _, _), h⟩) ?_
      refine ret_tmp1 rfl ⟨rfl, rfl⟩
    | some wd =>
      have hl : Vc.look (knM s.kn) a = some (wordV wd) := by rw [look_knM, hk]; rfl
      repeat' (first | refine zck ?_ | refine zcp (by kernel_rfl) ?_ | refine zcm ?_ | (refine zap rfl ?_; first | refine reg_lookupOk 1 rfl rfl rfl hl ?_ | refine reg_mapUpdate 2 rfl rfl rfl rfl rfl ?_ | ((with_reducible refine zcu ?_); refine zan rfl ?_) | ((with_reducible refine zcv ?_); refine zan rfl ?_) | ((with_reducible refine zcw ?_); refine zab 0 rfl rfl rfl ?_) | ((with_reducible refine zcy ?_); refine zao rfl ?_) | ((with_reducible refine zcz ?_); refine zan rfl ?_) | ((with_reducible refine zdb ?_); refine zbx rfl ?_) | ((with_reducible refine zdd ?_); refine zae 4 rfl rfl rfl rfl rfl rfl rfl ?_) | ((with_reducible refine zde ?_); refine zan rfl ?_) | ((with_reducible refine zdh ?_); refine zar (fun nb => ?_))) | refine zch ?_ | refine zcj rfl ?_)
      have e : s.reads a = (true, { s with rd := insI s.rd a }) := by simp [Sp.reads, hE, hk]
      rw [e]
      refine run_close1 (A := SpaceA p { s with rd := insI s.rd a }) [0, 0, 0, 0] rfl (fun _ h => ⟨(bk, br, sa, cap), by unfold SpaceParts; rw [← ins_rdM]; exact h⟩) ?_
      refine ret_tmp1 rfl ⟨rfl, rfl⟩

end Go.Proofs.YtloekplbhknepaaGreat

namespace Go.Proofs.YtloekplbhknepaaGreat
open Go.Vc Sim

theorem last_spec (w0 : World) (p : Nat) (s : Sp) (x : Int) (hlen : s.puts.length ≤ 1099511627776) : FnE PP w0 [] 103 [spP p, .int .i64 x] [SpaceA p s] (.int .i64 (lastI s.puts x)) [SpaceA p s] := by
  refine fn_of_run en103 fn103 rfl rfl rfl ?_
  refine run_open [0] (SpaceParts p s) rfl (fun _ h => h) ?_
  rintro ⟨bk, br, sa, cap⟩
  repeat' (first | refine zck ?_ | refine zcp (by kernel_rfl) ?_ | refine zcl ?_ | (refine zap rfl ?_; first | ((with_reducible refine zcu ?_); refine zan rfl ?_) | ((with_reducible refine zcv ?_); refine zan rfl ?_) | ((with_reducible refine zcw ?_); refine zab 0 rfl rfl rfl ?_) | ((with_reducible refine zcx ?_); refine zce rfl ?_) | ((with_reducible refine zcy ?_); refine zao rfl ?_) | ((with_reducible refine zda ?_); refine zav rfl rfl (by omega) ?_) | ((with_reducible refine zde ?_); refine zan rfl ?_)) | refine zch ?_)
  refine run_loop (S := Nat) (fun k => [(0, spP p), (1, .int .i64 x), (5, .int .i64 ((k : Int) - 1))])
    (fun k Γ => Γ = SpaceParts p s (bk, br, sa, cap) ∧ k ≤ s.puts.length ∧ ∀ j, k ≤ j → j < s.puts.length → ∀ p, s.puts[j]? = some p → p.1 ≠ x)
    (fun k => k) s.puts.length ⟨rfl, rfl, rfl, trivial⟩ ⟨rfl, Nat.le_refl _, fun j h1 h2 => absurd h2 (by omega)⟩ ?_
  rintro k Γ junk ⟨rfl, hk, hno⟩
  repeat' (first | refine zck ?_ | refine zcp (by kernel_rfl) ?_ | (refine zap rfl ?_; first | ((with_reducible refine zcu ?_); refine zan rfl ?_) | ((with_reducible refine zda ?_); refine zbt rfl rfl ?_)) | refine zch ?_)
  refine run_cond rfl (fun hc => ?_) (fun hc => ?_)
  · have hc : (0 : Int) ≤ (k : Int) - 1 := by simpa using hc
    refine run_sl_cases 3 rfl ?_ ?_
    · intro h1 h2 h3 h4; omega
    · intro nb h1 h2 h3
      subst h1
      obtain ⟨k, rfl⟩ : ∃ m, k = m + 1 := ⟨k - 1, by omega⟩
      have hlt : k < s.puts.length := by omega
      obtain ⟨q, hq⟩ : ∃ q, s.puts[k]? = some q := ⟨_, List.getElem?_eq_getElem hlt⟩
      have hr : ∀ o, o = k * 2 → rd false 1 (flat s.puts) o = some (.int .i64 q.1) := by
        intro o ho; subst ho; exact (flat_get _ _ _ hq).1
      repeat' (first | refine zck ?_ | refine zcp (by kernel_rfl) ?_ | refine zcm ?_ | refine zcl ?_ | (refine zap rfl ?_; first | refine zag 3 rfl rfl (hr _ (by omega)) (by intro h; cases h) ?_ | ((with_reducible refine zcu ?_); refine zan rfl ?_) | ((with_reducible refine zcw ?_); refine zab 0 rfl rfl rfl ?_) | ((with_reducible refine zcy ?_); refine zao rfl ?_) | ((with_reducible refine zda ?_); refine zbo rfl rfl ?_) | ((with_reducible refine zde ?_); refine zan rfl ?_) | ((with_reducible refine zdf ?_); refine zas rfl rfl (by omega) ?_)) | refine zch ?_)
      refine run_condV rfl (fun hE => ?_) (fun hE => ?_)
      · have hE : q.1 = x := by simpa using hE
        repeat' (first | refine zck ?_ | refine zcp (by kernel_rfl) ?_ | (refine zap rfl ?_; first | ((with_reducible refine zcu ?_); refine zan rfl ?_) | ((with_reducible refine zcv ?_); refine zan rfl ?_)) | refine zch ?_)
        refine run_close1 (A := SpaceA p s) [0, 0, 0, 0] rfl (fun _ h => ⟨(_, _, _, _), h⟩) ?_
        refine qret1 (fun _ _ h => h) rfl ⟨int_eq ?_, rfl⟩
        rw [lastI_spec s.puts x (k + 1) hk hno]
        simp only [lastI.go, hq, Option.map_some, hE, if_true]
        omega
      · have hE : q.1 ≠ x := by simpa using hE
        repeat' (first | refine zcp (by kernel_rfl) ?_ | refine zcm ?_ | refine zcn ?_ | (refine zap rfl ?_; first | ((with_reducible refine zcu ?_); refine zan rfl ?_) | ((with_reducible refine zcv ?_); refine zan rfl ?_) | ((with_reducible refine zda ?_); refine zav rfl rfl (by omega) ?_)) | refine zch ?_)
        refine cut_end ⟨rfl, k, ⟨rfl, rfl, int_eq (by omega), trivial⟩, ⟨rfl, by omega, ?_⟩, by omega⟩
        intro j h1 h2 p hp
        by_cases hj : j = k
        · subst hj; rw [hq] at hp; cases hp; exact hE
        · exact hno j (by omega) h2 p hp
  · have hc : ¬ (0 : Int) ≤ (k : Int) - 1 := by simpa using hc
    have hk0 : k = 0 := by omega
    subst hk0
    repeat' (first | refine zck ?_ | (refine zap rfl ?_; first | ((with_reducible refine zcu ?_); refine zan rfl ?_)) | refine zch ?_)
    refine cut_exit rfl rfl ?_
    repeat' (first | refine zck ?_ | refine zcp (by kernel_rfl) ?_ | (refine zap rfl ?_; first | ((with_reducible refine zcv ?_); refine zan rfl ?_)) | refine zch ?_)
    refine run_close1 (A := SpaceA p s) [0, 0, 0, 0] rfl (fun _ h => ⟨(_, _, _, _), h⟩) ?_
    refine ret_tmp1 rfl ⟨int_eq ?_, rfl⟩
    rw [lastI_spec s.puts x 0 hk hno]; rfl
end Go.Proofs.YtloekplbhknepaaGreat

namespace Go.Proofs.YtloekplbhknepaaGreat
open Go.Vc Sim

theorem value_spec (w0 : World) (p : Nat) (s : Sp) (x : Int) (hlen : s.puts.length ≤ 1099511627776) : FnE PP w0 [] 81 [spP p, .int .i64 x] [SpaceA p s] (.tuple #[.int .i64 (s.value x).1, .bool (s.value x).2]) [SpaceA p s] := by
  refine fn_of_run en81 fn81 rfl rfl rfl ?_
  rcases lastI_lastV s.puts x with ⟨h1, h2⟩ | ⟨j, q, h1, hq, h2, h3⟩
  · repeat' (first | refine zck ?_ | refine zcp (by kernel_rfl) ?_ | (refine zap rfl ?_; first | ((with_reducible refine zcu ?_); refine zan rfl ?_) | ((with_reducible refine zcv ?_); refine zan rfl ?_) | ((with_reducible refine zcx ?_); refine zah [0] (last_spec w0 p s x hlen) rfl rfl rfl sub_nil rfl ?_) | ((with_reducible refine zda ?_); refine zbt rfl rfl ?_)) | refine zch ?_)
    refine zcj (by rw [h2]; rfl) ?_
    refine run_open [0] (SpaceParts p s) rfl (fun _ h => h) ?_
    rintro ⟨bk, br, sa, cap⟩
    cases hk : lookW s.kn x with
    | none =>
      have hl : Vc.look (knM s.kn) x = none := by rw [look_knM, hk]; rfl
      repeat' (first | refine zck ?_ | refine zcp (by kernel_rfl) ?_ | refine zcm ?_ | (refine zap rfl ?_; first | refine reg_lookup1 1 rfl rfl rfl hl ?_ | refine reg_fieldV rfl rfl ?_ | ((with_reducible refine zcu ?_); refine zan rfl ?_) | ((with_reducible refine zcv ?_); refine zan rfl ?_) | ((with_reducible refine zcw ?_); refine zab 0 rfl rfl rfl ?_) | ((with_reducible refine zcy ?_); refine zao rfl ?_) | ((with_reducible refine zde ?_); refine zan rfl ?_)) | refine zch ?_)
      have e : s.value x = (0, false) := by simp [Sp.value, h1, hk]
      rw [e]
      refine run_close1 (A := SpaceA p s) [0, 0, 0, 0] rfl (fun _ h => ⟨(_, _, _, _), h⟩) ?_
      refine ret_tmp2 rfl ⟨rfl, rfl⟩
    | some wd =>
      have hl : Vc.look (knM s.kn) x = some (wordV wd) := by rw [look_knM, hk]; rfl
      repeat' (first | refine zck ?_ | refine zcp (by kernel_rfl) ?_ | refine zcm ?_ | (refine zap rfl ?_; first | refine reg_lookup1 1 rfl rfl rfl hl ?_ | refine reg_fieldV rfl rfl ?_ | ((with_reducible refine zcu ?_); refine zan rfl ?_) | ((with_reducible refine zcv ?_); refine zan rfl ?_) | ((with_reducible refine zcw ?_); refine zab 0 rfl rfl rfl ?_) | ((with_reducible refine zcy ?_); refine zao rfl ?_) | ((with_reducible refine zde ?_); refine zan rfl ?_)) | refine zch ?_)
      have e : s.value x = (wd.val, false) := by simp [Sp.value, h1, hk]
      rw [e]
      refine run_close1 (A := SpaceA p s) [0, 0, 0, 0] rfl (fun _ h => ⟨(_, _, _, _), h⟩) ?_
      refine ret_tmp2 rfl ⟨rfl, rfl⟩
  · have hr : ∀ o, o = j * 2 + 1 → rd false 1 (flat s.puts) o = some (.int .i64 q.2) := by
      intro o ho; subst ho; exact (flat_get _ _ _ hq).2
    repeat' (first | refine zck ?_ | refine zcp (by kernel_rfl) ?_ | (refine zap rfl ?_; first | ((with_reducible refine zcu ?_); refine zan rfl ?_) | ((with_reducible refine zcv ?_); refine zan rfl ?_) | ((with_reducible refine zcx ?_); refine zah [0] (last_spec w0 p s x hlen) rfl rfl rfl sub_nil rfl ?_) | ((with_reducible refine zda ?_); refine zbt rfl rfl ?_)) | refine zch ?_)
    refine zci (by rw [h3]; exact bool_eq (by simp)) ?_
    refine run_open [0] (SpaceParts p s) rfl (fun _ h => h) ?_
    rintro ⟨bk, br, sa, cap⟩
    refine run_sl_cases 3 rfl (fun _ h => absurd h (by omega)) ?_
    intro nb e1 e2 e3
    subst e1
    repeat' (first | refine zck ?_ | refine zcp (by kernel_rfl) ?_ | (refine zap rfl ?_; first | refine zag 3 rfl rfl (hr _ (by omega)) (by intro h; cases h) ?_ | ((with_reducible refine zcu ?_); refine zan rfl ?_) | ((with_reducible refine zcv ?_); refine zan rfl ?_) | ((with_reducible refine zcw ?_); refine zab 0 rfl rfl rfl ?_) | ((with_reducible refine zcy ?_); refine zao rfl ?_) | ((with_reducible refine zde ?_); refine zan rfl ?_) | ((with_reducible refine zdf ?_); refine zas rfl rfl (by omega) ?_)) | refine zch ?_)
    have e : s.value x = (q.2, true) := by simp [Sp.value, h2]
    rw [e]
    refine run_close1 (A := SpaceA p s) [0, 0, 0, 0] rfl (fun _ h => ⟨(_, _, _, _), h⟩) ?_
    refine ret_tmp2 rfl ⟨rfl, rfl⟩

theorem reads_puts (s : Sp) (x : Int) : (s.reads x).2.puts = s.puts := by unfold Sp.reads; split; rfl; split <;> rfl

theorem get_spec (w0 : World) (p : Nat) (s : Sp) (x : Int) (hlen : s.puts.length ≤ 1099511627776) : FnE PP w0 [] 46 [spP p, .int .i64 x] [SpaceA p s] (.int .i64 (s.get x).1) [SpaceA p (s.get x).2] := by
  refine fn_of_run en46 fn46 rfl rfl rfl ?_
  repeat' (first | refine zck ?_ | refine zcp (by kernel_rfl) ?_ | (refine zap rfl ?_; first | ((with_reducible refine zcu ?_); refine zan rfl ?_) | ((with_reducible refine zcv ?_); refine zan rfl ?_) | ((with_reducible refine zcx ?_); refine zah [0] (reads_spec w0 p s x) rfl rfl rfl sub_nil rfl ?_) | ((with_reducible refine zdb ?_); refine zbx rfl ?_)) | refine zch ?_)
  refine run_condV rfl (fun hE => ?_) (fun hE => ?_)
  · have hE : (s.reads x).1 = false := by simpa using hE
    repeat' (first | refine zck ?_ | refine zcp (by kernel_rfl) ?_ | (refine zap rfl ?_; first | ((with_reducible refine zcv ?_); refine zan rfl ?_)) | refine zch ?_)
    have e : s.get x = (0, (s.reads x).2) := by simp [Sp.get, hE]
    rw [e]
    refine ret_tmp1 rfl ⟨rfl, rfl⟩
  · have hE : (s.reads x).1 = true := by simpa using hE
    repeat' (first | refine zck ?_ | refine zcp (by kernel_rfl) ?_ | refine zcm ?_ | (refine zap rfl ?_; first | ((with_reducible refine zcu ?_); refine zan rfl ?_) | ((with_reducible refine zcv ?_); refine zan rfl ?_) | ((with_reducible refine zcx ?_); refine zah [0] (value_spec w0 p (s.reads x).2 x (by rw [reads_puts]; exact hlen)) rfl rfl rfl sub_nil rfl ?_) | ((with_reducible refine zcz ?_); refine zan rfl ?_)) | refine zch ?_)
    have e : s.get x = (((s.reads x).2.value x).1, (s.reads x).2) := by simp [Sp.get, hE]
    rw [e]
    refine ret_tmp1 rfl ⟨rfl, rfl⟩

theorem put_spec (w0 : World) (p : Nat) (s : Sp) (x v : Int) (hlen : s.puts.length ≤ 1099511627776) : FnE PP w0 [] 53 [spP p, .int .i64 x, .int .i64 v] [SpaceA p s] (.tuple #[]) [SpaceA p (s.put x v)] := by
  refine fn_of_run en53 fn53 rfl rfl rfl ?_
  repeat' (first | refine zck ?_ | refine zcp (by kernel_rfl) ?_ | (refine zap rfl ?_; first | ((with_reducible refine zcu ?_); refine zan rfl ?_) | ((with_reducible refine zcx ?_); refine zah [0] (reads_spec w0 p s x) rfl rfl rfl sub_nil rfl ?_)) | refine zch ?_)
  refine run_condV rfl (fun hE => ?_) (fun hE => ?_)
  · generalize hs1 : (s.reads x).2 = s1
    have hp1 : s1.puts = s.puts := by rw [← hs1, reads_puts]
    have e : s.put x v = { s1 with puts := s1.puts ++ [(x, v)] } := by simp [Sp.put, hE, hs1, hp1]
    rw [e]
    refine run_open [0] (SpaceParts p s1) rfl (fun _ h => h) ?_
    rintro ⟨bk, br, sa, cap⟩
    repeat' (first | refine zcp (by kernel_rfl) ?_ | (refine zap rfl ?_; first | refine zcb rfl ?_ | refine reg_buildSlice rfl rfl rfl rfl rfl rfl (fun nb => ?_) | refine reg_append 3 4 rfl rfl rfl rfl rfl rfl rfl rfl (by rw [hp1]; omega) (fun _ _ => rfl) (fun a' cap' => ?_) | ((with_reducible refine zcu ?_); refine zan rfl ?_) | ((with_reducible refine zcw ?_); refine zab 0 rfl rfl rfl ?_) | ((with_reducible refine zcy ?_); refine zao rfl ?_) | ((with_reducible refine zdd ?_); refine zae 0 rfl rfl rfl rfl rfl rfl rfl ?_) | ((with_reducible refine zde ?_); refine zan rfl ?_)) | refine zch ?_)
    refine run_close1 (A := SpaceA p { s1 with puts := s1.puts ++ [(x, v)] }) [0, 0, 0, 0] rfl (fun _ h => ⟨(bk, br, a', cap'), by unfold SpaceParts; rw [flat_append, List.length_append]; exact h⟩) ?_
    exact end_tmp0 rfl ⟨rfl, rfl⟩
  · have e : s.put x v = (s.reads x).2 := by simp [Sp.put, hE]
    rw [e]
    repeat' (first | refine zcm ?_ | (refine zap rfl ?_; first | ((with_reducible refine zcu ?_); refine zan rfl ?_)) | refine zch ?_)
    exact end_tmp0 rfl ⟨rfl, rfl⟩

theorem back_spec (w0 : World) (p : Nat) (s : Sp) (m : Int) : FnE PP w0 [] 50 [spP p, .int .i64 m] [SpaceA p s] (.tuple #[]) [SpaceA p (s.back m)] := by
  refine fn_of_run en50 fn50 rfl rfl rfl ?_
  obtain ⟨kn, rd, puts, need, ended⟩ := s
  generalize hs : (⟨kn, rd, puts, need, ended⟩ : Sp) = s
  cases ended with
  | true =>
    have e : s.back m = s := by rw [← hs]; simp [Sp.back]
    rw [e, ← hs]
    repeat' (first | refine zck ?_ | refine zcp (by kernel_rfl) ?_ | refine zcm ?_ | (refine zap rfl ?_; first | ((with_reducible refine zct ?_); refine zak rfl ?_) | ((with_reducible refine zcu ?_); refine zan rfl ?_) | ((with_reducible refine zcx ?_); refine zah [0] (ended_spec w0 p _) rfl rfl rfl sub_nil rfl ?_) | ((with_reducible refine zdb ?_); refine zbx rfl ?_) | ((with_reducible refine zdc ?_); refine zbv rfl ?_)) | refine zch ?_ | refine zcj rfl ?_)
    exact end_tmp0 rfl ⟨rfl, rfl⟩
  | false =>
    by_cases h0 : 0 ≤ m
    · have d0 : decide (0 ≤ m) = true := decide_eq_true h0
      by_cases h1 : m ≤ puts.length
      · have d1 : decide (m ≤ (puts.length : Int)) = true := decide_eq_true h1
        have e : s.back m = ⟨kn, rd, puts.take m.toNat, need, false⟩ := by rw [← hs]; simp [Sp.back, h0, h1]
        rw [e, ← hs]
        repeat' (first | refine zck ?_ | refine zcp (by kernel_rfl) ?_ | (refine zap rfl ?_; first | (refine zbt rfl rfl ?_; rw [d0]) | ((with_reducible refine zct ?_); refine zaj rfl ?_) | ((with_reducible refine zcu ?_); refine zan rfl ?_) | ((with_reducible refine zcx ?_); refine zah [0] (ended_spec w0 p _) rfl rfl rfl sub_nil rfl ?_) | ((with_reducible refine zcy ?_); refine zao rfl ?_) | ((with_reducible refine zdb ?_); refine zbx rfl ?_) | ((with_reducible refine zdc ?_); refine zbu rfl ?_) | ((with_reducible refine zde ?_); refine zan rfl ?_)) | refine zch ?_)
        refine reg_open [0] (SpaceParts p ⟨kn, rd, puts, need, false⟩) rfl rfl (fun _ h => h) ?_
        rintro ⟨bk, br, sa, cap⟩
        refine reg_know rfl (sl_know 3 rfl) (fun hcap => ?_)
        have hcap2 : puts.length ≤ cap := hcap.2
        repeat' (first | refine zcp (by kernel_rfl) ?_ | (refine zap rfl ?_; first | (refine zbr rfl rfl ?_; rw [d1]) | refine reg_slice3 rfl rfl rfl (h' := m) (m' := m) ⟨h0, Int.le_refl _, Int.le_trans h1 (Int.ofNat_le.2 hcap2)⟩ ?_ | ((with_reducible refine zct ?_); refine zaj rfl ?_) | ((with_reducible refine zcu ?_); refine zan rfl ?_) | ((with_reducible refine zcw ?_); refine zab 0 rfl rfl rfl ?_) | ((with_reducible refine zcx ?_); refine zce rfl ?_) | ((with_reducible refine zcy ?_); refine zao rfl ?_) | ((with_reducible refine zdc ?_); refine zbu rfl ?_) | ((with_reducible refine zdd ?_); refine zae 0 rfl rfl rfl rfl rfl rfl rfl ?_) | ((with_reducible refine zde ?_); refine zan rfl ?_)) | refine zch ?_ | refine zci rfl ?_)
        refine run_exch 3 (SlA 160 2 sa m.toNat m.toNat ((flat puts).take (m.toNat * 2))) rfl (fun g hg => SlA_cut hg (by show m.toNat ≤ puts.length; omega)) rfl ?_
        have hl : (puts.take m.toNat).length = m.toNat := by rw [List.length_take]; omega
        refine run_close1 (A := SpaceA p ⟨kn, rd, puts.take m.toNat, need, false⟩) [0, 0, 0, 0] rfl (fun _ h => ⟨(bk, br, sa, m.toNat), by unfold SpaceParts; rw [hl, ← flat_take]; exact h⟩) ?_
        exact end_tmp0 rfl ⟨rfl, rfl⟩
      · have d1 : decide (m ≤ (puts.length : Int)) = false := decide_eq_false h1
        have e : s.back m = s := by rw [← hs]; simp [Sp.back, h1]
        rw [e, ← hs]
        repeat' (first | refine zck ?_ | refine zcp (by kernel_rfl) ?_ | (refine zap rfl ?_; first | (refine zbt rfl rfl ?_; rw [d0]) | ((with_reducible refine zct ?_); refine zaj rfl ?_) | ((with_reducible refine zcu ?_); refine zan rfl ?_) | ((with_reducible refine zcx ?_); refine zah [0] (ended_spec w0 p _) rfl rfl rfl sub_nil rfl ?_) | ((with_reducible refine zcy ?_); refine zao rfl ?_) | ((with_reducible refine zdb ?_); refine zbx rfl ?_) | ((with_reducible refine zdc ?_); refine zbu rfl ?_) | ((with_reducible refine zde ?_); refine zan rfl ?_)) | refine zch ?_)
        refine reg_open [0] (SpaceParts p ⟨kn, rd, puts, need, false⟩) rfl rfl (fun _ h => h) ?_
        rintro ⟨bk, br, sa, cap⟩
        repeat' (first | refine zcm ?_ | (refine zap rfl ?_; first | (refine zbr rfl rfl ?_; rw [d1]) | ((with_reducible refine zct ?_); refine zaj rfl ?_) | ((with_reducible refine zcw ?_); refine zab 0 rfl rfl rfl ?_) | ((with_reducible refine zcx ?_); refine zce rfl ?_) | ((with_reducible refine zdc ?_); refine zbu rfl ?_)) | refine zch ?_ | refine zcj rfl ?_)
        refine run_close1 (A := SpaceA p ⟨kn, rd, puts, need, false⟩) [0, 0, 0, 0] rfl (fun _ h => ⟨(bk, br, sa, cap), h⟩) ?_
        exact end_tmp0 rfl ⟨rfl, rfl⟩
    · have d0 : decide (0 ≤ m) = false := decide_eq_false h0
      have e : s.back m = s := by rw [← hs]; simp [Sp.back, h0]
      rw [e, ← hs]
      repeat' (first | refine zck ?_ | refine zcp (by kernel_rfl) ?_ | refine zcm ?_ | (refine zap rfl ?_; first | (refine zbt rfl rfl ?_; rw [d0]) | ((with_reducible refine zct ?_); first | refine zaj rfl ?_ | refine zak rfl ?_) | ((with_reducible refine zcu ?_); refine zan rfl ?_) | ((with_reducible refine zcx ?_); refine zah [0] (ended_spec w0 p _) rfl rfl rfl sub_nil rfl ?_) | ((with_reducible refine zdb ?_); refine zbx rfl ?_) | ((with_reducible refine zdc ?_); first | refine zbu rfl ?_ | refine zbv rfl ?_)) | refine zch ?_ | refine zcj rfl ?_)
      exact end_tmp0 rfl ⟨rfl, rfl⟩
end Go.Proofs.YtloekplbhknepaaGreat

namespace Sim
open Go Go.Vc

inductive Pg (α : Type) : Type where
  | ret : α → Pg α
  | get : Int → (Int → Pg α) → Pg α
  | put : Int → Int → Pg α → Pg α
  | mark : (Nat → Pg α) → Pg α
  | back : Nat → Pg α → Pg α
namespace Pg
variable {α β γ : Type}
def bind : Pg α → (α → Pg β) → Pg β
  | ret a, f => f a
  | get x k, f => get x fun v => (k v).bind f
  | put x v k, f => put x v (k.bind f)
  | mark k, f => mark fun m => (k m).bind f
  | back m k, f => back m (k.bind f)
instance : Monad Pg where
  pure := ret
  bind := bind
def gt (x : Int) : Pg Int := get x ret
def pt (x v : Int) : Pg Unit := put x v (ret ())
def mk : Pg Nat := mark ret
def bk (m : Nat) : Pg Unit := back m (ret ())

def run : Pg α → Sp → α × Sp
  | ret a, s => (a, s)
  | get x k, s => run (k (s.get x).1) (s.get x).2
  | put x v k, s => run k (s.put x v)
  | mark k, s => run (k s.puts.length) s
  | back m k, s => run k (s.back m)
def Fits : Pg α → Sp → Prop
  | ret _, s => s.puts.length ≤ 1099511627776
  | get x k, s => s.puts.length ≤ 1099511627776 ∧ Fits (k (s.get x).1) (s.get x).2
  | put x v k, s => s.puts.length ≤ 1099511627776 ∧ Fits k (s.put x v)
  | mark k, s => s.puts.length ≤ 1099511627776 ∧ Fits (k s.puts.length) s
  | back m k, s => s.puts.length ≤ 1099511627776 ∧ Fits k (s.back m)
theorem Fits.here : ∀ {g : Pg α} {s : Sp}, Fits g s → s.puts.length ≤ 1099511627776
  | ret _, _, h => h
  | get _ _, _, h => h.1
  | put _ _ _, _, h => h.1
  | mark _, _, h => h.1
  | back _ _, _, h => h.1
theorem run_bind (f : α → Pg β) : ∀ (g : Pg α) (s : Sp), run (g >>= f) s = run (f (run g s).1) (run g s).2
  | ret _, _ => rfl
  | get x k, s => run_bind f (k (s.get x).1) (s.get x).2
  | put x v k, s => run_bind f k (s.put x v)
  | mark k, s => run_bind f (k s.puts.length) s
  | back m k, s => run_bind f k (s.back m)
theorem fits_bind (f : α → Pg β) : ∀ (g : Pg α) (s : Sp), Fits (g >>= f) s → Fits g s ∧ Fits (f (run g s).1) (run g s).2
  | ret _, _, h => ⟨Fits.here h, h⟩
  | get x k, s, h => let ⟨h1, h2⟩ := fits_bind f (k (s.get x).1) (s.get x).2 h.2; ⟨⟨h.1, h1⟩, h2⟩
  | put x v k, s, h => let ⟨h1, h2⟩ := fits_bind f k (s.put x v) h.2; ⟨⟨h.1, h1⟩, h2⟩
  | mark k, s, h => let ⟨h1, h2⟩ := fits_bind f (k s.puts.length) s h.2; ⟨⟨h.1, h1⟩, h2⟩
  | back m k, s, h => let ⟨h1, h2⟩ := fits_bind f k (s.back m) h.2; ⟨⟨h.1, h1⟩, h2⟩
theorem bind_assoc (f : α → Pg β) (g : β → Pg γ) : ∀ (x : Pg α), (x >>= f) >>= g = x >>= fun a => f a >>= g
  | ret _ => rfl
  | get x k => congrArg (get x) (funext fun v => bind_assoc f g (k v))
  | put x v k => congrArg (put x v) (bind_assoc f g k)
  | mark k => congrArg mark (funext fun m => bind_assoc f g (k m))
  | back m k => congrArg (back m) (bind_assoc f g k)
theorem pure_bind (a : α) (f : α → Pg β) : (pure a >>= f) = f a := rfl
theorem ite_bind (c : Prop) [Decidable c] (x y : Pg α) (f : α → Pg β) : ((if c then x else y) >>= f) = if c then x >>= f else y >>= f := by split <;> rfl
def Bd : Nat → Pg α → Prop
  | _, ret _ => True
  | j, get _ k => ∀ v, Bd j (k v)
  | 0, put _ _ _ => False
  | j + 1, put _ _ k => Bd j k
  | j, mark k => ∀ m, Bd j (k m)
  | j, back _ k => Bd j k
theorem Bd.mono : ∀ {g : Pg α} {i j : Nat}, i ≤ j → Bd i g → Bd j g
  | ret _, i, j, _, _ => by simp [Bd]
  | get _ k, i, j, h, hb => by simp only [Bd] at hb ⊢; exact fun v => Bd.mono h (hb v)
  | put _ _ k, 0, j, h, hb => by simp [Bd] at hb
  | put _ _ k, i + 1, 0, h, hb => absurd h (by omega)
  | put _ _ k, i + 1, j + 1, h, hb => by simp only [Bd] at hb ⊢; exact Bd.mono (by omega) hb
  | mark k, i, j, h, hb => by simp only [Bd] at hb ⊢; exact fun v => Bd.mono h (hb v)
  | back _ k, i, j, h, hb => by simp only [Bd] at hb ⊢; exact Bd.mono h hb
theorem bd_bind {f : α → Pg β} {j : Nat} (hf : ∀ a, Bd j (f a)) : ∀ {g : Pg α} {i : Nat}, Bd i g → Bd (i + j) (g >>= f)
  | ret a, i, _ => Bd.mono (by omega) (hf a)
  | get x k, i, h => by
    simp only [Bd] at h
    show Bd (i + j) (get x fun v => (k v >>= f))
    simp only [Bd]
    exact fun v => bd_bind hf (h v)
  | put x v k, 0, h => by simp [Bd] at h
  | put x v k, i + 1, h => by
    simp only [Bd] at h
    show Bd (i + 1 + j) (put x v (k >>= f))
    rw [show i + 1 + j = (i + j) + 1 by omega]
    simp only [Bd]
    exact bd_bind hf h
  | mark k, i, h => by
    simp only [Bd] at h
    show Bd (i + j) (mark fun v => (k v >>= f))
    simp only [Bd]
    exact fun v => bd_bind hf (h v)
  | back m k, i, h => by
    simp only [Bd] at h
    show Bd (i + j) (back m (k >>= f))
    simp only [Bd]
    exact bd_bind hf h
theorem bd_seq {f : α → Pg β} {g : Pg α} {i j n : Nat} (hg : Bd i g) (hf : ∀ a, Bd j (f a)) (h : i + j ≤ n) : Bd n (g >>= f) := (bd_bind hf hg).mono h
theorem bd_then {f : α → Pg β} {g : Pg α} {i n : Nat} (hg : Bd i g) (hf : ∀ a, Bd (n - i) (f a)) (h : i ≤ n) : Bd n (g >>= f) := bd_seq hg hf (by omega)
theorem bd_gt0 (x : Int) : Bd 0 (gt x) := fun _ => trivial
theorem bd_mk0 : Bd 0 mk := fun _ => trivial
theorem bd_bk0 (m : Nat) : Bd 0 (bk m) := trivial
theorem bd_pure {j : Nat} (a : α) : Bd j (pure a : Pg α) := by show Bd j (ret a); simp [Bd]
theorem bd_pt (x v : Int) : Bd 1 (pt x v) := by simp [pt, Bd]
theorem bd_ite {c : Prop} [Decidable c] {x y : Pg α} {j : Nat} (hx : Bd j x) (hy : Bd j y) : Bd j (if c then x else y) := by split <;> assumption
theorem reads_puts' (s : Sp) (x : Int) : (s.reads x).2.puts = s.puts := by unfold Sp.reads; split; rfl; split <;> rfl
theorem get_puts (s : Sp) (x : Int) : (s.get x).2.puts = s.puts := by simp only [Sp.get]; split <;> exact reads_puts' s x
theorem put_len (s : Sp) (x v : Int) : (s.put x v).puts.length ≤ s.puts.length + 1 := by
  simp only [Sp.put]; split
  · simp
  · rw [reads_puts']; omega
theorem back_len (s : Sp) (m : Int) : (s.back m).puts.length ≤ s.puts.length := by
  simp only [Sp.back]; split
  · simp; omega
  · exact Nat.le_refl _
theorem run_len : ∀ (g : Pg α) (j : Nat) (s : Sp), Bd j g → (run g s).2.puts.length ≤ s.puts.length + j
  | ret _, _, _, _ => Nat.le_add_right _ _
  | get x k, j, s, h => by
    simp only [Bd] at h
    have := run_len (k (s.get x).1) j (s.get x).2 (h _)
    rw [get_puts] at this; exact this
  | put x v k, 0, s, h => by simp [Bd] at h
  | put x v k, j + 1, s, h => by
    simp only [Bd] at h
    have := run_len k j (s.put x v) h
    have h2 := put_len s x v
    simp only [run]; omega
  | mark k, j, s, h => by
    simp only [Bd] at h
    exact run_len (k s.puts.length) j s (h _)
  | back m k, j, s, h => by
    simp only [Bd] at h
    have := run_len k j (s.back m) h
    have h2 := back_len s m
    simp only [run]; omega
theorem fits_of : ∀ (g : Pg α) (j : Nat) (s : Sp), Bd j g → s.puts.length + j ≤ 1099511627776 → Fits g s
  | ret _, _, s, _, h => by simp only [Fits]; omega
  | get x k, j, s, hb, h => by
    simp only [Bd] at hb
    exact ⟨by omega, fits_of _ j _ (hb _) (by rw [get_puts]; exact h)⟩
  | put x v k, 0, s, hb, h => by simp [Bd] at hb
  | put x v k, j + 1, s, hb, h => by
    simp only [Bd] at hb
    have h2 := put_len s x v
    exact ⟨by omega, fits_of _ j _ hb (by omega)⟩
  | mark k, j, s, hb, h => by
    simp only [Bd] at hb
    exact ⟨by omega, fits_of _ j _ (hb _) h⟩
  | back m k, j, s, hb, h => by
    simp only [Bd] at hb
    have h2 := back_len s m
    exact ⟨by omega, fits_of _ j _ hb (by omega)⟩
def All (φ : α → Prop) : Pg α → Prop
  | ret a => φ a
  | get _ k => ∀ v, All φ (k v)
  | put _ _ k => All φ k
  | mark k => ∀ m, All φ (k m)
  | back _ k => All φ k
theorem all_run {φ : α → Prop} : ∀ {g : Pg α} {s : Sp}, All φ g → φ (run g s).1
  | ret _, _, h => h
  | get x k, s, h => all_run (g := k (s.get x).1) (s := (s.get x).2) (h _)
  | put x v k, s, h => all_run (g := k) (s := s.put x v) h
  | mark k, s, h => all_run (g := k s.puts.length) (s := s) (h _)
  | back m k, s, h => all_run (g := k) (s := s.back m) h
theorem all_bind {φ : β → Prop} {ψ : α → Prop} {f : α → Pg β} (hf : ∀ a, ψ a → All φ (f a)) : ∀ {g : Pg α}, All ψ g → All φ (g >>= f)
  | ret a, h => hf a h
  | get _ _, h => fun v => all_bind hf (h v)
  | put _ _ k, h => all_bind (g := k) hf h
  | mark _, h => fun m => all_bind hf (h m)
  | back _ k, h => all_bind (g := k) hf h
theorem all_then {φ : β → Prop} {f : α → Pg β} (hf : ∀ a, All φ (f a)) : ∀ {g : Pg α}, All φ (g >>= f)
  | ret a => hf a
  | get _ _ => fun _ => all_then hf
  | put _ _ k => all_then (g := k) hf
  | mark _ => fun _ => all_then hf
  | back _ k => all_then (g := k) hf
theorem all_ite {φ : α → Prop} {c : Prop} [Decidable c] {x y : Pg α} (hx : c → All φ x) (hy : ¬ c → All φ y) : All φ (if c then x else y) := by split; exact hx ‹_›; exact hy ‹_›
theorem all_pure {φ : α → Prop} {a : α} (h : φ a) : All φ (pure a : Pg α) := h
end Pg
structure At {α : Type} (R : α × Sp) (g : Pg α) (s : Sp) : Prop where
  eq : R = Pg.run g s
  fits : Pg.Fits g s
theorem At.start {α : Type} {g : Pg α} {s : Sp} (h : Pg.Fits g s) : At (Pg.run g s) g s := ⟨rfl, h⟩
theorem At.step {α β : Type} {R : β × Sp} {g : Pg α} {f : α → Pg β} {s : Sp} (h : At R (g >>= f) s) : Pg.Fits g s ∧ At R (f (Pg.run g s).1) (Pg.run g s).2 :=
  ⟨(Pg.fits_bind f g s h.fits).1, h.eq.trans (Pg.run_bind f g s), (Pg.fits_bind f g s h.fits).2⟩
theorem At.to {α : Type} {R : α × Sp} {g g' : Pg α} {s : Sp} (h : At R g s) (e : g = g') : At R g' s := e ▸ h
theorem At.done {α : Type} {R : α × Sp} {a : α} {s : Sp} (h : At R (Pg.ret a) s) : R = (a, s) := h.eq
end Sim

namespace Go.Proofs.YtloekplbhknepaaGreat
open Go.Vc Sim

abbrev FnG {α : Type} (w0 : World) (sh : Shared) (f : FuncId) (args : List Value) (p : Nat) (g : Pg α) (enc : α → Value) : Prop :=
  ∀ s, Pg.Fits g s → FnE PP w0 sh f args [SpaceA p s] (enc (Pg.run g s).1) [SpaceA p (Pg.run g s).2]

section
variable {w0 : World} {n : Nat} {sh shf : Shared} {Q : Exit → Env → List Deferred → List Asn → Prop} {k : List Item} {ρ : Env} {df : List Deferred} {Γ Γr : List Asn}
variable {ops : Array Oper} {l : List (Fl × Nat × Oper)} {i : Nat} {ty : TypeId} {pos : String} {aft : Array Edge} {dst : Option Tmp}
variable {f : FuncId} {args : List Value} {fo : Operand} {cargs : Array Operand} {ats : Array TypeId} {first cap : Array Value}
theorem reg_callG (is : List Nat) {α β : Type} {R : β × Sp} {g : Pg α} {kk : α → Pg β} {s : Sp} {p : Nat} {enc : α → Value} (hG : At R (g >>= kk) s) (spec : FnG w0 shf f args p g enc)
    (hfo : ev ρ fo = .func (.func f) first cap) (hargs : first.toList ++ cargs.toList.map (ev ρ) ++ cap.toList = args)
    (hp : pick is Γ = some ([SpaceA p s], Γr)) (hsh : ∀ p ∈ shf, p ∈ sh) (h : ∀ x s', At R (kk x) s' → Reg PP w0 n sh Q ops l k (ρ.setO dst (enc x)) df (SpaceA p s' :: Γr)) :
    Reg PP w0 n sh Q ops ((Fl.loud, i, ⟨dst, .call ⟨.value fo, cargs, ats⟩, ty, pos, aft, none⟩) :: l) k ρ df Γ :=
  zah is (spec s hG.step.1) hfo hargs hp hsh rfl (h _ _ hG.step.2)
theorem reg_callGP (is : List Nat) {α β : Type} {R : β × Sp} {g : Pg α} {kk : α → Pg β} {s : Sp} {p : Nat} {enc : α → Value} {φ : α → Prop} (hG : At R (g >>= kk) s) (hφ : Pg.All φ g) (spec : FnG w0 shf f args p g enc)
    (hfo : ev ρ fo = .func (.func f) first cap) (hargs : first.toList ++ cargs.toList.map (ev ρ) ++ cap.toList = args)
    (hp : pick is Γ = some ([SpaceA p s], Γr)) (hsh : ∀ p ∈ shf, p ∈ sh) (h : ∀ x s', φ x → At R (kk x) s' → Reg PP w0 n sh Q ops l k (ρ.setO dst (enc x)) df (SpaceA p s' :: Γr)) :
    Reg PP w0 n sh Q ops ((Fl.loud, i, ⟨dst, .call ⟨.value fo, cargs, ats⟩, ty, pos, aft, none⟩) :: l) k ρ df Γ :=
  zah is (spec s hG.step.1) hfo hargs hp hsh rfl (h _ _ (Pg.all_run hφ) hG.step.2)
end
theorem getG (w0 : World) (p : Nat) (x : Int) : FnG w0 [] 46 [spP p, .int .i64 x] p (Pg.gt x) (.int .i64) := fun s h => get_spec w0 p s x h.1
theorem putG (w0 : World) (p : Nat) (x v : Int) : FnG w0 [] 53 [spP p, .int .i64 x, .int .i64 v] p (Pg.pt x v) (fun _ => .tuple #[]) := fun s h => put_spec w0 p s x v h.1
theorem markG (w0 : World) (p : Nat) : FnG w0 [] 48 [spP p] p Pg.mk (fun m => .int .i64 m) := fun s _ => mark_spec w0 p s
end Go.Proofs.YtloekplbhknepaaGreat

namespace Sim
open Go Go.Vc

def Sm (s : Sp) (j : Nat) : Prop := s.puts.length + j ≤ 1099511627776
theorem Sm.mono {s : Sp} {j i : Nat} (h : Sm s j) (hi : i ≤ j) : Sm s i := by unfold Sm at *; omega
def w64 (x : Int) : Int := IntKind.i64.wrap x

structure Pl where
  root : Int
  frm : Int
  nodes : Int
def Pl.chk (P : Pl) : Int :=
  if P.root < 0 ∨ P.frm < 1 ∨ P.nodes < 0 ∨ 128 < P.nodes then 1 else if 4093 < P.root ∨ 4096 - 8 * P.nodes < P.frm then 1 else if 0 < P.nodes ∧ P.frm < P.root + 3 ∧ P.root < P.frm + 8 * P.nodes then 1 else 0
def Pl.Ok (P : Pl) : Prop := P.chk = 0 ∧ 0 ≤ P.root ∧ P.root ≤ 4093 ∧ 1 ≤ P.frm ∧ P.frm ≤ 4096 ∧ 0 ≤ P.nodes ∧ P.nodes ≤ 128
def Pl.node (P : Pl) (a : Int) : Bool := decide (P.frm ≤ a) && decide ((w64 (a - P.frm)).tmod 8 = 0) && decide (w64 ((w64 (a - P.frm)).tdiv 8) < P.nodes)
def Pl.idx (P : Pl) (a : Int) : Int := if P.node a then w64 ((w64 (a - P.frm)).tdiv 8) else 0
def Pl.add (P : Pl) (s : Sp) (c n : Int) : Sp := (s.get (P.root + c)).2.put (P.root + c) (w64 ((s.get (P.root + c)).1 + n))
def Pl.take (P : Pl) (s : Sp) : Int × Int × Sp :=
  if (s.get P.root).1 ≠ 0 then
    if P.node (s.get P.root).1 then
      ((s.get P.root).1, 0, P.add (((s.get P.root).2.get (s.get P.root).1).2.put P.root ((s.get P.root).2.get (s.get P.root).1).1) 2 (-1))
    else (0, 24, (s.get P.root).2)
  else
    if ((s.get P.root).2.get (P.root + 1)).1 < 0 ∨ P.nodes ≤ ((s.get P.root).2.get (P.root + 1)).1 then (0, 9, ((s.get P.root).2.get (P.root + 1)).2)
    else (P.frm + 8 * ((s.get P.root).2.get (P.root + 1)).1, 0, ((s.get P.root).2.get (P.root + 1)).2.put (P.root + 1) (((s.get P.root).2.get (P.root + 1)).1 + 1))
def Pl.give (P : Pl) (s : Sp) (a : Int) : Int × Sp :=
  if P.node a then (0, P.add (((s.get P.root).2.put a (s.get P.root).1).put P.root a) 2 1) else (1, s)
def Pl.left (P : Pl) (s : Sp) : Int × Sp :=
  (max (w64 (w64 ((s.get (P.root + 2)).1 + P.nodes) - ((s.get (P.root + 2)).2.get (P.root + 1)).1)) 0, ((s.get (P.root + 2)).2.get (P.root + 1)).2)
end Sim

namespace Go.Proofs.YtloekplbhknepaaGreat
open Go.Vc Sim
def poolV (P : Pl) : Value := .agg #[.int .i64 P.root, .int .i64 P.frm, .int .i64 P.nodes]
theorem check_spec (w0 : World) (P : Pl) (hP : P.Ok) : FnE PP w0 [] 70 [poolV P] [] (.int .i64 0) [] := by
  obtain ⟨h, _⟩ := hP
  refine fn_of_run en70 fn70 rfl rfl rfl ?_
  repeat (first | refine zck ?_ | refine zcl ?_ | refine zcm ?_ | refine zcn ?_)
  first | refine zcp (by kernel_rfl) ?_ | refine zcq PP_mixed (by kernel_rfl) (by kernel_rfl) ?_
  repeat' (refine zap rfl ?_; first | ((with_reducible refine zcv ?_); refine zan rfl ?_) | ((with_reducible refine zdg ?_); refine zaq (cs := [_, _, _]) rfl (fun nb => ?_)))
  all_goals refine zch ?_
  all_goals repeat (first | refine zck ?_ | refine zcl ?_ | refine zcm ?_ | refine zcn ?_)
  refine run_share [0] rfl ?_
  repeat' (first | refine zck ?_ | refine zcp (by kernel_rfl) ?_ | refine zcm ?_ | refine zcn ?_ | (refine zap rfl ?_; first | ((with_reducible refine zct ?_); first | refine zaj rfl ?_ | refine zak rfl ?_ | refine zam rfl rfl (fun _ => ?_) (fun _ => ?_)) | ((with_reducible refine zcu ?_); refine zan rfl ?_) | ((with_reducible refine zcv ?_); refine zan rfl ?_) | ((with_reducible refine zcw ?_); refine zaa 0 rfl rfl rfl ?_) | ((with_reducible refine zcy ?_); refine zao rfl ?_) | ((with_reducible refine zda ?_); first | refine zau rfl rfl (by omega) ?_ | refine zav rfl rfl (by omega) ?_ | refine zaw rfl rfl (by omega) ?_ | refine zbq rfl rfl ?_ | refine zbs rfl rfl ?_) | ((with_reducible refine zdc ?_); first | refine zbu rfl ?_ | refine zbv rfl ?_)) | refine zch ?_ | refine zci rfl ?_ | refine zcj rfl ?_ | refine run_cond rfl (fun _ => ?_) (fun _ => ?_))
  all_goals (refine ret_tmp1 rfl ?_; refine ⟨int_eq ?_, rfl⟩)
  all_goals (unfold Pl.chk at h; split at h <;> try split at h <;> try split at h)
  all_goals omega

theorem node_spec (w0 : World) (P : Pl) (hP : P.Ok) (a : Int) : FnE PP w0 [] 108 [poolV P, .int .i64 a] [] (.tuple #[.int .i64 (P.idx a), .bool (P.node a)]) [] := by
  refine fn_of_run en108 fn108 rfl rfl rfl ?_
  repeat (first | refine zck ?_ | refine zcl ?_ | refine zcm ?_ | refine zcn ?_)
  first | refine zcp (by kernel_rfl) ?_ | refine zcq PP_mixed (by kernel_rfl) (by kernel_rfl) ?_
  repeat' (refine zap rfl ?_; first | ((with_reducible refine zcv ?_); refine zan rfl ?_) | ((with_reducible refine zdg ?_); refine zaq (cs := [_, _, _]) rfl (fun nb => ?_)))
  all_goals refine zch ?_
  all_goals repeat (first | refine zck ?_ | refine zcl ?_ | refine zcm ?_ | refine zcn ?_)
  refine run_share [0] rfl ?_
  repeat' (first | refine zck ?_ | refine zcp (by kernel_rfl) ?_ | refine zcm ?_ | (refine zap rfl ?_; first | refine reg_sub rfl rfl ?_ | refine reg_rem rfl rfl (by decide) ?_ | refine reg_quo rfl rfl (by decide) ?_ | ((with_reducible refine zct ?_); first | refine zaj rfl ?_ | refine zak rfl ?_ | refine zam rfl rfl (fun _ => ?_) (fun _ => ?_)) | ((with_reducible refine zcu ?_); refine zan rfl ?_) | ((with_reducible refine zcv ?_); refine zan rfl ?_) | ((with_reducible refine zcw ?_); refine zaa 0 rfl rfl rfl ?_) | ((with_reducible refine zcx ?_); refine zah [] (check_spec w0 P hP) rfl rfl rfl sub_nil rfl ?_) | ((with_reducible refine zcy ?_); refine zao rfl ?_) | ((with_reducible refine zda ?_); first | refine zbp rfl rfl ?_ | refine zbq rfl rfl ?_ | refine zbt rfl rfl ?_) | ((with_reducible refine zdc ?_); first | refine zbu rfl ?_ | refine zbv rfl ?_)) | refine zch ?_ | refine zci rfl ?_ | refine run_cond rfl (fun _ => ?_) (fun _ => ?_))
  all_goals refine ret_tmp2 rfl ⟨?_, rfl⟩
  all_goals refine congrArg Value.tuple (?_ : #[Value.int .i64 _, .bool _] = #[Value.int .i64 _, .bool _])
  all_goals simp_all [Pl.idx, Pl.node, w64, ← Int.not_lt]

end Go.Proofs.YtloekplbhknepaaGreat

namespace Sim
open Go Go.Vc
theorem w64_in {x : Int} (h0 : -9223372036854775808 ≤ x) (h1 : x ≤ 9223372036854775807) : w64 x = x := wrap64_id h0 h1
def Pl.addP (P : Pl) (c n : Int) : Pg Unit := do
  let v ← Pg.gt (P.root + c)
  let _ ← Pg.pt (P.root + c) (w64 (v + n))
  pure ()
def Pl.takeP (P : Pl) : Pg (Int × Int) := do
  let first ← Pg.gt P.root
  if first ≠ 0 then
    if P.node first = true then do
      let x ← Pg.gt first
      let _ ← Pg.pt P.root x
      let _ ← P.addP 2 (-1)
      pure (first, 0)
    else pure (0, 24)
  else do
    let n ← Pg.gt (P.root + 1)
    if n < 0 ∨ P.nodes ≤ n then pure (0, 9) else do
      let _ ← Pg.pt (P.root + 1) (n + 1)
      pure (P.frm + 8 * n, 0)
def Pl.giveP (P : Pl) (a : Int) : Pg Int :=
  if P.node a = true then do
    let f ← Pg.gt P.root
    let _ ← Pg.pt a f
    let _ ← Pg.pt P.root a
    let _ ← P.addP 2 1
    pure 0
  else pure 1
def Pl.leftP (P : Pl) : Pg Int := do
  let f ← Pg.gt (P.root + 2)
  let h ← Pg.gt (P.root + 1)
  pure (max (w64 (w64 (f + P.nodes) - h)) 0)
def encI2 (r : Int × Int) : Value := .tuple #[.int .i64 r.1, .int .i64 r.2]
def encU (_ : Unit) : Value := .tuple #[]
theorem bd_takeP (P : Pl) : Pg.Bd 2 P.takeP := by
  intro v
  dsimp only
  refine Pg.bd_ite (Pg.bd_ite (fun _ => fun _ => trivial) trivial) (fun _ => Pg.bd_ite trivial trivial)
theorem bd_giveP (P : Pl) (a : Int) : Pg.Bd 3 (P.giveP a) := Pg.bd_ite (fun _ => fun _ => trivial) trivial
theorem bd_leftP (P : Pl) : Pg.Bd 0 P.leftP := fun _ => fun _ => trivial
end Sim
namespace Go.Proofs.YtloekplbhknepaaGreat
open Go.Vc Sim
theorem addG (w0 : World) (p : Nat) (P : Pl) (hP : P.Ok) (c m : Int) (hc : 0 ≤ c ∧ c ≤ 3) : FnG w0 [] 109 [poolV P, spP p, .int .i64 c, .int .i64 m] p (P.addP c m) encU := by
  obtain ⟨_, h1, h2, h3, h4, h5, h6⟩ := id hP
  intro s hF; have hG := At.start hF; generalize Pg.run _ s = R at hG ⊢
  refine fn_of_run en109 fn109 rfl rfl rfl ?_
  repeat (first | refine zck ?_ | refine zcl ?_ | refine zcm ?_ | refine zcn ?_)
  first | refine zcp (by kernel_rfl) ?_ | refine zcq PP_mixed (by kernel_rfl) (by kernel_rfl) ?_
  repeat' (refine zap rfl ?_; first | ((with_reducible refine zdg ?_); refine zaq (cs := [_, _, _]) rfl (fun nb => ?_)))
  all_goals refine zch ?_
  all_goals repeat (first | refine zck ?_ | refine zcl ?_ | refine zcm ?_ | refine zcn ?_)
  refine run_share [1] rfl ?_
  repeat' (first | refine zcq PP_mixed (by kernel_rfl) (by kernel_rfl) ?_ | (refine zap rfl ?_; first | refine reg_add (t := 2) rfl rfl ?_ | ((with_reducible refine zcu ?_); refine zan rfl ?_) | ((with_reducible refine zcw ?_); refine zaa 0 rfl rfl rfl ?_) | ((with_reducible refine zcx ?_); first | refine reg_callG [0] hG (getG w0 p _) rfl rfl rfl sub_nil (fun x s hG => ?_) | refine reg_callG [0] hG (putG w0 p _ _) rfl rfl rfl sub_nil (fun x s hG => ?_)) | ((with_reducible refine zcy ?_); refine zao rfl ?_) | ((with_reducible refine zda ?_); refine zau rfl rfl (by omega) ?_)) | refine zch ?_)
  rw [hG.done]
  refine end_tmp0 rfl ⟨rfl, rfl⟩
end Go.Proofs.YtloekplbhknepaaGreat

namespace Go.Proofs.YtloekplbhknepaaGreat
open Go.Vc Sim
theorem takeG (w0 : World) (p : Nat) (P : Pl) (hP : P.Ok) : FnG w0 [] 88 [poolV P, spP p] p P.takeP encI2 := by
  obtain ⟨_, h1, h2, h3, h4, h5, h6⟩ := id hP
  intro s hF; have hG := At.start hF; generalize Pg.run _ s = R at hG ⊢
  refine fn_of_run en88 fn88 rfl rfl rfl ?_
  repeat (first | refine zck ?_ | refine zcl ?_ | refine zcm ?_ | refine zcn ?_)
  first | refine zcp (by kernel_rfl) ?_ | refine zcq PP_mixed (by kernel_rfl) (by kernel_rfl) ?_
  repeat' (refine zap rfl ?_; first | ((with_reducible refine zcv ?_); refine zan rfl ?_) | ((with_reducible refine zdg ?_); refine zaq (cs := [_, _, _]) rfl (fun nb => ?_)))
  all_goals refine zch ?_
  all_goals repeat (first | refine zck ?_ | refine zcl ?_ | refine zcm ?_ | refine zcn ?_)
  refine run_share [1] rfl ?_
  repeat' (first | refine zck ?_ | refine zcp (by kernel_rfl) ?_ | refine zcm ?_ | (refine zap rfl ?_; first | ((with_reducible refine zcu ?_); refine zan rfl ?_) | ((with_reducible refine zcv ?_); refine zan rfl ?_) | ((with_reducible refine zcw ?_); refine zaa 0 rfl rfl rfl ?_) | ((with_reducible refine zcx ?_); first | refine zah [] (check_spec w0 P hP) rfl rfl rfl sub_nil rfl ?_ | refine reg_callG [0] hG (getG w0 p _) rfl rfl rfl sub_nil (fun x s hG => ?_)) | ((with_reducible refine zcy ?_); refine zao rfl ?_) | ((with_reducible refine zda ?_); refine zbp rfl rfl ?_)) | refine zch ?_ | refine zcj rfl ?_)
  refine run_cond rfl (fun hE => ?_) (fun hE => ?_)
  · simp only [if_pos hE] at hG
    repeat' (first | refine zck ?_ | refine zcp (by kernel_rfl) ?_ | (refine zap rfl ?_; first | ((with_reducible refine zcu ?_); refine zan rfl ?_) | ((with_reducible refine zcv ?_); refine zan rfl ?_) | ((with_reducible refine zcw ?_); refine zaa 0 rfl rfl rfl ?_) | ((with_reducible refine zcx ?_); refine zah [] (node_spec w0 P hP _) rfl rfl rfl sub_nil rfl ?_) | ((with_reducible refine zcz ?_); refine zan rfl ?_) | ((with_reducible refine zdb ?_); refine zbx rfl ?_)) | refine zch ?_)
    refine run_condV rfl (fun hN => ?_) (fun hN => ?_)
    · have hN : P.node x = false := by simpa using hN
      simp only [hN, Bool.false_eq_true, if_false] at hG
      repeat' (first | refine zck ?_ | refine zcp (by kernel_rfl) ?_ | (refine zap rfl ?_; first | ((with_reducible refine zcv ?_); refine zan rfl ?_)) | refine zch ?_)
      rw [hG.done]
      exact ret_tmp2 rfl ⟨rfl, rfl⟩
    · have hN : P.node x = true := by simpa using hN
      simp only [hN, if_true] at hG
      repeat' (first | refine zck ?_ | refine zcp (by kernel_rfl) ?_ | refine zcq PP_mixed (by kernel_rfl) (by kernel_rfl) ?_ | refine zcm ?_ | (refine zap rfl ?_; first | ((with_reducible refine zcu ?_); refine zan rfl ?_) | ((with_reducible refine zcv ?_); refine zan rfl ?_) | ((with_reducible refine zcw ?_); refine zaa 0 rfl rfl rfl ?_) | ((with_reducible refine zcx ?_); first | refine reg_callG [0] hG (getG w0 p _) rfl rfl rfl sub_nil (fun x s hG => ?_) | refine reg_callG [0] hG (putG w0 p _ _) rfl rfl rfl sub_nil (fun x s hG => ?_) | refine reg_callG [0] hG (addG w0 p P hP _ _ (by decide)) rfl rfl rfl sub_nil (fun x s hG => ?_)) | ((with_reducible refine zcy ?_); refine zao rfl ?_)) | refine zch ?_)
      rw [hG.done]
      exact ret_tmp2 rfl ⟨rfl, rfl⟩
  · simp only [if_neg hE] at hG
    repeat' (first | refine zck ?_ | refine zcp (by kernel_rfl) ?_ | refine zcm ?_ | (refine zap rfl ?_; first | ((with_reducible refine zct ?_); first | refine zaj rfl ?_ | refine zak rfl ?_ | refine zam rfl rfl (fun _ => ?_) (fun _ => ?_)) | ((with_reducible refine zcu ?_); refine zan rfl ?_) | ((with_reducible refine zcv ?_); refine zan rfl ?_) | ((with_reducible refine zcw ?_); refine zaa 0 rfl rfl rfl ?_) | ((with_reducible refine zcx ?_); refine reg_callG [0] hG (getG w0 p _) rfl rfl rfl sub_nil (fun x s hG => ?_)) | ((with_reducible refine zcy ?_); refine zao rfl ?_) | ((with_reducible refine zda ?_); first | refine zau rfl rfl (by omega) ?_ | refine zbq rfl rfl ?_ | refine zbt rfl rfl ?_) | ((with_reducible refine zdc ?_); first | refine zbu rfl ?_ | refine zbv rfl ?_)) | refine zch ?_ | refine zci rfl ?_ | refine run_cond rfl (fun _ => ?_) (fun _ => ?_))
    all_goals first | rw [if_pos (by omega)] at hG | rw [if_neg (by omega)] at hG
    · rw [hG.done]
      exact ret_tmp2 rfl ⟨rfl, rfl⟩
    · rw [hG.done]
      exact ret_tmp2 rfl ⟨rfl, rfl⟩
    · repeat' (first | refine zck ?_ | refine zcp (by kernel_rfl) ?_ | (refine zap rfl ?_; first | ((with_reducible refine zcu ?_); refine zan rfl ?_) | ((with_reducible refine zcv ?_); refine zan rfl ?_) | ((with_reducible refine zcw ?_); refine zaa 0 rfl rfl rfl ?_) | ((with_reducible refine zcx ?_); refine reg_callG [0] hG (putG w0 p _ _) rfl rfl rfl sub_nil (fun x s hG => ?_)) | ((with_reducible refine zcy ?_); refine zao rfl ?_) | ((with_reducible refine zda ?_); first | refine zau rfl rfl (by omega) ?_ | refine zaw rfl rfl (by omega) ?_)) | refine zch ?_)
      rw [hG.done]
      exact ret_tmp2 rfl ⟨rfl, rfl⟩
end Go.Proofs.YtloekplbhknepaaGreat

